/- The law GrammarTells, walked: it answers true. Printed by mkT8.py. -/
import Derived.Test.YtphmmppmhphgeaaT6
import Derived.Test.YtphmmppmhphgeaaT7
import Derived.Test.YtphmmppmhphgeaaQ3
import Derived.Test.YtphmmppmhphgeaaS1
import Derived.Test.YtphmmppmhphgeaaF3
set_option linter.unusedVariables false
set_option linter.unusedSimpArgs false
namespace Go.Proofs.Ytphmmppmhphgeaa
open Go.RowKit Go.Proofs.YtphmmppmhphgeaaW.PrintWords Go.Proofs.YtphmmppmhphgeaaW.PrintLast

theorem of1_t (s : ByteArray) (w : World) {g : Gram} {a p : Int} (ht : ofT s = (g, a, p)) : Calls Try.prog 18 #[.string s] w fun e w' => (∃ A1 A2 A3 c1 c2 c3, e = .returned (.agg #[.slice A1 g.terms.length c1, .slice A2 g.names.length c2, .slice A3 g.rules.length c3, .int .i64 a, .int .i64 p]) ∧ RepG w' g A1 A2 A3 c1 c2 c3) ∧ Below w.heap.size w w' := by
  refine (of1_g s w).mono ?_
  rintro e w' ⟨he, hb⟩
  refine ⟨?_, hb⟩
  unfold ofT at ht
  cases hof : ofF s with
  | error q =>
    obtain ⟨x, y⟩ := q
    rw [hof] at he ht
    injection ht with h1 h2
    injection h2 with h2 h3
    subst h1 h2 h3
    exact ⟨none, none, none, 0, 0, 0, he, empty_rep w'⟩
  | ok g' =>
    rw [hof] at he ht
    injection ht with h1 h2
    injection h2 with h2 h3
    subst h1 h2 h3
    exact he
def nmS (o : Option ByteArray) : ByteArray := o.getD ⟨#[]⟩
theorem name_s {o : Option ByteArray} {e : Ending} (h : NameEnd o e) : e = .returned (.tuple #[.string (nmS o), .bool o.isSome]) := by
  cases o <;> exact h
theorem name1_s {o : Option ByteArray} {e : Ending} (h : Name1End o e) : e = .returned (.agg #[.string (nmS o), .bool o.isSome]) := by
  cases o <;> exact h

set_option maxRecDepth 100000 in
set_option maxHeartbeats 16000000 in
theorem tells_c (s : ByteArray) (g : Gram) (A1 A2 A3 : Option Addr) (c1 c2 c3 : Nat) (sym : Int) (w : World) (hg : RepG w g A1 A2 A3 c1 c2 c3) (hz : Sized g) (hi : -9223372036854775808 ≤ sym ∧ sym ≤ 9223372036854775807) :
    Calls Try.prog 3 #[.string s, .agg #[.slice A1 g.terms.length c1, .slice A2 g.names.length c2, .slice A3 g.rules.length c3], .int .i64 sym] w fun e w' => e = .returned (.bool true) ∧ Below w.heap.size w w' := by
  obtain ⟨v0, hv0⟩ : ∃ v0 : World, v0 = w.alloc (.cells #[.slice A1 g.terms.length c1, .slice A2 g.names.length c2, .slice A3 g.rules.length c3] 25 (0, 0)) := ⟨_, rfl⟩
  have HB0 : Aside0 (Below w.heap.size w v0) := ⟨by rw [hv0]; exact (Below.refl w.heap.size w).alloc (Nat.le_refl _) _⟩
  have HP0 : Aside0 (v0.heap[w.heap.size]? = some (.cells #[.slice A1 g.terms.length c1, .slice A2 g.names.length c2, .slice A3 g.rules.length c3] 25 (0, 0))) := ⟨by rw [hv0]; exact blk_new w _⟩
  have HG0 := Aside0.mk (hg.below_ HB0.out)
  have HZ := Aside0.mk hz
  have HI := Aside0.mk hi
  clear hg hz
  by_cases hbig : 4000 < s.size
  · have q1 : (4000 : Int) < (s.size : Int) := by omega
    go_enter Try.func3, Try.ntmps3
    go_wp2_with (go_at_call 16; go_loud (simp only [← hv0]; refine (wakes03_c _).mono ?_; rintro e w9 ⟨rfl, hb9⟩; have HB9 := Aside0.mk (below_then HB0.out HB0.out.size hb9); clear hb9))
    go_ret
    exact ⟨ret_bool rfl, HB9.out⟩
  · have q1 : ¬ (4000 : Int) < (s.size : Int) := by omega
    have z0 : v0.cell? ⟨w.heap.size, 0, none⟩ = some (.slice A1 g.terms.length c1) := (blk_cell HP0.out 0).trans rfl
    have z1 : v0.cell? ⟨w.heap.size, 1, none⟩ = some (.slice A2 g.names.length c2) := (blk_cell HP0.out 1).trans rfl
    have z2 : v0.cell? ⟨w.heap.size, 2, none⟩ = some (.slice A3 g.rules.length c3) := (blk_cell HP0.out 2).trans rfl
    rw [hv0] at z0 z1 z2
    obtain ⟨T, hT⟩ : ∃ T, ofT s = T := ⟨_, rfl⟩
    obtain ⟨G, a, p⟩ := T
    have HT := Aside0.mk hT
    obtain ⟨nx, hnx⟩ : ∃ nx, nmS (nameF g sym) = nx := ⟨_, rfl⟩
    obtain ⟨nb, hnb⟩ : ∃ nb, (nameF g sym).isSome = nb := ⟨_, rfl⟩
    obtain ⟨gb, hgb⟩ : ∃ gb, goodF g = gb := ⟨_, rfl⟩
    have HNX := Aside0.mk hnx
    have HNB := Aside0.mk hnb
    have HGB := Aside0.mk hgb
    clear hT hnx hnb hgb hbig hi
    go_enter Try.func3, Try.ntmps3
    go_wp2_with (first | (have hx := HB5.out; go_at_call 21; go_loud (refine (name1_c g A1 A2 A3 c1 c2 c3 sym w5 (HG3.out.below_ HC5.out) (by have := HS.out (by first | rfl | assumption | (cases b <;> simp_all)); have h1 := this.terms; have h2 := this.names; omega) HI.out).mono ?_; rintro e w6 ⟨he6, hb6⟩; have he6 := name1_s he6; rw [HNX.out, HNB.out] at he6; subst he6; obtain ⟨v6, hv6⟩ : ∃ v6 : World, v6 = w6.alloc (.cells #[.string nx, .bool nb] 40 (0, 0)) := ⟨_, rfl⟩; have hc6 : Below w5.heap.size w5 v6 := (by rw [hv6]; exact below_alloc hb6 _); have HC6 := Aside0.mk hc6; have K13 : Aside0 (v6.heap[w6.heap.size]? = some (.cells #[.string nx, .bool nb] 40 (0, 0))) := ⟨by rw [hv6]; exact blk_new w6 _⟩; clear hc6 hb6)) | (have hx := HB4.out; go_at_call 20; go_loud (simp only [← hv4]; refine (name_c g B1 B2 B3 d1 d2 d3 sym v4 HO4.out (by have := HS.out (by first | rfl | assumption | (cases b <;> simp_all)); have h1 := this.terms; have h2 := this.names; omega) HI.out).mono ?_; rintro e w5 ⟨he5, hb5⟩; have he5 := name_s he5; rw [HNX.out, HNB.out] at he5; subst he5; have HC5 := Aside0.mk (below_then HC4.out HC4.out.size hb5); have HB5 := Aside0.mk (below_then HB4.out HB4.out.size hb5); have HD5 := Aside0.mk hb5; have x0 := (blk_cell (blk_below (blk_below (blk_below HQ2.out HC3.out) HC4.out) hb5) 0).trans rfl; have x1 := (blk_cell (blk_below (blk_below (blk_below HQ2.out HC3.out) HC4.out) hb5) 1).trans rfl; have x2 := (blk_cell (blk_below (blk_below (blk_below HQ2.out HC3.out) HC4.out) hb5) 2).trans rfl; clear hb5)) | (have hx := HB3.out; go_at_call 19; go_loud (simp only [← hv3]; refine (own_c g A1 A2 A3 c1 c2 c3 v3 HG3.out (by have := HS.out (by first | rfl | assumption | (cases b <;> simp_all)); exact ⟨by have := this.terms; omega, by have := this.names; omega, by have := this.rules; omega, fun r hr => by have := this.rights r hr; omega⟩)).mono ?_; rintro e w4 ⟨⟨B1, B2, B3, d1, d2, d3, rfl, ho⟩, hb4⟩; obtain ⟨v4, hv4⟩ : ∃ v4 : World, v4 = w4.alloc (.cells #[.slice B1 g.terms.length d1, .slice B2 g.names.length d2, .slice B3 g.rules.length d3] 25 (0, 0)) := ⟨_, rfl⟩; have hc4 : Below v3.heap.size v3 v4 := (by rw [hv4]; exact below_alloc hb4 _); have HC4 := Aside0.mk hc4; have HB4 := Aside0.mk (below_then HB3.out HB3.out.size hc4); have HP4 : Aside0 (v4.heap[w4.heap.size]? = some (.cells #[.slice B1 g.terms.length d1, .slice B2 g.names.length d2, .slice B3 g.rules.length d3] 25 (0, 0))) := ⟨by rw [hv4]; exact blk_new w4 _⟩; have HO4 : Aside0 (RepG v4 g B1 B2 B3 d1 d2 d3) := ⟨by rw [hv4]; exact ho.rep.below_ (below_alloc (Below.refl _ _) _)⟩; have x0 := (blk_cell HP4.out 0).trans rfl; have x1 := (blk_cell HP4.out 1).trans rfl; have x2 := (blk_cell HP4.out 2).trans rfl; rw [hv4] at x0 x1 x2; clear hc4 hb4 ho)) | (have hx := HB2.out; go_at_call 18; go_loud (simp only [← hv2]; refine (of1_t s v2 HT.out).mono ?_; rintro e w3 ⟨⟨E1, E2, E3, f1, f2, f3, rfl, hH3⟩, hb3⟩; obtain ⟨v3, hv3⟩ : ∃ v3 : World, v3 = w3.alloc (.cells #[.slice E1 G.terms.length f1, .slice E2 G.names.length f2, .slice E3 G.rules.length f3, .int .i64 a, .int .i64 p] 34 (0, 0)) := ⟨_, rfl⟩; have hc3 : Below v2.heap.size v2 v3 := (by rw [hv3]; exact below_alloc hb3 _); have HC3 := Aside0.mk hc3; have HB3 := Aside0.mk (below_then HB2.out HB2.out.size hc3); have HP3 : Aside0 (v3.heap[w3.heap.size]? = some (.cells #[.slice E1 G.terms.length f1, .slice E2 G.names.length f2, .slice E3 G.rules.length f3, .int .i64 a, .int .i64 p] 34 (0, 0))) := ⟨by rw [hv3]; exact blk_new w3 _⟩; have HH3 : Aside0 (RepG v3 G E1 E2 E3 f1 f2 f3) := ⟨by rw [hv3]; exact hH3.below_ (below_alloc (Below.refl _ _) _)⟩; have HG3 := Aside0.mk (HG2.out.below_ hc3); have x0 := (blk_cell (blk_below HQ2.out hc3) 0).trans rfl; have x1 := (blk_cell (blk_below HQ2.out hc3) 1).trans rfl; have x2 := (blk_cell (blk_below HQ2.out hc3) 2).trans rfl; rw [hv3] at x0 x1 x2; clear hc3 hb3 hH3)) | (have hx := HB1.out; go_at_call 17; go_loud (refine (of_t s w1 HT.out).mono ?_; rintro e w2 ⟨⟨D1, D2, D3, e1, e2, e3, rfl, hD2⟩, hb2⟩; obtain ⟨v2, hv2⟩ : ∃ v2 : World, v2 = (w2.alloc (.cells #[.slice D1 G.terms.length e1, .slice D2 G.names.length e2, .slice D3 G.rules.length e3] 25 (0, 0))).alloc (.cells #[.int .i64 a, .int .i64 p] 30 (0, 0)) := ⟨_, rfl⟩; have hc2 : Below w1.heap.size w1 v2 := (by rw [hv2]; exact below_alloc (below_alloc hb2 _) _); have HB2 := Aside0.mk (below_then HB1.out HB1.out.size hc2); have HP2 : Aside0 (v2.heap[w2.heap.size]? = some (.cells #[.slice D1 G.terms.length e1, .slice D2 G.names.length e2, .slice D3 G.rules.length e3] 25 (0, 0))) := ⟨by rw [hv2]; exact blk_alloc (blk_new w2 _) _⟩; have HF2 : Aside0 (v2.heap[w2.heap.size + 1]? = some (.cells #[.int .i64 a, .int .i64 p] 30 (0, 0))) := ⟨by rw [hv2]; exact blk_two w2 _ _⟩; have HD2 : Aside0 (RepG v2 G D1 D2 D3 e1 e2 e3) := ⟨by rw [hv2]; exact hD2.below_ (below_alloc (below_alloc (Below.refl _ _) _) _)⟩; have HG2 := Aside0.mk (HG1.out.below_ hc2); have HQ2 := Aside0.mk (blk_below HP1.out hc2); clear hc2 hb2 hD2)) | (have hx := HB1.out; go_at_call 16; go_loud (refine (wakes03_c _).mono ?_; rintro e w9 ⟨rfl, hb9⟩; have HB9 := Aside0.mk (below_then HB1.out HB1.out.size hb9); clear hb9)) | (go_at_call 15; go_loud (simp only [← hv0]; refine (large_c g A1 A2 A3 c1 c2 c3 _ HG0.out).mono ?_; rintro e w1 ⟨⟨b, rfl, hs⟩, hb1⟩; have HB1 := Aside0.mk (below_then HB0.out HB0.out.size hb1); have HS := Aside0.mk hs; have HP1 := Aside0.mk (blk_below HP0.out hb1); have HG1 := Aside0.mk (HG0.out.below_ hb1); clear hs hb1; have y0 := (blk_cell HP1.out 0).trans rfl; have y1 := (blk_cell HP1.out 1).trans rfl; have y2 := (blk_cell HP1.out 2).trans rfl)))
    · go_ret
      exact ⟨ret_bool rfl, HB9.out⟩
    · simp only [← hv6]
      clear hv6 hv4 hv3 hv2 hv0 z0 z1 z2
      have hV3 := below_then HC5.out HC5.out.size HC6.out
      have hV2 := below_then HC3.out HC3.out.size hV3
      have hV4 := below_then HD5.out HD5.out.size HC6.out
      have K4 := Aside0.mk (blk_below HQ2.out hV2)
      have K7 := Aside0.mk (blk_below HP2.out hV2)
      have K8 := Aside0.mk (blk_below HF2.out hV2)
      have K9 := Aside0.mk (blk_below HP3.out hV3)
      have K10 := Aside0.mk (blk_below HP4.out hV4)
      have RD := Aside0.mk (HD2.out.below_ hV2)
      have RE := Aside0.mk (HH3.out.below_ hV3)
      have RB := Aside0.mk (HO4.out.below_ hV4)
      have RG := Aside0.mk (HG3.out.below_ hV3)
      have HBV := Aside0.mk (below_then HB5.out HB5.out.size HC6.out)
      clear hV2 hV3 hV4 HC3 HC4 HC5 HC6 HD5 HQ2 HP2 HF2 HP3 HP4 HD2 HH3 HO4 HG0 HG1 HG2 HG3 HB0 HB1 HB2 HB3 HB4 HB5 HP0 HP1
      rcases (show sym < 0 ∨ (0 ≤ sym ∧ sym < (g.terms.length : Int)) ∨ (0 ≤ sym ∧ ¬ sym < (g.terms.length : Int)) by omega) with hs0 | ⟨hs0, hs1⟩ | ⟨hs0, hs1⟩
      · have hs1 : ¬ 0 ≤ sym := by omega
        have HTF : Aside0 (termF g sym = false) := ⟨by simp [termF]; omega⟩
        refine start_ (n := 61) (S := fun w' => Below v6.heap.size v6 w') (ds := []) (lb 61 0x0) (by kernel_rfl) rfl (by kernel_rfl) (below_drew1 (Below.refl _ _)) (fun hHeld => ?_)
        refine pure_ (i := 1) (N := (some 41)) (v := ?_) (a' := ?_) (lb 61 0x2) rfl rfl (by kernel_rfl) (fun _ _ _ h => h) (Or.inl ⟨by rfl, ?_⟩) ?_ ?_
        rotate_left
        · (intro w'; go_simp; with_reducible rfl)
        rotate_left
        · (simp only [Act.put, List.setIfInBounds_toArray, List.set_cons_zero, List.set_cons_succ]; rfl)
        refine take_ (i := 0) (N := (some 40)) (v := ?_) (a' := ?_) (lb 61 0x3) rfl rfl (by kernel_rfl) (fun _ _ _ h => h) (Or.inl ⟨by rfl, ?_⟩) hHeld ?_ ?_
        rotate_left
        · (rintro w' hS; have d0 := (blk_cell (blk_below K7.out hS) 0).trans rfl; have d1 := (blk_cell (blk_below K7.out hS) 1).trans rfl; have d2 := (blk_cell (blk_below K7.out hS) 2).trans rfl; have d3 := (blk_cell (blk_below K9.out hS) 0).trans rfl; have d4 := (blk_cell (blk_below K9.out hS) 1).trans rfl; have d5 := (blk_cell (blk_below K9.out hS) 2).trans rfl; have d6 := (blk_cell (blk_below K9.out hS) 3).trans rfl; have d7 := (blk_cell (blk_below K9.out hS) 4).trans rfl; have d8 := (blk_cell (blk_below K8.out hS) 0).trans rfl; have d9 := (blk_cell (blk_below K8.out hS) 1).trans rfl; have d10 := (blk_cell (blk_below K10.out hS) 0).trans rfl; have d11 := (blk_cell (blk_below K10.out hS) 1).trans rfl; have d12 := (blk_cell (blk_below K10.out hS) 2).trans rfl; have d13 := (blk_cell (blk_below K4.out hS) 0).trans rfl; have d14 := (blk_cell (blk_below K4.out hS) 1).trans rfl; have d15 := (blk_cell (blk_below K4.out hS) 2).trans rfl; have d16 := (blk_cell (blk_below K13.out hS) 0).trans rfl; have d17 := (blk_cell (blk_below K13.out hS) 1).trans rfl; go_simp; with_reducible rfl)
        rotate_left
        · (simp only [Act.put, List.setIfInBounds_toArray, List.set_cons_zero, List.set_cons_succ]; rfl)
        refine take_ (i := 2) (N := (some 42)) (v := ?_) (a' := ?_) (lb 61 0x7) rfl rfl (by kernel_rfl) (fun _ _ _ h => h) (Or.inl ⟨by rfl, ?_⟩) hHeld ?_ ?_
        rotate_left
        · (rintro w' hS; have d0 := (blk_cell (blk_below K7.out hS) 0).trans rfl; have d1 := (blk_cell (blk_below K7.out hS) 1).trans rfl; have d2 := (blk_cell (blk_below K7.out hS) 2).trans rfl; have d3 := (blk_cell (blk_below K9.out hS) 0).trans rfl; have d4 := (blk_cell (blk_below K9.out hS) 1).trans rfl; have d5 := (blk_cell (blk_below K9.out hS) 2).trans rfl; have d6 := (blk_cell (blk_below K9.out hS) 3).trans rfl; have d7 := (blk_cell (blk_below K9.out hS) 4).trans rfl; have d8 := (blk_cell (blk_below K8.out hS) 0).trans rfl; have d9 := (blk_cell (blk_below K8.out hS) 1).trans rfl; have d10 := (blk_cell (blk_below K10.out hS) 0).trans rfl; have d11 := (blk_cell (blk_below K10.out hS) 1).trans rfl; have d12 := (blk_cell (blk_below K10.out hS) 2).trans rfl; have d13 := (blk_cell (blk_below K4.out hS) 0).trans rfl; have d14 := (blk_cell (blk_below K4.out hS) 1).trans rfl; have d15 := (blk_cell (blk_below K4.out hS) 2).trans rfl; have d16 := (blk_cell (blk_below K13.out hS) 0).trans rfl; have d17 := (blk_cell (blk_below K13.out hS) 1).trans rfl; go_simp; with_reducible rfl)
        rotate_left
        · (simp only [Act.put, List.setIfInBounds_toArray, List.set_cons_zero, List.set_cons_succ]; rfl)
        refine one_ (i := 3) (N := (some 43)) (lb 61 0xf) rfl rfl (by kernel_rfl) (by decide) (fun K hK => ?_)
        (refine goes_ Try.func22 (by kernel_rfl) rfl #[.agg #[.slice D1 G.terms.length e1, .slice D2 G.names.length e2, .slice D3 G.rules.length e3], .agg #[.slice E1 G.terms.length f1, .slice E2 G.names.length f2, .slice E3 G.rules.length f3]] (by rfl) rfl rfl (by simp [Act.eval]) ?_; refine (keepGrammar_c G G D1 D2 D3 E1 E2 E3 e1 e2 e3 f1 f2 f3 _ (RD.out.below_ hHeld) (RE.out.below_ hHeld)).mono ?_; rw [sameF_self]; rintro e w9 ⟨rfl, hb9⟩; refine ⟨_, rfl, ?_⟩; have HQ9 := Aside0.mk (below_then hHeld hHeld.size hb9); clear hb9; refine hK.out _ _ HQ9.out (fun hHeld => ?_))
        skip
        clear hK K
        refine norm_ (a' := ?_) ?_ ?_
        rotate_left
        · (show Act.put _ (some 43) _ = _; simp only [Act.put, List.setIfInBounds_toArray, List.set_cons_zero, List.set_cons_succ]; rfl)
        refine pure_ (i := 4) (N := (some 44)) (v := ?_) (a' := ?_) (lb 61 0x1f) rfl rfl (by kernel_rfl) (fun _ _ _ h => h) (Or.inl ⟨by rfl, ?_⟩) ?_ ?_
        rotate_left
        · (intro w'; go_simp; with_reducible rfl)
        rotate_left
        · (simp only [Act.put, List.setIfInBounds_toArray, List.set_cons_zero, List.set_cons_succ]; rfl)
        refine pure_ (i := 5) (N := (some 45)) (v := ?_) (a' := ?_) (lb 61 0x3f) rfl rfl (by kernel_rfl) (fun _ _ _ h => h) (Or.inl ⟨by rfl, ?_⟩) ?_ ?_
        rotate_left
        · (intro w'; go_simp; with_reducible rfl)
        rotate_left
        · (simp only [Act.put, List.setIfInBounds_toArray, List.set_cons_zero, List.set_cons_succ]; rfl)
        refine pure_ (i := 7) (N := (some 47)) (v := ?_) (a' := ?_) (lb 61 0xbf) rfl rfl (by kernel_rfl) (fun _ _ _ h => h) (Or.inl ⟨by rfl, ?_⟩) ?_ ?_
        rotate_left
        · (intro w'; go_simp; with_reducible rfl)
        rotate_left
        · (simp only [Act.put, List.setIfInBounds_toArray, List.set_cons_zero, List.set_cons_succ]; rfl)
        refine take_ (i := 6) (N := (some 46)) (v := ?_) (a' := ?_) (lb 61 0xff) rfl rfl (by kernel_rfl) (fun _ _ _ h => h) (Or.inl ⟨by rfl, ?_⟩) hHeld ?_ ?_
        rotate_left
        · (rintro w' hS; have d0 := (blk_cell (blk_below K7.out hS) 0).trans rfl; have d1 := (blk_cell (blk_below K7.out hS) 1).trans rfl; have d2 := (blk_cell (blk_below K7.out hS) 2).trans rfl; have d3 := (blk_cell (blk_below K9.out hS) 0).trans rfl; have d4 := (blk_cell (blk_below K9.out hS) 1).trans rfl; have d5 := (blk_cell (blk_below K9.out hS) 2).trans rfl; have d6 := (blk_cell (blk_below K9.out hS) 3).trans rfl; have d7 := (blk_cell (blk_below K9.out hS) 4).trans rfl; have d8 := (blk_cell (blk_below K8.out hS) 0).trans rfl; have d9 := (blk_cell (blk_below K8.out hS) 1).trans rfl; have d10 := (blk_cell (blk_below K10.out hS) 0).trans rfl; have d11 := (blk_cell (blk_below K10.out hS) 1).trans rfl; have d12 := (blk_cell (blk_below K10.out hS) 2).trans rfl; have d13 := (blk_cell (blk_below K4.out hS) 0).trans rfl; have d14 := (blk_cell (blk_below K4.out hS) 1).trans rfl; have d15 := (blk_cell (blk_below K4.out hS) 2).trans rfl; have d16 := (blk_cell (blk_below K13.out hS) 0).trans rfl; have d17 := (blk_cell (blk_below K13.out hS) 1).trans rfl; go_simp; with_reducible rfl)
        rotate_left
        · (simp only [Act.put, List.setIfInBounds_toArray, List.set_cons_zero, List.set_cons_succ]; rfl)
        refine take_ (i := 8) (N := (some 48)) (v := ?_) (a' := ?_) (lb 61 0x1ff) rfl rfl (by kernel_rfl) (fun _ _ _ h => h) (Or.inl ⟨by rfl, ?_⟩) hHeld ?_ ?_
        rotate_left
        · (rintro w' hS; have d0 := (blk_cell (blk_below K7.out hS) 0).trans rfl; have d1 := (blk_cell (blk_below K7.out hS) 1).trans rfl; have d2 := (blk_cell (blk_below K7.out hS) 2).trans rfl; have d3 := (blk_cell (blk_below K9.out hS) 0).trans rfl; have d4 := (blk_cell (blk_below K9.out hS) 1).trans rfl; have d5 := (blk_cell (blk_below K9.out hS) 2).trans rfl; have d6 := (blk_cell (blk_below K9.out hS) 3).trans rfl; have d7 := (blk_cell (blk_below K9.out hS) 4).trans rfl; have d8 := (blk_cell (blk_below K8.out hS) 0).trans rfl; have d9 := (blk_cell (blk_below K8.out hS) 1).trans rfl; have d10 := (blk_cell (blk_below K10.out hS) 0).trans rfl; have d11 := (blk_cell (blk_below K10.out hS) 1).trans rfl; have d12 := (blk_cell (blk_below K10.out hS) 2).trans rfl; have d13 := (blk_cell (blk_below K4.out hS) 0).trans rfl; have d14 := (blk_cell (blk_below K4.out hS) 1).trans rfl; have d15 := (blk_cell (blk_below K4.out hS) 2).trans rfl; have d16 := (blk_cell (blk_below K13.out hS) 0).trans rfl; have d17 := (blk_cell (blk_below K13.out hS) 1).trans rfl; go_simp; with_reducible rfl)
        rotate_left
        · (simp only [Act.put, List.setIfInBounds_toArray, List.set_cons_zero, List.set_cons_succ]; rfl)
        refine pure_ (i := 9) (N := (some 49)) (v := ?_) (a' := ?_) (lb 61 0x3ff) rfl rfl (by kernel_rfl) (fun _ _ _ h => h) (Or.inl ⟨by rfl, ?_⟩) ?_ ?_
        rotate_left
        · (intro w'; go_simp; with_reducible rfl)
        rotate_left
        · (simp only [Act.put, List.setIfInBounds_toArray, List.set_cons_zero, List.set_cons_succ]; rfl)
        refine pure_ (i := 10) (N := (some 50)) (v := ?_) (a' := ?_) (lb 61 0x7ff) rfl rfl (by kernel_rfl) (fun _ _ _ h => h) (Or.inl ⟨by rfl, ?_⟩) ?_ ?_
        rotate_left
        · (intro w'; go_simp; with_reducible rfl)
        rotate_left
        · (simp only [Act.put, List.setIfInBounds_toArray, List.set_cons_zero, List.set_cons_succ]; rfl)
        refine pure_ (i := 11) (N := (some 51)) (v := ?_) (a' := ?_) (lb 61 0xfff) rfl rfl (by kernel_rfl) (fun _ _ _ h => h) (Or.inl ⟨by rfl, ?_⟩) ?_ ?_
        rotate_left
        · (intro w'; go_simp; with_reducible rfl)
        rotate_left
        · (simp only [Act.put, List.setIfInBounds_toArray, List.set_cons_zero, List.set_cons_succ]; rfl)
        refine pure_ (i := 12) (N := (some 52)) (v := ?_) (a' := ?_) (lb 61 0x1fff) rfl rfl (by kernel_rfl) (fun _ _ _ h => h) (Or.inl ⟨by rfl, ?_⟩) ?_ ?_
        rotate_left
        · (intro w'; go_simp; with_reducible rfl)
        rotate_left
        · (simp only [Act.put, List.setIfInBounds_toArray, List.set_cons_zero, List.set_cons_succ]; rfl)
        refine pure_ (i := 14) (N := (some 54)) (v := ?_) (a' := ?_) (lb 61 0x5fff) rfl rfl (by kernel_rfl) (fun _ _ _ h => h) (Or.inl ⟨by rfl, ?_⟩) ?_ ?_
        rotate_left
        · (intro w'; go_simp; with_reducible rfl)
        rotate_left
        · (simp only [Act.put, List.setIfInBounds_toArray, List.set_cons_zero, List.set_cons_succ]; rfl)
        refine take_ (i := 13) (N := (some 53)) (v := ?_) (a' := ?_) (lb 61 0x7fff) rfl rfl (by kernel_rfl) (fun _ _ _ h => h) (Or.inl ⟨by rfl, ?_⟩) hHeld ?_ ?_
        rotate_left
        · (rintro w' hS; have d0 := (blk_cell (blk_below K7.out hS) 0).trans rfl; have d1 := (blk_cell (blk_below K7.out hS) 1).trans rfl; have d2 := (blk_cell (blk_below K7.out hS) 2).trans rfl; have d3 := (blk_cell (blk_below K9.out hS) 0).trans rfl; have d4 := (blk_cell (blk_below K9.out hS) 1).trans rfl; have d5 := (blk_cell (blk_below K9.out hS) 2).trans rfl; have d6 := (blk_cell (blk_below K9.out hS) 3).trans rfl; have d7 := (blk_cell (blk_below K9.out hS) 4).trans rfl; have d8 := (blk_cell (blk_below K8.out hS) 0).trans rfl; have d9 := (blk_cell (blk_below K8.out hS) 1).trans rfl; have d10 := (blk_cell (blk_below K10.out hS) 0).trans rfl; have d11 := (blk_cell (blk_below K10.out hS) 1).trans rfl; have d12 := (blk_cell (blk_below K10.out hS) 2).trans rfl; have d13 := (blk_cell (blk_below K4.out hS) 0).trans rfl; have d14 := (blk_cell (blk_below K4.out hS) 1).trans rfl; have d15 := (blk_cell (blk_below K4.out hS) 2).trans rfl; have d16 := (blk_cell (blk_below K13.out hS) 0).trans rfl; have d17 := (blk_cell (blk_below K13.out hS) 1).trans rfl; go_simp; with_reducible rfl)
        rotate_left
        · (simp only [Act.put, List.setIfInBounds_toArray, List.set_cons_zero, List.set_cons_succ]; rfl)
        refine take_ (i := 15) (N := (some 55)) (v := ?_) (a' := ?_) (lb 61 0xffff) rfl rfl (by kernel_rfl) (fun _ _ _ h => h) (Or.inl ⟨by rfl, ?_⟩) hHeld ?_ ?_
        rotate_left
        · (rintro w' hS; have d0 := (blk_cell (blk_below K7.out hS) 0).trans rfl; have d1 := (blk_cell (blk_below K7.out hS) 1).trans rfl; have d2 := (blk_cell (blk_below K7.out hS) 2).trans rfl; have d3 := (blk_cell (blk_below K9.out hS) 0).trans rfl; have d4 := (blk_cell (blk_below K9.out hS) 1).trans rfl; have d5 := (blk_cell (blk_below K9.out hS) 2).trans rfl; have d6 := (blk_cell (blk_below K9.out hS) 3).trans rfl; have d7 := (blk_cell (blk_below K9.out hS) 4).trans rfl; have d8 := (blk_cell (blk_below K8.out hS) 0).trans rfl; have d9 := (blk_cell (blk_below K8.out hS) 1).trans rfl; have d10 := (blk_cell (blk_below K10.out hS) 0).trans rfl; have d11 := (blk_cell (blk_below K10.out hS) 1).trans rfl; have d12 := (blk_cell (blk_below K10.out hS) 2).trans rfl; have d13 := (blk_cell (blk_below K4.out hS) 0).trans rfl; have d14 := (blk_cell (blk_below K4.out hS) 1).trans rfl; have d15 := (blk_cell (blk_below K4.out hS) 2).trans rfl; have d16 := (blk_cell (blk_below K13.out hS) 0).trans rfl; have d17 := (blk_cell (blk_below K13.out hS) 1).trans rfl; go_simp; with_reducible rfl)
        rotate_left
        · (simp only [Act.put, List.setIfInBounds_toArray, List.set_cons_zero, List.set_cons_succ]; rfl)
        refine pure_ (i := 16) (N := (some 56)) (v := ?_) (a' := ?_) (lb 61 0x1ffff) rfl rfl (by kernel_rfl) (fun _ _ _ h => h) (Or.inl ⟨by rfl, ?_⟩) ?_ ?_
        rotate_left
        · (intro w'; go_simp; with_reducible rfl)
        rotate_left
        · (simp only [Act.put, List.setIfInBounds_toArray, List.set_cons_zero, List.set_cons_succ]; rfl)
        refine pure_ (i := 17) (N := (some 57)) (v := ?_) (a' := ?_) (lb 61 0x3ffff) rfl rfl (by kernel_rfl) (fun _ _ _ h => h) (Or.inl ⟨by rfl, ?_⟩) ?_ ?_
        rotate_left
        · (intro w'; go_simp; with_reducible rfl)
        rotate_left
        · (simp only [Act.put, List.setIfInBounds_toArray, List.set_cons_zero, List.set_cons_succ]; rfl)
        refine pure_ (i := 18) (N := (some 58)) (v := ?_) (a' := ?_) (lb 61 0x7ffff) rfl rfl (by kernel_rfl) (fun _ _ _ h => h) (Or.inl ⟨by rfl, ?_⟩) ?_ ?_
        rotate_left
        · (intro w'; go_simp; with_reducible rfl)
        rotate_left
        · (simp only [Act.put, List.setIfInBounds_toArray, List.set_cons_zero, List.set_cons_succ]; rfl)
        refine take_ (i := 19) (N := (some 59)) (v := ?_) (a' := ?_) (lb 61 0xfffff) rfl rfl (by kernel_rfl) (fun _ _ _ h => h) (Or.inl ⟨by rfl, ?_⟩) hHeld ?_ ?_
        rotate_left
        · (rintro w' hS; have d0 := (blk_cell (blk_below K7.out hS) 0).trans rfl; have d1 := (blk_cell (blk_below K7.out hS) 1).trans rfl; have d2 := (blk_cell (blk_below K7.out hS) 2).trans rfl; have d3 := (blk_cell (blk_below K9.out hS) 0).trans rfl; have d4 := (blk_cell (blk_below K9.out hS) 1).trans rfl; have d5 := (blk_cell (blk_below K9.out hS) 2).trans rfl; have d6 := (blk_cell (blk_below K9.out hS) 3).trans rfl; have d7 := (blk_cell (blk_below K9.out hS) 4).trans rfl; have d8 := (blk_cell (blk_below K8.out hS) 0).trans rfl; have d9 := (blk_cell (blk_below K8.out hS) 1).trans rfl; have d10 := (blk_cell (blk_below K10.out hS) 0).trans rfl; have d11 := (blk_cell (blk_below K10.out hS) 1).trans rfl; have d12 := (blk_cell (blk_below K10.out hS) 2).trans rfl; have d13 := (blk_cell (blk_below K4.out hS) 0).trans rfl; have d14 := (blk_cell (blk_below K4.out hS) 1).trans rfl; have d15 := (blk_cell (blk_below K4.out hS) 2).trans rfl; have d16 := (blk_cell (blk_below K13.out hS) 0).trans rfl; have d17 := (blk_cell (blk_below K13.out hS) 1).trans rfl; go_simp; with_reducible rfl)
        rotate_left
        · (simp only [Act.put, List.setIfInBounds_toArray, List.set_cons_zero, List.set_cons_succ]; rfl)
        refine take_ (i := 21) (N := (some 61)) (v := ?_) (a' := ?_) (lb 61 0x2fffff) rfl rfl (by kernel_rfl) (fun _ _ _ h => h) (Or.inl ⟨by rfl, ?_⟩) hHeld ?_ ?_
        rotate_left
        · (rintro w' hS; have d0 := (blk_cell (blk_below K7.out hS) 0).trans rfl; have d1 := (blk_cell (blk_below K7.out hS) 1).trans rfl; have d2 := (blk_cell (blk_below K7.out hS) 2).trans rfl; have d3 := (blk_cell (blk_below K9.out hS) 0).trans rfl; have d4 := (blk_cell (blk_below K9.out hS) 1).trans rfl; have d5 := (blk_cell (blk_below K9.out hS) 2).trans rfl; have d6 := (blk_cell (blk_below K9.out hS) 3).trans rfl; have d7 := (blk_cell (blk_below K9.out hS) 4).trans rfl; have d8 := (blk_cell (blk_below K8.out hS) 0).trans rfl; have d9 := (blk_cell (blk_below K8.out hS) 1).trans rfl; have d10 := (blk_cell (blk_below K10.out hS) 0).trans rfl; have d11 := (blk_cell (blk_below K10.out hS) 1).trans rfl; have d12 := (blk_cell (blk_below K10.out hS) 2).trans rfl; have d13 := (blk_cell (blk_below K4.out hS) 0).trans rfl; have d14 := (blk_cell (blk_below K4.out hS) 1).trans rfl; have d15 := (blk_cell (blk_below K4.out hS) 2).trans rfl; have d16 := (blk_cell (blk_below K13.out hS) 0).trans rfl; have d17 := (blk_cell (blk_below K13.out hS) 1).trans rfl; go_simp; with_reducible rfl)
        rotate_left
        · (simp only [Act.put, List.setIfInBounds_toArray, List.set_cons_zero, List.set_cons_succ]; rfl)
        refine one_ (i := 20) (N := (some 60)) (lb 61 0x3fffff) rfl rfl (by kernel_rfl) (by decide) (fun K hK => ?_)
        (refine goes_ Try.func23 (by kernel_rfl) rfl #[.agg #[.slice B1 g.terms.length d1, .slice B2 g.names.length d2, .slice B3 g.rules.length d3]] (by rfl) rfl rfl (by simp [Act.eval]) ?_; refine (good_c g B1 B2 B3 d1 d2 d3 _ (RB.out.below_ hHeld)).mono ?_; rw [HGB.out]; rintro e w9 ⟨rfl, hb9⟩; refine ⟨_, rfl, ?_⟩; have HQ9 := Aside0.mk (below_then hHeld hHeld.size hb9); clear hb9; refine hK.out _ _ HQ9.out (fun hHeld => ?_))
        skip
        clear hK K
        refine norm_ (a' := ?_) ?_ ?_
        rotate_left
        · (show Act.put _ (some 60) _ = _; simp only [Act.put, List.setIfInBounds_toArray, List.set_cons_zero, List.set_cons_succ]; rfl)
        refine one_ (i := 22) (N := (some 62)) (lb 61 0x7fffff) rfl rfl (by kernel_rfl) (by decide) (fun K hK => ?_)
        (refine goes_ Try.func24 (by kernel_rfl) rfl #[.agg #[.slice A1 g.terms.length c1, .slice A2 g.names.length c2, .slice A3 g.rules.length c3]] (by rfl) rfl rfl (by simp [Act.eval]) ?_; refine (good1_c g A1 A2 A3 c1 c2 c3 _ (RG.out.below_ hHeld) HZ.out).mono ?_; rw [HGB.out]; rintro e w9 ⟨rfl, hb9⟩; refine ⟨_, rfl, ?_⟩; have HQ9 := Aside0.mk (below_then hHeld hHeld.size hb9); clear hb9; refine hK.out _ _ HQ9.out (fun hHeld => ?_))
        skip
        clear hK K
        refine norm_ (a' := ?_) ?_ ?_
        rotate_left
        · (show Act.put _ (some 62) _ = _; simp only [Act.put, List.setIfInBounds_toArray, List.set_cons_zero, List.set_cons_succ]; rfl)
        refine pure_ (i := 23) (N := (some 63)) (v := ?_) (a' := ?_) (lb 61 0xffffff) rfl rfl (by kernel_rfl) (fun _ _ _ h => h) (Or.inl ⟨by rfl, ?_⟩) ?_ ?_
        rotate_left
        · (intro w'; go_simp; with_reducible rfl)
        rotate_left
        · (simp only [Act.put, List.setIfInBounds_toArray, List.set_cons_zero, List.set_cons_succ]; rfl)
        refine pure_ (i := 24) (N := (some 64)) (v := ?_) (a' := ?_) (lb 61 0x1ffffff) rfl rfl (by kernel_rfl) (fun _ _ _ h => h) (Or.inl ⟨by rfl, ?_⟩) ?_ ?_
        rotate_left
        · (intro w'; go_simp; with_reducible rfl)
        rotate_left
        · (simp only [Act.put, List.setIfInBounds_toArray, List.set_cons_zero, List.set_cons_succ]; rfl)
        refine pure_ (i := 25) (N := (some 65)) (v := ?_) (a' := ?_) (lb 61 0x3ffffff) rfl rfl (by kernel_rfl) (fun _ _ _ h => h) (Or.inl ⟨by rfl, ?_⟩) ?_ ?_
        rotate_left
        · (intro w'; go_simp; with_reducible rfl)
        rotate_left
        · (simp only [Act.put, List.setIfInBounds_toArray, List.set_cons_zero, List.set_cons_succ]; rfl)
        refine pure_ (i := 26) (N := (some 66)) (v := ?_) (a' := ?_) (lb 61 0x7ffffff) rfl rfl (by kernel_rfl) (fun _ _ _ h => h) (Or.inl ⟨by rfl, ?_⟩) ?_ ?_
        rotate_left
        · (intro w'; go_simp; with_reducible rfl)
        rotate_left
        · (simp only [Act.put, List.setIfInBounds_toArray, List.set_cons_zero, List.set_cons_succ]; rfl)
        refine pure_ (i := 27) (N := (some 67)) (v := ?_) (a' := ?_) (lb 61 0xfffffff) rfl rfl (by kernel_rfl) (fun _ _ _ h => h) (Or.inl ⟨by rfl, ?_⟩) ?_ ?_
        rotate_left
        · (intro w'; go_simp; with_reducible rfl)
        rotate_left
        · (simp only [Act.put, List.setIfInBounds_toArray, List.set_cons_zero, List.set_cons_succ]; rfl)
        refine take_ (i := 28) (N := (some 68)) (v := ?_) (a' := ?_) (lb 61 0x1fffffff) rfl rfl (by kernel_rfl) (fun _ _ _ h => h) (Or.inl ⟨by rfl, ?_⟩) hHeld ?_ ?_
        rotate_left
        · (rintro w' hS; have d0 := (blk_cell (blk_below K7.out hS) 0).trans rfl; have d1 := (blk_cell (blk_below K7.out hS) 1).trans rfl; have d2 := (blk_cell (blk_below K7.out hS) 2).trans rfl; have d3 := (blk_cell (blk_below K9.out hS) 0).trans rfl; have d4 := (blk_cell (blk_below K9.out hS) 1).trans rfl; have d5 := (blk_cell (blk_below K9.out hS) 2).trans rfl; have d6 := (blk_cell (blk_below K9.out hS) 3).trans rfl; have d7 := (blk_cell (blk_below K9.out hS) 4).trans rfl; have d8 := (blk_cell (blk_below K8.out hS) 0).trans rfl; have d9 := (blk_cell (blk_below K8.out hS) 1).trans rfl; have d10 := (blk_cell (blk_below K10.out hS) 0).trans rfl; have d11 := (blk_cell (blk_below K10.out hS) 1).trans rfl; have d12 := (blk_cell (blk_below K10.out hS) 2).trans rfl; have d13 := (blk_cell (blk_below K4.out hS) 0).trans rfl; have d14 := (blk_cell (blk_below K4.out hS) 1).trans rfl; have d15 := (blk_cell (blk_below K4.out hS) 2).trans rfl; have d16 := (blk_cell (blk_below K13.out hS) 0).trans rfl; have d17 := (blk_cell (blk_below K13.out hS) 1).trans rfl; go_simp; with_reducible rfl)
        rotate_left
        · (simp only [Act.put, List.setIfInBounds_toArray, List.set_cons_zero, List.set_cons_succ]; rfl)
        refine pure_ (i := 29) (N := (some 69)) (v := ?_) (a' := ?_) (lb 61 0x3fffffff) rfl rfl (by kernel_rfl) (fun _ _ _ h => h) (Or.inl ⟨by rfl, ?_⟩) ?_ ?_
        rotate_left
        · (intro w'; go_simp; with_reducible rfl)
        rotate_left
        · (simp only [Act.put, List.setIfInBounds_toArray, List.set_cons_zero, List.set_cons_succ]; rfl)
        refine pure_ (i := 30) (N := (some 70)) (v := ?_) (a' := ?_) (lb 61 0x7fffffff) rfl rfl (by kernel_rfl) (fun _ _ _ h => h) (Or.inl ⟨by rfl, ?_⟩) ?_ ?_
        rotate_left
        · (intro w'; go_simp; with_reducible rfl)
        rotate_left
        · (simp only [Act.put, List.setIfInBounds_toArray, List.set_cons_zero, List.set_cons_succ]; rfl)
        refine pure_ (i := 31) (N := (some 71)) (v := ?_) (a' := ?_) (lb 61 0xffffffff) rfl rfl (by kernel_rfl) (fun _ _ _ h => h) (Or.inl ⟨by rfl, ?_⟩) ?_ ?_
        rotate_left
        · (intro w'; go_simp; with_reducible rfl)
        rotate_left
        · (simp only [Act.put, List.setIfInBounds_toArray, List.set_cons_zero, List.set_cons_succ]; rfl)
        refine pure_ (i := 32) (N := (some 72)) (v := ?_) (a' := ?_) (lb 61 0x1ffffffff) rfl rfl (by kernel_rfl) (fun _ _ _ h => h) (Or.inl ⟨by rfl, ?_⟩) ?_ ?_
        rotate_left
        · (intro w'; go_simp; with_reducible rfl)
        rotate_left
        · (simp only [Act.put, List.setIfInBounds_toArray, List.set_cons_zero, List.set_cons_succ]; rfl)
        refine pure_ (i := 33) (N := (some 73)) (v := ?_) (a' := ?_) (lb 61 0x3ffffffff) rfl rfl (by kernel_rfl) (fun _ _ _ h => h) (Or.inl ⟨by rfl, ?_⟩) ?_ ?_
        rotate_left
        · (intro w'; go_simp; with_reducible rfl)
        rotate_left
        · (simp only [Act.put, List.setIfInBounds_toArray, List.set_cons_zero, List.set_cons_succ]; rfl)
        refine take_ (i := 34) (N := (some 74)) (v := ?_) (a' := ?_) (lb 61 0x7ffffffff) rfl rfl (by kernel_rfl) (fun _ _ _ h => h) (Or.inl ⟨by rfl, ?_⟩) hHeld ?_ ?_
        rotate_left
        · (rintro w' hS; have d0 := (blk_cell (blk_below K7.out hS) 0).trans rfl; have d1 := (blk_cell (blk_below K7.out hS) 1).trans rfl; have d2 := (blk_cell (blk_below K7.out hS) 2).trans rfl; have d3 := (blk_cell (blk_below K9.out hS) 0).trans rfl; have d4 := (blk_cell (blk_below K9.out hS) 1).trans rfl; have d5 := (blk_cell (blk_below K9.out hS) 2).trans rfl; have d6 := (blk_cell (blk_below K9.out hS) 3).trans rfl; have d7 := (blk_cell (blk_below K9.out hS) 4).trans rfl; have d8 := (blk_cell (blk_below K8.out hS) 0).trans rfl; have d9 := (blk_cell (blk_below K8.out hS) 1).trans rfl; have d10 := (blk_cell (blk_below K10.out hS) 0).trans rfl; have d11 := (blk_cell (blk_below K10.out hS) 1).trans rfl; have d12 := (blk_cell (blk_below K10.out hS) 2).trans rfl; have d13 := (blk_cell (blk_below K4.out hS) 0).trans rfl; have d14 := (blk_cell (blk_below K4.out hS) 1).trans rfl; have d15 := (blk_cell (blk_below K4.out hS) 2).trans rfl; have d16 := (blk_cell (blk_below K13.out hS) 0).trans rfl; have d17 := (blk_cell (blk_below K13.out hS) 1).trans rfl; go_simp; with_reducible rfl)
        rotate_left
        · (simp only [Act.put, List.setIfInBounds_toArray, List.set_cons_zero, List.set_cons_succ]; rfl)
        refine pure_ (i := 35) (N := (some 75)) (v := ?_) (a' := ?_) (lb 61 0xfffffffff) rfl rfl (by kernel_rfl) (fun _ _ _ h => h) (Or.inl ⟨by rfl, ?_⟩) ?_ ?_
        rotate_left
        · (intro w'; go_simp; with_reducible rfl)
        rotate_left
        · (simp only [Act.put, List.setIfInBounds_toArray, List.set_cons_zero, List.set_cons_succ]; rfl)
        refine pure_ (i := 36) (N := (some 76)) (v := ?_) (a' := ?_) (lb 61 0x1fffffffff) rfl rfl (by kernel_rfl) (fun _ _ _ h => h) (Or.inl ⟨by rfl, ?_⟩) ?_ ?_
        rotate_left
        · (intro w'; go_simp; with_reducible rfl)
        rotate_left
        · (simp only [Act.put, List.setIfInBounds_toArray, List.set_cons_zero, List.set_cons_succ]; rfl)
        refine pure_ (i := 37) (N := (some 77)) (v := ?_) (a' := ?_) (lb 61 0x3fffffffff) rfl rfl (by kernel_rfl) (fun _ _ _ h => h) (Or.inl ⟨by rfl, ?_⟩) ?_ ?_
        rotate_left
        · (intro w'; go_simp; with_reducible rfl)
        rotate_left
        · (simp only [Act.put, List.setIfInBounds_toArray, List.set_cons_zero, List.set_cons_succ]; rfl)
        refine pure_ (i := 39) (N := (some 79)) (v := ?_) (a' := ?_) (lb 61 0xbfffffffff) rfl rfl (by kernel_rfl) (fun _ _ _ h => h) (Or.inl ⟨by rfl, ?_⟩) ?_ ?_
        rotate_left
        · (intro w'; go_simp; with_reducible rfl)
        rotate_left
        · (simp only [Act.put, List.setIfInBounds_toArray, List.set_cons_zero, List.set_cons_succ]; rfl)
        refine pure_ (i := 41) (N := (some 81)) (v := ?_) (a' := ?_) (lb 61 0x2bfffffffff) rfl rfl (by kernel_rfl) (fun _ _ _ h => h) (Or.inl ⟨by rfl, ?_⟩) ?_ ?_
        rotate_left
        · (intro w'; go_simp; with_reducible rfl)
        rotate_left
        · (simp only [Act.put, List.setIfInBounds_toArray, List.set_cons_zero, List.set_cons_succ]; rfl)
        refine pure_ (i := 42) (N := (some 82)) (v := ?_) (a' := ?_) (lb 61 0x6bfffffffff) rfl rfl (by kernel_rfl) (fun _ _ _ h => h) (Or.inl ⟨by rfl, ?_⟩) ?_ ?_
        rotate_left
        · (intro w'; go_simp; with_reducible rfl)
        rotate_left
        · (simp only [Act.put, List.setIfInBounds_toArray, List.set_cons_zero, List.set_cons_succ]; rfl)
        refine take_ (i := 38) (N := (some 78)) (v := ?_) (a' := ?_) (lb 61 0x6ffffffffff) rfl rfl (by kernel_rfl) (fun _ _ _ h => h) (Or.inl ⟨by rfl, ?_⟩) hHeld ?_ ?_
        rotate_left
        · (rintro w' hS; have d0 := (blk_cell (blk_below K7.out hS) 0).trans rfl; have d1 := (blk_cell (blk_below K7.out hS) 1).trans rfl; have d2 := (blk_cell (blk_below K7.out hS) 2).trans rfl; have d3 := (blk_cell (blk_below K9.out hS) 0).trans rfl; have d4 := (blk_cell (blk_below K9.out hS) 1).trans rfl; have d5 := (blk_cell (blk_below K9.out hS) 2).trans rfl; have d6 := (blk_cell (blk_below K9.out hS) 3).trans rfl; have d7 := (blk_cell (blk_below K9.out hS) 4).trans rfl; have d8 := (blk_cell (blk_below K8.out hS) 0).trans rfl; have d9 := (blk_cell (blk_below K8.out hS) 1).trans rfl; have d10 := (blk_cell (blk_below K10.out hS) 0).trans rfl; have d11 := (blk_cell (blk_below K10.out hS) 1).trans rfl; have d12 := (blk_cell (blk_below K10.out hS) 2).trans rfl; have d13 := (blk_cell (blk_below K4.out hS) 0).trans rfl; have d14 := (blk_cell (blk_below K4.out hS) 1).trans rfl; have d15 := (blk_cell (blk_below K4.out hS) 2).trans rfl; have d16 := (blk_cell (blk_below K13.out hS) 0).trans rfl; have d17 := (blk_cell (blk_below K13.out hS) 1).trans rfl; go_simp; with_reducible rfl)
        rotate_left
        · (simp only [Act.put, List.setIfInBounds_toArray, List.set_cons_zero, List.set_cons_succ]; rfl)
        refine one_ (i := 40) (N := (some 80)) (lb 61 0x7ffffffffff) rfl rfl (by kernel_rfl) (by decide) (fun K hK => ?_)
        (refine goes_ Try.func25 (by kernel_rfl) rfl #[.agg #[.slice B1 g.terms.length d1, .slice B2 g.names.length d2, .slice B3 g.rules.length d3], .int .i64 sym] (by rfl) rfl rfl (by simp [Act.eval]) ?_; refine (term_c g B1 B2 B3 d1 d2 d3 sym _).mono ?_; rw [HTF.out]; rintro e w9 ⟨rfl, hb9⟩; refine ⟨_, rfl, ?_⟩; have HQ9 := Aside0.mk (below_then hHeld hHeld.size hb9); clear hb9; refine hK.out _ _ HQ9.out (fun hHeld => ?_))
        skip
        clear hK K
        refine norm_ (a' := ?_) ?_ ?_
        rotate_left
        · (show Act.put _ (some 80) _ = _; simp only [Act.put, List.setIfInBounds_toArray, List.set_cons_zero, List.set_cons_succ]; rfl)
        refine pure_ (i := 43) (N := (some 83)) (v := ?_) (a' := ?_) (lb 61 0xfffffffffff) rfl rfl (by kernel_rfl) (fun _ _ _ h => h) (Or.inl ⟨by rfl, ?_⟩) ?_ ?_
        rotate_left
        · (intro w'; go_simp; with_reducible rfl)
        rotate_left
        · (simp only [Act.put, List.setIfInBounds_toArray, List.set_cons_zero, List.set_cons_succ]; rfl)
        refine pure_ (i := 44) (N := (some 84)) (v := undef) (a' := ?_) (lb 61 0x1fffffffffff) rfl rfl (by kernel_rfl) (fun _ _ _ h => h) (Or.inr ⟨by rfl, rfl⟩) ?_ ?_
        rotate_left
        · (simp only [Act.put, List.setIfInBounds_toArray, List.set_cons_zero, List.set_cons_succ]; rfl)
        refine pure_ (i := 45) (N := (some 85)) (v := undef) (a' := ?_) (lb 61 0x3fffffffffff) rfl rfl (by kernel_rfl) (fun _ _ _ h => h) (Or.inr ⟨by rfl, rfl⟩) ?_ ?_
        rotate_left
        · (simp only [Act.put, List.setIfInBounds_toArray, List.set_cons_zero, List.set_cons_succ]; rfl)
        refine pure_ (i := 46) (N := (some 86)) (v := undef) (a' := ?_) (lb 61 0x7fffffffffff) rfl rfl (by kernel_rfl) (fun _ _ _ h => h) (Or.inr ⟨by rfl, rfl⟩) ?_ ?_
        rotate_left
        · (simp only [Act.put, List.setIfInBounds_toArray, List.set_cons_zero, List.set_cons_succ]; rfl)
        refine pure_ (i := 47) (N := (some 87)) (v := undef) (a' := ?_) (lb 61 0xffffffffffff) rfl rfl (by kernel_rfl) (fun _ _ _ h => h) (Or.inr ⟨by rfl, rfl⟩) ?_ ?_
        rotate_left
        · (simp only [Act.put, List.setIfInBounds_toArray, List.set_cons_zero, List.set_cons_succ]; rfl)
        refine pure_ (i := 48) (N := (some 88)) (v := undef) (a' := ?_) (lb 61 0x1ffffffffffff) rfl rfl (by kernel_rfl) (fun _ _ _ h => h) (Or.inr ⟨by rfl, rfl⟩) ?_ ?_
        rotate_left
        · (simp only [Act.put, List.setIfInBounds_toArray, List.set_cons_zero, List.set_cons_succ]; rfl)
        refine pure_ (i := 49) (N := (some 89)) (v := ?_) (a' := ?_) (lb 61 0x3ffffffffffff) rfl rfl (by kernel_rfl) (fun _ _ _ h => h) (Or.inl ⟨by rfl, ?_⟩) ?_ ?_
        rotate_left
        · (intro w'; go_simp; with_reducible rfl)
        rotate_left
        · (simp only [Act.put, List.setIfInBounds_toArray, List.set_cons_zero, List.set_cons_succ]; rfl)
        refine pure_ (i := 50) (N := (some 90)) (v := ?_) (a' := ?_) (lb 61 0x7ffffffffffff) rfl rfl (by kernel_rfl) (fun _ _ _ h => h) (Or.inl ⟨by rfl, ?_⟩) ?_ ?_
        rotate_left
        · (intro w'; go_simp; with_reducible rfl)
        rotate_left
        · (simp only [Act.put, List.setIfInBounds_toArray, List.set_cons_zero, List.set_cons_succ]; rfl)
        refine pure_ (i := 51) (N := (some 91)) (v := ?_) (a' := ?_) (lb 61 0xfffffffffffff) rfl rfl (by kernel_rfl) (fun _ _ _ h => h) (Or.inl ⟨by rfl, ?_⟩) ?_ ?_
        rotate_left
        · (intro w'; go_simp; with_reducible rfl)
        rotate_left
        · (simp only [Act.put, List.setIfInBounds_toArray, List.set_cons_zero, List.set_cons_succ]; rfl)
        refine pure_ (i := 52) (N := (some 92)) (v := ?_) (a' := ?_) (lb 61 0x1fffffffffffff) rfl rfl (by kernel_rfl) (fun _ _ _ h => h) (Or.inl ⟨by rfl, ?_⟩) ?_ ?_
        rotate_left
        · (intro w'; go_simp; with_reducible rfl)
        rotate_left
        · (simp only [Act.put, List.setIfInBounds_toArray, List.set_cons_zero, List.set_cons_succ]; rfl)
        refine take_ (i := 53) (N := (some 93)) (v := ?_) (a' := ?_) (lb 61 0x3fffffffffffff) rfl rfl (by kernel_rfl) (fun _ _ _ h => h) (Or.inl ⟨by rfl, ?_⟩) hHeld ?_ ?_
        rotate_left
        · (rintro w' hS; have d0 := (blk_cell (blk_below K7.out hS) 0).trans rfl; have d1 := (blk_cell (blk_below K7.out hS) 1).trans rfl; have d2 := (blk_cell (blk_below K7.out hS) 2).trans rfl; have d3 := (blk_cell (blk_below K9.out hS) 0).trans rfl; have d4 := (blk_cell (blk_below K9.out hS) 1).trans rfl; have d5 := (blk_cell (blk_below K9.out hS) 2).trans rfl; have d6 := (blk_cell (blk_below K9.out hS) 3).trans rfl; have d7 := (blk_cell (blk_below K9.out hS) 4).trans rfl; have d8 := (blk_cell (blk_below K8.out hS) 0).trans rfl; have d9 := (blk_cell (blk_below K8.out hS) 1).trans rfl; have d10 := (blk_cell (blk_below K10.out hS) 0).trans rfl; have d11 := (blk_cell (blk_below K10.out hS) 1).trans rfl; have d12 := (blk_cell (blk_below K10.out hS) 2).trans rfl; have d13 := (blk_cell (blk_below K4.out hS) 0).trans rfl; have d14 := (blk_cell (blk_below K4.out hS) 1).trans rfl; have d15 := (blk_cell (blk_below K4.out hS) 2).trans rfl; have d16 := (blk_cell (blk_below K13.out hS) 0).trans rfl; have d17 := (blk_cell (blk_below K13.out hS) 1).trans rfl; go_simp; with_reducible rfl)
        rotate_left
        · (simp only [Act.put, List.setIfInBounds_toArray, List.set_cons_zero, List.set_cons_succ]; rfl)
        refine take_ (i := 54) (N := (some 94)) (v := ?_) (a' := ?_) (lb 61 0x7fffffffffffff) rfl rfl (by kernel_rfl) (fun _ _ _ h => h) (Or.inl ⟨by rfl, ?_⟩) hHeld ?_ ?_
        rotate_left
        · (rintro w' hS; have d0 := (blk_cell (blk_below K7.out hS) 0).trans rfl; have d1 := (blk_cell (blk_below K7.out hS) 1).trans rfl; have d2 := (blk_cell (blk_below K7.out hS) 2).trans rfl; have d3 := (blk_cell (blk_below K9.out hS) 0).trans rfl; have d4 := (blk_cell (blk_below K9.out hS) 1).trans rfl; have d5 := (blk_cell (blk_below K9.out hS) 2).trans rfl; have d6 := (blk_cell (blk_below K9.out hS) 3).trans rfl; have d7 := (blk_cell (blk_below K9.out hS) 4).trans rfl; have d8 := (blk_cell (blk_below K8.out hS) 0).trans rfl; have d9 := (blk_cell (blk_below K8.out hS) 1).trans rfl; have d10 := (blk_cell (blk_below K10.out hS) 0).trans rfl; have d11 := (blk_cell (blk_below K10.out hS) 1).trans rfl; have d12 := (blk_cell (blk_below K10.out hS) 2).trans rfl; have d13 := (blk_cell (blk_below K4.out hS) 0).trans rfl; have d14 := (blk_cell (blk_below K4.out hS) 1).trans rfl; have d15 := (blk_cell (blk_below K4.out hS) 2).trans rfl; have d16 := (blk_cell (blk_below K13.out hS) 0).trans rfl; have d17 := (blk_cell (blk_below K13.out hS) 1).trans rfl; go_simp; with_reducible rfl)
        rotate_left
        · (simp only [Act.put, List.setIfInBounds_toArray, List.set_cons_zero, List.set_cons_succ]; rfl)
        refine one_ (i := 55) (N := (some 95)) (lb 61 0xffffffffffffff) rfl rfl (by kernel_rfl) (by decide) (fun K hK => ?_)
        (refine goes_ Try.func22 (by kernel_rfl) rfl #[.agg #[.slice B1 g.terms.length d1, .slice B2 g.names.length d2, .slice B3 g.rules.length d3], .agg #[.slice A1 g.terms.length c1, .slice A2 g.names.length c2, .slice A3 g.rules.length c3]] (by rfl) rfl rfl (by simp [Act.eval]) ?_; refine (keepGrammar_c g g B1 B2 B3 A1 A2 A3 d1 d2 d3 c1 c2 c3 _ (RB.out.below_ hHeld) (RG.out.below_ hHeld)).mono ?_; rw [sameF_self]; rintro e w9 ⟨rfl, hb9⟩; refine ⟨_, rfl, ?_⟩; have HQ9 := Aside0.mk (below_then hHeld hHeld.size hb9); clear hb9; refine hK.out _ _ HQ9.out (fun hHeld => ?_))
        skip
        clear hK K
        refine norm_ (a' := ?_) ?_ ?_
        rotate_left
        · (show Act.put _ (some 95) _ = _; simp only [Act.put, List.setIfInBounds_toArray, List.set_cons_zero, List.set_cons_succ]; rfl)
        refine pure_ (i := 56) (N := (some 96)) (v := ?_) (a' := ?_) (lb 61 0x1ffffffffffffff) rfl rfl (by kernel_rfl) (fun _ _ _ h => h) (Or.inl ⟨by rfl, ?_⟩) ?_ ?_
        rotate_left
        · (intro w'; go_simp; with_reducible rfl)
        rotate_left
        · (simp only [Act.put, List.setIfInBounds_toArray, List.set_cons_zero, List.set_cons_succ]; rfl)
        refine pure_ (i := 57) (N := (some 97)) (v := ?_) (a' := ?_) (lb 61 0x3ffffffffffffff) rfl rfl (by kernel_rfl) (fun _ _ _ h => h) (Or.inl ⟨by rfl, ?_⟩) ?_ ?_
        rotate_left
        · (intro w'; go_simp; with_reducible rfl)
        rotate_left
        · (simp only [Act.put, List.setIfInBounds_toArray, List.set_cons_zero, List.set_cons_succ]; rfl)
        refine one_ (i := 58) (N := (some 98)) (lb 61 0x7ffffffffffffff) rfl rfl (by kernel_rfl) (by decide) (fun K hK => ?_)
        (refine goes_ Try.func16 (by kernel_rfl) rfl #[] (by rfl) rfl rfl (by simp [Act.eval]) ?_; refine (wakes03_c _).mono ?_; rintro e w9 ⟨rfl, hb9⟩; refine ⟨_, rfl, ?_⟩; have HQ9 := Aside0.mk (below_then hHeld hHeld.size hb9); clear hb9; refine hK.out _ _ HQ9.out (fun hHeld => ?_))
        skip
        clear hK K
        refine norm_ (a' := ?_) ?_ ?_
        rotate_left
        · (show Act.put _ (some 98) _ = _; simp only [Act.put, List.setIfInBounds_toArray, List.set_cons_zero, List.set_cons_succ]; rfl)
        refine pure_ (i := 59) (N := (some 99)) (v := ?_) (a' := ?_) (lb 61 0xfffffffffffffff) rfl rfl (by kernel_rfl) (fun _ _ _ h => h) (Or.inl ⟨by rfl, ?_⟩) ?_ ?_
        rotate_left
        · (intro w'; go_simp; with_reducible rfl)
        rotate_left
        · (simp only [Act.put, List.setIfInBounds_toArray, List.set_cons_zero, List.set_cons_succ]; rfl)
        refine pure_ (i := 60) (N := (some 6)) (v := ?_) (a' := ?_) (lb 61 0x1fffffffffffffff) rfl rfl (by kernel_rfl) (fun _ _ _ h => h) (Or.inl ⟨by rfl, ?_⟩) ?_ ?_
        rotate_left
        · (intro w'; go_simp; with_reducible rfl)
        rotate_left
        · (simp only [Act.put, List.setIfInBounds_toArray, List.set_cons_zero, List.set_cons_succ]; rfl)
        refine done_ (by kernel_rfl) ?_
        go_wp2
        go_ret
        exact ⟨ret_bool rfl, below_then HBV.out HBV.out.size hHeld⟩
      · have HTF : Aside0 (termF g sym = true) := ⟨by simp [termF]; omega⟩
        refine start_ (n := 61) (S := fun w' => Below v6.heap.size v6 w') (ds := []) (lb 61 0x0) (by kernel_rfl) rfl (by kernel_rfl) (below_drew1 (Below.refl _ _)) (fun hHeld => ?_)
        refine pure_ (i := 1) (N := (some 41)) (v := ?_) (a' := ?_) (lb 61 0x2) rfl rfl (by kernel_rfl) (fun _ _ _ h => h) (Or.inl ⟨by rfl, ?_⟩) ?_ ?_
        rotate_left
        · (intro w'; go_simp; with_reducible rfl)
        rotate_left
        · (simp only [Act.put, List.setIfInBounds_toArray, List.set_cons_zero, List.set_cons_succ]; rfl)
        refine take_ (i := 0) (N := (some 40)) (v := ?_) (a' := ?_) (lb 61 0x3) rfl rfl (by kernel_rfl) (fun _ _ _ h => h) (Or.inl ⟨by rfl, ?_⟩) hHeld ?_ ?_
        rotate_left
        · (rintro w' hS; have d0 := (blk_cell (blk_below K7.out hS) 0).trans rfl; have d1 := (blk_cell (blk_below K7.out hS) 1).trans rfl; have d2 := (blk_cell (blk_below K7.out hS) 2).trans rfl; have d3 := (blk_cell (blk_below K9.out hS) 0).trans rfl; have d4 := (blk_cell (blk_below K9.out hS) 1).trans rfl; have d5 := (blk_cell (blk_below K9.out hS) 2).trans rfl; have d6 := (blk_cell (blk_below K9.out hS) 3).trans rfl; have d7 := (blk_cell (blk_below K9.out hS) 4).trans rfl; have d8 := (blk_cell (blk_below K8.out hS) 0).trans rfl; have d9 := (blk_cell (blk_below K8.out hS) 1).trans rfl; have d10 := (blk_cell (blk_below K10.out hS) 0).trans rfl; have d11 := (blk_cell (blk_below K10.out hS) 1).trans rfl; have d12 := (blk_cell (blk_below K10.out hS) 2).trans rfl; have d13 := (blk_cell (blk_below K4.out hS) 0).trans rfl; have d14 := (blk_cell (blk_below K4.out hS) 1).trans rfl; have d15 := (blk_cell (blk_below K4.out hS) 2).trans rfl; have d16 := (blk_cell (blk_below K13.out hS) 0).trans rfl; have d17 := (blk_cell (blk_below K13.out hS) 1).trans rfl; go_simp; with_reducible rfl)
        rotate_left
        · (simp only [Act.put, List.setIfInBounds_toArray, List.set_cons_zero, List.set_cons_succ]; rfl)
        refine take_ (i := 2) (N := (some 42)) (v := ?_) (a' := ?_) (lb 61 0x7) rfl rfl (by kernel_rfl) (fun _ _ _ h => h) (Or.inl ⟨by rfl, ?_⟩) hHeld ?_ ?_
        rotate_left
        · (rintro w' hS; have d0 := (blk_cell (blk_below K7.out hS) 0).trans rfl; have d1 := (blk_cell (blk_below K7.out hS) 1).trans rfl; have d2 := (blk_cell (blk_below K7.out hS) 2).trans rfl; have d3 := (blk_cell (blk_below K9.out hS) 0).trans rfl; have d4 := (blk_cell (blk_below K9.out hS) 1).trans rfl; have d5 := (blk_cell (blk_below K9.out hS) 2).trans rfl; have d6 := (blk_cell (blk_below K9.out hS) 3).trans rfl; have d7 := (blk_cell (blk_below K9.out hS) 4).trans rfl; have d8 := (blk_cell (blk_below K8.out hS) 0).trans rfl; have d9 := (blk_cell (blk_below K8.out hS) 1).trans rfl; have d10 := (blk_cell (blk_below K10.out hS) 0).trans rfl; have d11 := (blk_cell (blk_below K10.out hS) 1).trans rfl; have d12 := (blk_cell (blk_below K10.out hS) 2).trans rfl; have d13 := (blk_cell (blk_below K4.out hS) 0).trans rfl; have d14 := (blk_cell (blk_below K4.out hS) 1).trans rfl; have d15 := (blk_cell (blk_below K4.out hS) 2).trans rfl; have d16 := (blk_cell (blk_below K13.out hS) 0).trans rfl; have d17 := (blk_cell (blk_below K13.out hS) 1).trans rfl; go_simp; with_reducible rfl)
        rotate_left
        · (simp only [Act.put, List.setIfInBounds_toArray, List.set_cons_zero, List.set_cons_succ]; rfl)
        refine one_ (i := 3) (N := (some 43)) (lb 61 0xf) rfl rfl (by kernel_rfl) (by decide) (fun K hK => ?_)
        (refine goes_ Try.func22 (by kernel_rfl) rfl #[.agg #[.slice D1 G.terms.length e1, .slice D2 G.names.length e2, .slice D3 G.rules.length e3], .agg #[.slice E1 G.terms.length f1, .slice E2 G.names.length f2, .slice E3 G.rules.length f3]] (by rfl) rfl rfl (by simp [Act.eval]) ?_; refine (keepGrammar_c G G D1 D2 D3 E1 E2 E3 e1 e2 e3 f1 f2 f3 _ (RD.out.below_ hHeld) (RE.out.below_ hHeld)).mono ?_; rw [sameF_self]; rintro e w9 ⟨rfl, hb9⟩; refine ⟨_, rfl, ?_⟩; have HQ9 := Aside0.mk (below_then hHeld hHeld.size hb9); clear hb9; refine hK.out _ _ HQ9.out (fun hHeld => ?_))
        skip
        clear hK K
        refine norm_ (a' := ?_) ?_ ?_
        rotate_left
        · (show Act.put _ (some 43) _ = _; simp only [Act.put, List.setIfInBounds_toArray, List.set_cons_zero, List.set_cons_succ]; rfl)
        refine pure_ (i := 4) (N := (some 44)) (v := ?_) (a' := ?_) (lb 61 0x1f) rfl rfl (by kernel_rfl) (fun _ _ _ h => h) (Or.inl ⟨by rfl, ?_⟩) ?_ ?_
        rotate_left
        · (intro w'; go_simp; with_reducible rfl)
        rotate_left
        · (simp only [Act.put, List.setIfInBounds_toArray, List.set_cons_zero, List.set_cons_succ]; rfl)
        refine pure_ (i := 5) (N := (some 45)) (v := ?_) (a' := ?_) (lb 61 0x3f) rfl rfl (by kernel_rfl) (fun _ _ _ h => h) (Or.inl ⟨by rfl, ?_⟩) ?_ ?_
        rotate_left
        · (intro w'; go_simp; with_reducible rfl)
        rotate_left
        · (simp only [Act.put, List.setIfInBounds_toArray, List.set_cons_zero, List.set_cons_succ]; rfl)
        refine pure_ (i := 7) (N := (some 47)) (v := ?_) (a' := ?_) (lb 61 0xbf) rfl rfl (by kernel_rfl) (fun _ _ _ h => h) (Or.inl ⟨by rfl, ?_⟩) ?_ ?_
        rotate_left
        · (intro w'; go_simp; with_reducible rfl)
        rotate_left
        · (simp only [Act.put, List.setIfInBounds_toArray, List.set_cons_zero, List.set_cons_succ]; rfl)
        refine take_ (i := 6) (N := (some 46)) (v := ?_) (a' := ?_) (lb 61 0xff) rfl rfl (by kernel_rfl) (fun _ _ _ h => h) (Or.inl ⟨by rfl, ?_⟩) hHeld ?_ ?_
        rotate_left
        · (rintro w' hS; have d0 := (blk_cell (blk_below K7.out hS) 0).trans rfl; have d1 := (blk_cell (blk_below K7.out hS) 1).trans rfl; have d2 := (blk_cell (blk_below K7.out hS) 2).trans rfl; have d3 := (blk_cell (blk_below K9.out hS) 0).trans rfl; have d4 := (blk_cell (blk_below K9.out hS) 1).trans rfl; have d5 := (blk_cell (blk_below K9.out hS) 2).trans rfl; have d6 := (blk_cell (blk_below K9.out hS) 3).trans rfl; have d7 := (blk_cell (blk_below K9.out hS) 4).trans rfl; have d8 := (blk_cell (blk_below K8.out hS) 0).trans rfl; have d9 := (blk_cell (blk_below K8.out hS) 1).trans rfl; have d10 := (blk_cell (blk_below K10.out hS) 0).trans rfl; have d11 := (blk_cell (blk_below K10.out hS) 1).trans rfl; have d12 := (blk_cell (blk_below K10.out hS) 2).trans rfl; have d13 := (blk_cell (blk_below K4.out hS) 0).trans rfl; have d14 := (blk_cell (blk_below K4.out hS) 1).trans rfl; have d15 := (blk_cell (blk_below K4.out hS) 2).trans rfl; have d16 := (blk_cell (blk_below K13.out hS) 0).trans rfl; have d17 := (blk_cell (blk_below K13.out hS) 1).trans rfl; go_simp; with_reducible rfl)
        rotate_left
        · (simp only [Act.put, List.setIfInBounds_toArray, List.set_cons_zero, List.set_cons_succ]; rfl)
        refine take_ (i := 8) (N := (some 48)) (v := ?_) (a' := ?_) (lb 61 0x1ff) rfl rfl (by kernel_rfl) (fun _ _ _ h => h) (Or.inl ⟨by rfl, ?_⟩) hHeld ?_ ?_
        rotate_left
        · (rintro w' hS; have d0 := (blk_cell (blk_below K7.out hS) 0).trans rfl; have d1 := (blk_cell (blk_below K7.out hS) 1).trans rfl; have d2 := (blk_cell (blk_below K7.out hS) 2).trans rfl; have d3 := (blk_cell (blk_below K9.out hS) 0).trans rfl; have d4 := (blk_cell (blk_below K9.out hS) 1).trans rfl; have d5 := (blk_cell (blk_below K9.out hS) 2).trans rfl; have d6 := (blk_cell (blk_below K9.out hS) 3).trans rfl; have d7 := (blk_cell (blk_below K9.out hS) 4).trans rfl; have d8 := (blk_cell (blk_below K8.out hS) 0).trans rfl; have d9 := (blk_cell (blk_below K8.out hS) 1).trans rfl; have d10 := (blk_cell (blk_below K10.out hS) 0).trans rfl; have d11 := (blk_cell (blk_below K10.out hS) 1).trans rfl; have d12 := (blk_cell (blk_below K10.out hS) 2).trans rfl; have d13 := (blk_cell (blk_below K4.out hS) 0).trans rfl; have d14 := (blk_cell (blk_below K4.out hS) 1).trans rfl; have d15 := (blk_cell (blk_below K4.out hS) 2).trans rfl; have d16 := (blk_cell (blk_below K13.out hS) 0).trans rfl; have d17 := (blk_cell (blk_below K13.out hS) 1).trans rfl; go_simp; with_reducible rfl)
        rotate_left
        · (simp only [Act.put, List.setIfInBounds_toArray, List.set_cons_zero, List.set_cons_succ]; rfl)
        refine pure_ (i := 9) (N := (some 49)) (v := ?_) (a' := ?_) (lb 61 0x3ff) rfl rfl (by kernel_rfl) (fun _ _ _ h => h) (Or.inl ⟨by rfl, ?_⟩) ?_ ?_
        rotate_left
        · (intro w'; go_simp; with_reducible rfl)
        rotate_left
        · (simp only [Act.put, List.setIfInBounds_toArray, List.set_cons_zero, List.set_cons_succ]; rfl)
        refine pure_ (i := 10) (N := (some 50)) (v := ?_) (a' := ?_) (lb 61 0x7ff) rfl rfl (by kernel_rfl) (fun _ _ _ h => h) (Or.inl ⟨by rfl, ?_⟩) ?_ ?_
        rotate_left
        · (intro w'; go_simp; with_reducible rfl)
        rotate_left
        · (simp only [Act.put, List.setIfInBounds_toArray, List.set_cons_zero, List.set_cons_succ]; rfl)
        refine pure_ (i := 11) (N := (some 51)) (v := ?_) (a' := ?_) (lb 61 0xfff) rfl rfl (by kernel_rfl) (fun _ _ _ h => h) (Or.inl ⟨by rfl, ?_⟩) ?_ ?_
        rotate_left
        · (intro w'; go_simp; with_reducible rfl)
        rotate_left
        · (simp only [Act.put, List.setIfInBounds_toArray, List.set_cons_zero, List.set_cons_succ]; rfl)
        refine pure_ (i := 12) (N := (some 52)) (v := ?_) (a' := ?_) (lb 61 0x1fff) rfl rfl (by kernel_rfl) (fun _ _ _ h => h) (Or.inl ⟨by rfl, ?_⟩) ?_ ?_
        rotate_left
        · (intro w'; go_simp; with_reducible rfl)
        rotate_left
        · (simp only [Act.put, List.setIfInBounds_toArray, List.set_cons_zero, List.set_cons_succ]; rfl)
        refine pure_ (i := 14) (N := (some 54)) (v := ?_) (a' := ?_) (lb 61 0x5fff) rfl rfl (by kernel_rfl) (fun _ _ _ h => h) (Or.inl ⟨by rfl, ?_⟩) ?_ ?_
        rotate_left
        · (intro w'; go_simp; with_reducible rfl)
        rotate_left
        · (simp only [Act.put, List.setIfInBounds_toArray, List.set_cons_zero, List.set_cons_succ]; rfl)
        refine take_ (i := 13) (N := (some 53)) (v := ?_) (a' := ?_) (lb 61 0x7fff) rfl rfl (by kernel_rfl) (fun _ _ _ h => h) (Or.inl ⟨by rfl, ?_⟩) hHeld ?_ ?_
        rotate_left
        · (rintro w' hS; have d0 := (blk_cell (blk_below K7.out hS) 0).trans rfl; have d1 := (blk_cell (blk_below K7.out hS) 1).trans rfl; have d2 := (blk_cell (blk_below K7.out hS) 2).trans rfl; have d3 := (blk_cell (blk_below K9.out hS) 0).trans rfl; have d4 := (blk_cell (blk_below K9.out hS) 1).trans rfl; have d5 := (blk_cell (blk_below K9.out hS) 2).trans rfl; have d6 := (blk_cell (blk_below K9.out hS) 3).trans rfl; have d7 := (blk_cell (blk_below K9.out hS) 4).trans rfl; have d8 := (blk_cell (blk_below K8.out hS) 0).trans rfl; have d9 := (blk_cell (blk_below K8.out hS) 1).trans rfl; have d10 := (blk_cell (blk_below K10.out hS) 0).trans rfl; have d11 := (blk_cell (blk_below K10.out hS) 1).trans rfl; have d12 := (blk_cell (blk_below K10.out hS) 2).trans rfl; have d13 := (blk_cell (blk_below K4.out hS) 0).trans rfl; have d14 := (blk_cell (blk_below K4.out hS) 1).trans rfl; have d15 := (blk_cell (blk_below K4.out hS) 2).trans rfl; have d16 := (blk_cell (blk_below K13.out hS) 0).trans rfl; have d17 := (blk_cell (blk_below K13.out hS) 1).trans rfl; go_simp; with_reducible rfl)
        rotate_left
        · (simp only [Act.put, List.setIfInBounds_toArray, List.set_cons_zero, List.set_cons_succ]; rfl)
        refine take_ (i := 15) (N := (some 55)) (v := ?_) (a' := ?_) (lb 61 0xffff) rfl rfl (by kernel_rfl) (fun _ _ _ h => h) (Or.inl ⟨by rfl, ?_⟩) hHeld ?_ ?_
        rotate_left
        · (rintro w' hS; have d0 := (blk_cell (blk_below K7.out hS) 0).trans rfl; have d1 := (blk_cell (blk_below K7.out hS) 1).trans rfl; have d2 := (blk_cell (blk_below K7.out hS) 2).trans rfl; have d3 := (blk_cell (blk_below K9.out hS) 0).trans rfl; have d4 := (blk_cell (blk_below K9.out hS) 1).trans rfl; have d5 := (blk_cell (blk_below K9.out hS) 2).trans rfl; have d6 := (blk_cell (blk_below K9.out hS) 3).trans rfl; have d7 := (blk_cell (blk_below K9.out hS) 4).trans rfl; have d8 := (blk_cell (blk_below K8.out hS) 0).trans rfl; have d9 := (blk_cell (blk_below K8.out hS) 1).trans rfl; have d10 := (blk_cell (blk_below K10.out hS) 0).trans rfl; have d11 := (blk_cell (blk_below K10.out hS) 1).trans rfl; have d12 := (blk_cell (blk_below K10.out hS) 2).trans rfl; have d13 := (blk_cell (blk_below K4.out hS) 0).trans rfl; have d14 := (blk_cell (blk_below K4.out hS) 1).trans rfl; have d15 := (blk_cell (blk_below K4.out hS) 2).trans rfl; have d16 := (blk_cell (blk_below K13.out hS) 0).trans rfl; have d17 := (blk_cell (blk_below K13.out hS) 1).trans rfl; go_simp; with_reducible rfl)
        rotate_left
        · (simp only [Act.put, List.setIfInBounds_toArray, List.set_cons_zero, List.set_cons_succ]; rfl)
        refine pure_ (i := 16) (N := (some 56)) (v := ?_) (a' := ?_) (lb 61 0x1ffff) rfl rfl (by kernel_rfl) (fun _ _ _ h => h) (Or.inl ⟨by rfl, ?_⟩) ?_ ?_
        rotate_left
        · (intro w'; go_simp; with_reducible rfl)
        rotate_left
        · (simp only [Act.put, List.setIfInBounds_toArray, List.set_cons_zero, List.set_cons_succ]; rfl)
        refine pure_ (i := 17) (N := (some 57)) (v := ?_) (a' := ?_) (lb 61 0x3ffff) rfl rfl (by kernel_rfl) (fun _ _ _ h => h) (Or.inl ⟨by rfl, ?_⟩) ?_ ?_
        rotate_left
        · (intro w'; go_simp; with_reducible rfl)
        rotate_left
        · (simp only [Act.put, List.setIfInBounds_toArray, List.set_cons_zero, List.set_cons_succ]; rfl)
        refine pure_ (i := 18) (N := (some 58)) (v := ?_) (a' := ?_) (lb 61 0x7ffff) rfl rfl (by kernel_rfl) (fun _ _ _ h => h) (Or.inl ⟨by rfl, ?_⟩) ?_ ?_
        rotate_left
        · (intro w'; go_simp; with_reducible rfl)
        rotate_left
        · (simp only [Act.put, List.setIfInBounds_toArray, List.set_cons_zero, List.set_cons_succ]; rfl)
        refine take_ (i := 19) (N := (some 59)) (v := ?_) (a' := ?_) (lb 61 0xfffff) rfl rfl (by kernel_rfl) (fun _ _ _ h => h) (Or.inl ⟨by rfl, ?_⟩) hHeld ?_ ?_
        rotate_left
        · (rintro w' hS; have d0 := (blk_cell (blk_below K7.out hS) 0).trans rfl; have d1 := (blk_cell (blk_below K7.out hS) 1).trans rfl; have d2 := (blk_cell (blk_below K7.out hS) 2).trans rfl; have d3 := (blk_cell (blk_below K9.out hS) 0).trans rfl; have d4 := (blk_cell (blk_below K9.out hS) 1).trans rfl; have d5 := (blk_cell (blk_below K9.out hS) 2).trans rfl; have d6 := (blk_cell (blk_below K9.out hS) 3).trans rfl; have d7 := (blk_cell (blk_below K9.out hS) 4).trans rfl; have d8 := (blk_cell (blk_below K8.out hS) 0).trans rfl; have d9 := (blk_cell (blk_below K8.out hS) 1).trans rfl; have d10 := (blk_cell (blk_below K10.out hS) 0).trans rfl; have d11 := (blk_cell (blk_below K10.out hS) 1).trans rfl; have d12 := (blk_cell (blk_below K10.out hS) 2).trans rfl; have d13 := (blk_cell (blk_below K4.out hS) 0).trans rfl; have d14 := (blk_cell (blk_below K4.out hS) 1).trans rfl; have d15 := (blk_cell (blk_below K4.out hS) 2).trans rfl; have d16 := (blk_cell (blk_below K13.out hS) 0).trans rfl; have d17 := (blk_cell (blk_below K13.out hS) 1).trans rfl; go_simp; with_reducible rfl)
        rotate_left
        · (simp only [Act.put, List.setIfInBounds_toArray, List.set_cons_zero, List.set_cons_succ]; rfl)
        refine take_ (i := 21) (N := (some 61)) (v := ?_) (a' := ?_) (lb 61 0x2fffff) rfl rfl (by kernel_rfl) (fun _ _ _ h => h) (Or.inl ⟨by rfl, ?_⟩) hHeld ?_ ?_
        rotate_left
        · (rintro w' hS; have d0 := (blk_cell (blk_below K7.out hS) 0).trans rfl; have d1 := (blk_cell (blk_below K7.out hS) 1).trans rfl; have d2 := (blk_cell (blk_below K7.out hS) 2).trans rfl; have d3 := (blk_cell (blk_below K9.out hS) 0).trans rfl; have d4 := (blk_cell (blk_below K9.out hS) 1).trans rfl; have d5 := (blk_cell (blk_below K9.out hS) 2).trans rfl; have d6 := (blk_cell (blk_below K9.out hS) 3).trans rfl; have d7 := (blk_cell (blk_below K9.out hS) 4).trans rfl; have d8 := (blk_cell (blk_below K8.out hS) 0).trans rfl; have d9 := (blk_cell (blk_below K8.out hS) 1).trans rfl; have d10 := (blk_cell (blk_below K10.out hS) 0).trans rfl; have d11 := (blk_cell (blk_below K10.out hS) 1).trans rfl; have d12 := (blk_cell (blk_below K10.out hS) 2).trans rfl; have d13 := (blk_cell (blk_below K4.out hS) 0).trans rfl; have d14 := (blk_cell (blk_below K4.out hS) 1).trans rfl; have d15 := (blk_cell (blk_below K4.out hS) 2).trans rfl; have d16 := (blk_cell (blk_below K13.out hS) 0).trans rfl; have d17 := (blk_cell (blk_below K13.out hS) 1).trans rfl; go_simp; with_reducible rfl)
        rotate_left
        · (simp only [Act.put, List.setIfInBounds_toArray, List.set_cons_zero, List.set_cons_succ]; rfl)
        refine one_ (i := 20) (N := (some 60)) (lb 61 0x3fffff) rfl rfl (by kernel_rfl) (by decide) (fun K hK => ?_)
        (refine goes_ Try.func23 (by kernel_rfl) rfl #[.agg #[.slice B1 g.terms.length d1, .slice B2 g.names.length d2, .slice B3 g.rules.length d3]] (by rfl) rfl rfl (by simp [Act.eval]) ?_; refine (good_c g B1 B2 B3 d1 d2 d3 _ (RB.out.below_ hHeld)).mono ?_; rw [HGB.out]; rintro e w9 ⟨rfl, hb9⟩; refine ⟨_, rfl, ?_⟩; have HQ9 := Aside0.mk (below_then hHeld hHeld.size hb9); clear hb9; refine hK.out _ _ HQ9.out (fun hHeld => ?_))
        skip
        clear hK K
        refine norm_ (a' := ?_) ?_ ?_
        rotate_left
        · (show Act.put _ (some 60) _ = _; simp only [Act.put, List.setIfInBounds_toArray, List.set_cons_zero, List.set_cons_succ]; rfl)
        refine one_ (i := 22) (N := (some 62)) (lb 61 0x7fffff) rfl rfl (by kernel_rfl) (by decide) (fun K hK => ?_)
        (refine goes_ Try.func24 (by kernel_rfl) rfl #[.agg #[.slice A1 g.terms.length c1, .slice A2 g.names.length c2, .slice A3 g.rules.length c3]] (by rfl) rfl rfl (by simp [Act.eval]) ?_; refine (good1_c g A1 A2 A3 c1 c2 c3 _ (RG.out.below_ hHeld) HZ.out).mono ?_; rw [HGB.out]; rintro e w9 ⟨rfl, hb9⟩; refine ⟨_, rfl, ?_⟩; have HQ9 := Aside0.mk (below_then hHeld hHeld.size hb9); clear hb9; refine hK.out _ _ HQ9.out (fun hHeld => ?_))
        skip
        clear hK K
        refine norm_ (a' := ?_) ?_ ?_
        rotate_left
        · (show Act.put _ (some 62) _ = _; simp only [Act.put, List.setIfInBounds_toArray, List.set_cons_zero, List.set_cons_succ]; rfl)
        refine pure_ (i := 23) (N := (some 63)) (v := ?_) (a' := ?_) (lb 61 0xffffff) rfl rfl (by kernel_rfl) (fun _ _ _ h => h) (Or.inl ⟨by rfl, ?_⟩) ?_ ?_
        rotate_left
        · (intro w'; go_simp; with_reducible rfl)
        rotate_left
        · (simp only [Act.put, List.setIfInBounds_toArray, List.set_cons_zero, List.set_cons_succ]; rfl)
        refine pure_ (i := 24) (N := (some 64)) (v := ?_) (a' := ?_) (lb 61 0x1ffffff) rfl rfl (by kernel_rfl) (fun _ _ _ h => h) (Or.inl ⟨by rfl, ?_⟩) ?_ ?_
        rotate_left
        · (intro w'; go_simp; with_reducible rfl)
        rotate_left
        · (simp only [Act.put, List.setIfInBounds_toArray, List.set_cons_zero, List.set_cons_succ]; rfl)
        refine pure_ (i := 25) (N := (some 65)) (v := ?_) (a' := ?_) (lb 61 0x3ffffff) rfl rfl (by kernel_rfl) (fun _ _ _ h => h) (Or.inl ⟨by rfl, ?_⟩) ?_ ?_
        rotate_left
        · (intro w'; go_simp; with_reducible rfl)
        rotate_left
        · (simp only [Act.put, List.setIfInBounds_toArray, List.set_cons_zero, List.set_cons_succ]; rfl)
        refine pure_ (i := 26) (N := (some 66)) (v := ?_) (a' := ?_) (lb 61 0x7ffffff) rfl rfl (by kernel_rfl) (fun _ _ _ h => h) (Or.inl ⟨by rfl, ?_⟩) ?_ ?_
        rotate_left
        · (intro w'; go_simp; with_reducible rfl)
        rotate_left
        · (simp only [Act.put, List.setIfInBounds_toArray, List.set_cons_zero, List.set_cons_succ]; rfl)
        refine pure_ (i := 27) (N := (some 67)) (v := ?_) (a' := ?_) (lb 61 0xfffffff) rfl rfl (by kernel_rfl) (fun _ _ _ h => h) (Or.inl ⟨by rfl, ?_⟩) ?_ ?_
        rotate_left
        · (intro w'; go_simp; with_reducible rfl)
        rotate_left
        · (simp only [Act.put, List.setIfInBounds_toArray, List.set_cons_zero, List.set_cons_succ]; rfl)
        refine take_ (i := 28) (N := (some 68)) (v := ?_) (a' := ?_) (lb 61 0x1fffffff) rfl rfl (by kernel_rfl) (fun _ _ _ h => h) (Or.inl ⟨by rfl, ?_⟩) hHeld ?_ ?_
        rotate_left
        · (rintro w' hS; have d0 := (blk_cell (blk_below K7.out hS) 0).trans rfl; have d1 := (blk_cell (blk_below K7.out hS) 1).trans rfl; have d2 := (blk_cell (blk_below K7.out hS) 2).trans rfl; have d3 := (blk_cell (blk_below K9.out hS) 0).trans rfl; have d4 := (blk_cell (blk_below K9.out hS) 1).trans rfl; have d5 := (blk_cell (blk_below K9.out hS) 2).trans rfl; have d6 := (blk_cell (blk_below K9.out hS) 3).trans rfl; have d7 := (blk_cell (blk_below K9.out hS) 4).trans rfl; have d8 := (blk_cell (blk_below K8.out hS) 0).trans rfl; have d9 := (blk_cell (blk_below K8.out hS) 1).trans rfl; have d10 := (blk_cell (blk_below K10.out hS) 0).trans rfl; have d11 := (blk_cell (blk_below K10.out hS) 1).trans rfl; have d12 := (blk_cell (blk_below K10.out hS) 2).trans rfl; have d13 := (blk_cell (blk_below K4.out hS) 0).trans rfl; have d14 := (blk_cell (blk_below K4.out hS) 1).trans rfl; have d15 := (blk_cell (blk_below K4.out hS) 2).trans rfl; have d16 := (blk_cell (blk_below K13.out hS) 0).trans rfl; have d17 := (blk_cell (blk_below K13.out hS) 1).trans rfl; go_simp; with_reducible rfl)
        rotate_left
        · (simp only [Act.put, List.setIfInBounds_toArray, List.set_cons_zero, List.set_cons_succ]; rfl)
        refine pure_ (i := 29) (N := (some 69)) (v := ?_) (a' := ?_) (lb 61 0x3fffffff) rfl rfl (by kernel_rfl) (fun _ _ _ h => h) (Or.inl ⟨by rfl, ?_⟩) ?_ ?_
        rotate_left
        · (intro w'; go_simp; with_reducible rfl)
        rotate_left
        · (simp only [Act.put, List.setIfInBounds_toArray, List.set_cons_zero, List.set_cons_succ]; rfl)
        refine pure_ (i := 30) (N := (some 70)) (v := ?_) (a' := ?_) (lb 61 0x7fffffff) rfl rfl (by kernel_rfl) (fun _ _ _ h => h) (Or.inl ⟨by rfl, ?_⟩) ?_ ?_
        rotate_left
        · (intro w'; go_simp; with_reducible rfl)
        rotate_left
        · (simp only [Act.put, List.setIfInBounds_toArray, List.set_cons_zero, List.set_cons_succ]; rfl)
        refine pure_ (i := 31) (N := (some 71)) (v := ?_) (a' := ?_) (lb 61 0xffffffff) rfl rfl (by kernel_rfl) (fun _ _ _ h => h) (Or.inl ⟨by rfl, ?_⟩) ?_ ?_
        rotate_left
        · (intro w'; go_simp; with_reducible rfl)
        rotate_left
        · (simp only [Act.put, List.setIfInBounds_toArray, List.set_cons_zero, List.set_cons_succ]; rfl)
        refine pure_ (i := 32) (N := (some 72)) (v := ?_) (a' := ?_) (lb 61 0x1ffffffff) rfl rfl (by kernel_rfl) (fun _ _ _ h => h) (Or.inl ⟨by rfl, ?_⟩) ?_ ?_
        rotate_left
        · (intro w'; go_simp; with_reducible rfl)
        rotate_left
        · (simp only [Act.put, List.setIfInBounds_toArray, List.set_cons_zero, List.set_cons_succ]; rfl)
        refine pure_ (i := 33) (N := (some 73)) (v := ?_) (a' := ?_) (lb 61 0x3ffffffff) rfl rfl (by kernel_rfl) (fun _ _ _ h => h) (Or.inl ⟨by rfl, ?_⟩) ?_ ?_
        rotate_left
        · (intro w'; go_simp; with_reducible rfl)
        rotate_left
        · (simp only [Act.put, List.setIfInBounds_toArray, List.set_cons_zero, List.set_cons_succ]; rfl)
        refine take_ (i := 34) (N := (some 74)) (v := ?_) (a' := ?_) (lb 61 0x7ffffffff) rfl rfl (by kernel_rfl) (fun _ _ _ h => h) (Or.inl ⟨by rfl, ?_⟩) hHeld ?_ ?_
        rotate_left
        · (rintro w' hS; have d0 := (blk_cell (blk_below K7.out hS) 0).trans rfl; have d1 := (blk_cell (blk_below K7.out hS) 1).trans rfl; have d2 := (blk_cell (blk_below K7.out hS) 2).trans rfl; have d3 := (blk_cell (blk_below K9.out hS) 0).trans rfl; have d4 := (blk_cell (blk_below K9.out hS) 1).trans rfl; have d5 := (blk_cell (blk_below K9.out hS) 2).trans rfl; have d6 := (blk_cell (blk_below K9.out hS) 3).trans rfl; have d7 := (blk_cell (blk_below K9.out hS) 4).trans rfl; have d8 := (blk_cell (blk_below K8.out hS) 0).trans rfl; have d9 := (blk_cell (blk_below K8.out hS) 1).trans rfl; have d10 := (blk_cell (blk_below K10.out hS) 0).trans rfl; have d11 := (blk_cell (blk_below K10.out hS) 1).trans rfl; have d12 := (blk_cell (blk_below K10.out hS) 2).trans rfl; have d13 := (blk_cell (blk_below K4.out hS) 0).trans rfl; have d14 := (blk_cell (blk_below K4.out hS) 1).trans rfl; have d15 := (blk_cell (blk_below K4.out hS) 2).trans rfl; have d16 := (blk_cell (blk_below K13.out hS) 0).trans rfl; have d17 := (blk_cell (blk_below K13.out hS) 1).trans rfl; go_simp; with_reducible rfl)
        rotate_left
        · (simp only [Act.put, List.setIfInBounds_toArray, List.set_cons_zero, List.set_cons_succ]; rfl)
        refine pure_ (i := 35) (N := (some 75)) (v := ?_) (a' := ?_) (lb 61 0xfffffffff) rfl rfl (by kernel_rfl) (fun _ _ _ h => h) (Or.inl ⟨by rfl, ?_⟩) ?_ ?_
        rotate_left
        · (intro w'; go_simp; with_reducible rfl)
        rotate_left
        · (simp only [Act.put, List.setIfInBounds_toArray, List.set_cons_zero, List.set_cons_succ]; rfl)
        refine pure_ (i := 36) (N := (some 76)) (v := ?_) (a' := ?_) (lb 61 0x1fffffffff) rfl rfl (by kernel_rfl) (fun _ _ _ h => h) (Or.inl ⟨by rfl, ?_⟩) ?_ ?_
        rotate_left
        · (intro w'; go_simp; with_reducible rfl)
        rotate_left
        · (simp only [Act.put, List.setIfInBounds_toArray, List.set_cons_zero, List.set_cons_succ]; rfl)
        refine pure_ (i := 37) (N := (some 77)) (v := ?_) (a' := ?_) (lb 61 0x3fffffffff) rfl rfl (by kernel_rfl) (fun _ _ _ h => h) (Or.inl ⟨by rfl, ?_⟩) ?_ ?_
        rotate_left
        · (intro w'; go_simp; with_reducible rfl)
        rotate_left
        · (simp only [Act.put, List.setIfInBounds_toArray, List.set_cons_zero, List.set_cons_succ]; rfl)
        refine pure_ (i := 39) (N := (some 79)) (v := ?_) (a' := ?_) (lb 61 0xbfffffffff) rfl rfl (by kernel_rfl) (fun _ _ _ h => h) (Or.inl ⟨by rfl, ?_⟩) ?_ ?_
        rotate_left
        · (intro w'; go_simp; with_reducible rfl)
        rotate_left
        · (simp only [Act.put, List.setIfInBounds_toArray, List.set_cons_zero, List.set_cons_succ]; rfl)
        refine pure_ (i := 41) (N := (some 81)) (v := ?_) (a' := ?_) (lb 61 0x2bfffffffff) rfl rfl (by kernel_rfl) (fun _ _ _ h => h) (Or.inl ⟨by rfl, ?_⟩) ?_ ?_
        rotate_left
        · (intro w'; go_simp; with_reducible rfl)
        rotate_left
        · (simp only [Act.put, List.setIfInBounds_toArray, List.set_cons_zero, List.set_cons_succ]; rfl)
        refine pure_ (i := 42) (N := (some 82)) (v := ?_) (a' := ?_) (lb 61 0x6bfffffffff) rfl rfl (by kernel_rfl) (fun _ _ _ h => h) (Or.inl ⟨by rfl, ?_⟩) ?_ ?_
        rotate_left
        · (intro w'; go_simp; with_reducible rfl)
        rotate_left
        · (simp only [Act.put, List.setIfInBounds_toArray, List.set_cons_zero, List.set_cons_succ]; rfl)
        refine take_ (i := 38) (N := (some 78)) (v := ?_) (a' := ?_) (lb 61 0x6ffffffffff) rfl rfl (by kernel_rfl) (fun _ _ _ h => h) (Or.inl ⟨by rfl, ?_⟩) hHeld ?_ ?_
        rotate_left
        · (rintro w' hS; have d0 := (blk_cell (blk_below K7.out hS) 0).trans rfl; have d1 := (blk_cell (blk_below K7.out hS) 1).trans rfl; have d2 := (blk_cell (blk_below K7.out hS) 2).trans rfl; have d3 := (blk_cell (blk_below K9.out hS) 0).trans rfl; have d4 := (blk_cell (blk_below K9.out hS) 1).trans rfl; have d5 := (blk_cell (blk_below K9.out hS) 2).trans rfl; have d6 := (blk_cell (blk_below K9.out hS) 3).trans rfl; have d7 := (blk_cell (blk_below K9.out hS) 4).trans rfl; have d8 := (blk_cell (blk_below K8.out hS) 0).trans rfl; have d9 := (blk_cell (blk_below K8.out hS) 1).trans rfl; have d10 := (blk_cell (blk_below K10.out hS) 0).trans rfl; have d11 := (blk_cell (blk_below K10.out hS) 1).trans rfl; have d12 := (blk_cell (blk_below K10.out hS) 2).trans rfl; have d13 := (blk_cell (blk_below K4.out hS) 0).trans rfl; have d14 := (blk_cell (blk_below K4.out hS) 1).trans rfl; have d15 := (blk_cell (blk_below K4.out hS) 2).trans rfl; have d16 := (blk_cell (blk_below K13.out hS) 0).trans rfl; have d17 := (blk_cell (blk_below K13.out hS) 1).trans rfl; go_simp; with_reducible rfl)
        rotate_left
        · (simp only [Act.put, List.setIfInBounds_toArray, List.set_cons_zero, List.set_cons_succ]; rfl)
        refine one_ (i := 40) (N := (some 80)) (lb 61 0x7ffffffffff) rfl rfl (by kernel_rfl) (by decide) (fun K hK => ?_)
        (refine goes_ Try.func25 (by kernel_rfl) rfl #[.agg #[.slice B1 g.terms.length d1, .slice B2 g.names.length d2, .slice B3 g.rules.length d3], .int .i64 sym] (by rfl) rfl rfl (by simp [Act.eval]) ?_; refine (term_c g B1 B2 B3 d1 d2 d3 sym _).mono ?_; rw [HTF.out]; rintro e w9 ⟨rfl, hb9⟩; refine ⟨_, rfl, ?_⟩; have HQ9 := Aside0.mk (below_then hHeld hHeld.size hb9); clear hb9; refine hK.out _ _ HQ9.out (fun hHeld => ?_))
        skip
        clear hK K
        refine norm_ (a' := ?_) ?_ ?_
        rotate_left
        · (show Act.put _ (some 80) _ = _; simp only [Act.put, List.setIfInBounds_toArray, List.set_cons_zero, List.set_cons_succ]; rfl)
        refine pure_ (i := 43) (N := (some 83)) (v := ?_) (a' := ?_) (lb 61 0xfffffffffff) rfl rfl (by kernel_rfl) (fun _ _ _ h => h) (Or.inl ⟨by rfl, ?_⟩) ?_ ?_
        rotate_left
        · (intro w'; go_simp; with_reducible rfl)
        rotate_left
        · (simp only [Act.put, List.setIfInBounds_toArray, List.set_cons_zero, List.set_cons_succ]; rfl)
        refine pure_ (i := 44) (N := (some 84)) (v := ?_) (a' := ?_) (lb 61 0x1fffffffffff) rfl rfl (by kernel_rfl) (fun _ _ _ h => h) (Or.inl ⟨by rfl, ?_⟩) ?_ ?_
        rotate_left
        · (intro w'; go_simp; with_reducible rfl)
        rotate_left
        · (simp only [Act.put, List.setIfInBounds_toArray, List.set_cons_zero, List.set_cons_succ]; rfl)
        refine pure_ (i := 45) (N := (some 85)) (v := ?_) (a' := ?_) (lb 61 0x3fffffffffff) rfl rfl (by kernel_rfl) (fun _ _ _ h => h) (Or.inl ⟨by rfl, ?_⟩) ?_ ?_
        rotate_left
        · (intro w'; go_simp; with_reducible rfl)
        rotate_left
        · (simp only [Act.put, List.setIfInBounds_toArray, List.set_cons_zero, List.set_cons_succ]; rfl)
        refine take_ (i := 46) (N := (some 86)) (v := ?_) (a' := ?_) (lb 61 0x7fffffffffff) rfl rfl (by kernel_rfl) (fun _ _ _ h => h) (Or.inl ⟨by rfl, ?_⟩) hHeld ?_ ?_
        rotate_left
        · (rintro w' hS; have d0 := (blk_cell (blk_below K7.out hS) 0).trans rfl; have d1 := (blk_cell (blk_below K7.out hS) 1).trans rfl; have d2 := (blk_cell (blk_below K7.out hS) 2).trans rfl; have d3 := (blk_cell (blk_below K9.out hS) 0).trans rfl; have d4 := (blk_cell (blk_below K9.out hS) 1).trans rfl; have d5 := (blk_cell (blk_below K9.out hS) 2).trans rfl; have d6 := (blk_cell (blk_below K9.out hS) 3).trans rfl; have d7 := (blk_cell (blk_below K9.out hS) 4).trans rfl; have d8 := (blk_cell (blk_below K8.out hS) 0).trans rfl; have d9 := (blk_cell (blk_below K8.out hS) 1).trans rfl; have d10 := (blk_cell (blk_below K10.out hS) 0).trans rfl; have d11 := (blk_cell (blk_below K10.out hS) 1).trans rfl; have d12 := (blk_cell (blk_below K10.out hS) 2).trans rfl; have d13 := (blk_cell (blk_below K4.out hS) 0).trans rfl; have d14 := (blk_cell (blk_below K4.out hS) 1).trans rfl; have d15 := (blk_cell (blk_below K4.out hS) 2).trans rfl; have d16 := (blk_cell (blk_below K13.out hS) 0).trans rfl; have d17 := (blk_cell (blk_below K13.out hS) 1).trans rfl; go_simp; with_reducible rfl)
        rotate_left
        · (simp only [Act.put, List.setIfInBounds_toArray, List.set_cons_zero, List.set_cons_succ]; rfl)
        refine pure_ (i := 47) (N := (some 87)) (v := ?_) (a' := ?_) (lb 61 0xffffffffffff) rfl rfl (by kernel_rfl) (fun _ _ _ h => h) (Or.inl ⟨by rfl, ?_⟩) ?_ ?_
        rotate_left
        · (intro w'; go_simp; with_reducible rfl)
        rotate_left
        · (simp only [Act.put, List.setIfInBounds_toArray, List.set_cons_zero, List.set_cons_succ]; rfl)
        refine pure_ (i := 48) (N := (some 88)) (v := ?_) (a' := ?_) (lb 61 0x1ffffffffffff) rfl rfl (by kernel_rfl) (fun _ _ _ h => h) (Or.inl ⟨by rfl, ?_⟩) ?_ ?_
        rotate_left
        · (intro w'; go_simp; with_reducible rfl)
        rotate_left
        · (simp only [Act.put, List.setIfInBounds_toArray, List.set_cons_zero, List.set_cons_succ]; rfl)
        refine pure_ (i := 49) (N := (some 89)) (v := ?_) (a' := ?_) (lb 61 0x3ffffffffffff) rfl rfl (by kernel_rfl) (fun _ _ _ h => h) (Or.inl ⟨by rfl, ?_⟩) ?_ ?_
        rotate_left
        · (intro w'; go_simp; with_reducible rfl)
        rotate_left
        · (simp only [Act.put, List.setIfInBounds_toArray, List.set_cons_zero, List.set_cons_succ]; rfl)
        refine pure_ (i := 50) (N := (some 90)) (v := ?_) (a' := ?_) (lb 61 0x7ffffffffffff) rfl rfl (by kernel_rfl) (fun _ _ _ h => h) (Or.inl ⟨by rfl, ?_⟩) ?_ ?_
        rotate_left
        · (intro w'; go_simp; with_reducible rfl)
        rotate_left
        · (simp only [Act.put, List.setIfInBounds_toArray, List.set_cons_zero, List.set_cons_succ]; rfl)
        refine pure_ (i := 51) (N := (some 91)) (v := ?_) (a' := ?_) (lb 61 0xfffffffffffff) rfl rfl (by kernel_rfl) (fun _ _ _ h => h) (Or.inl ⟨by rfl, ?_⟩) ?_ ?_
        rotate_left
        · (intro w'; go_simp; with_reducible rfl)
        rotate_left
        · (simp only [Act.put, List.setIfInBounds_toArray, List.set_cons_zero, List.set_cons_succ]; rfl)
        refine pure_ (i := 52) (N := (some 92)) (v := ?_) (a' := ?_) (lb 61 0x1fffffffffffff) rfl rfl (by kernel_rfl) (fun _ _ _ h => h) (Or.inl ⟨by rfl, ?_⟩) ?_ ?_
        rotate_left
        · (intro w'; go_simp; with_reducible rfl)
        rotate_left
        · (simp only [Act.put, List.setIfInBounds_toArray, List.set_cons_zero, List.set_cons_succ]; rfl)
        refine take_ (i := 53) (N := (some 93)) (v := ?_) (a' := ?_) (lb 61 0x3fffffffffffff) rfl rfl (by kernel_rfl) (fun _ _ _ h => h) (Or.inl ⟨by rfl, ?_⟩) hHeld ?_ ?_
        rotate_left
        · (rintro w' hS; have d0 := (blk_cell (blk_below K7.out hS) 0).trans rfl; have d1 := (blk_cell (blk_below K7.out hS) 1).trans rfl; have d2 := (blk_cell (blk_below K7.out hS) 2).trans rfl; have d3 := (blk_cell (blk_below K9.out hS) 0).trans rfl; have d4 := (blk_cell (blk_below K9.out hS) 1).trans rfl; have d5 := (blk_cell (blk_below K9.out hS) 2).trans rfl; have d6 := (blk_cell (blk_below K9.out hS) 3).trans rfl; have d7 := (blk_cell (blk_below K9.out hS) 4).trans rfl; have d8 := (blk_cell (blk_below K8.out hS) 0).trans rfl; have d9 := (blk_cell (blk_below K8.out hS) 1).trans rfl; have d10 := (blk_cell (blk_below K10.out hS) 0).trans rfl; have d11 := (blk_cell (blk_below K10.out hS) 1).trans rfl; have d12 := (blk_cell (blk_below K10.out hS) 2).trans rfl; have d13 := (blk_cell (blk_below K4.out hS) 0).trans rfl; have d14 := (blk_cell (blk_below K4.out hS) 1).trans rfl; have d15 := (blk_cell (blk_below K4.out hS) 2).trans rfl; have d16 := (blk_cell (blk_below K13.out hS) 0).trans rfl; have d17 := (blk_cell (blk_below K13.out hS) 1).trans rfl; go_simp; with_reducible rfl)
        rotate_left
        · (simp only [Act.put, List.setIfInBounds_toArray, List.set_cons_zero, List.set_cons_succ]; rfl)
        refine take_ (i := 54) (N := (some 94)) (v := ?_) (a' := ?_) (lb 61 0x7fffffffffffff) rfl rfl (by kernel_rfl) (fun _ _ _ h => h) (Or.inl ⟨by rfl, ?_⟩) hHeld ?_ ?_
        rotate_left
        · (rintro w' hS; have d0 := (blk_cell (blk_below K7.out hS) 0).trans rfl; have d1 := (blk_cell (blk_below K7.out hS) 1).trans rfl; have d2 := (blk_cell (blk_below K7.out hS) 2).trans rfl; have d3 := (blk_cell (blk_below K9.out hS) 0).trans rfl; have d4 := (blk_cell (blk_below K9.out hS) 1).trans rfl; have d5 := (blk_cell (blk_below K9.out hS) 2).trans rfl; have d6 := (blk_cell (blk_below K9.out hS) 3).trans rfl; have d7 := (blk_cell (blk_below K9.out hS) 4).trans rfl; have d8 := (blk_cell (blk_below K8.out hS) 0).trans rfl; have d9 := (blk_cell (blk_below K8.out hS) 1).trans rfl; have d10 := (blk_cell (blk_below K10.out hS) 0).trans rfl; have d11 := (blk_cell (blk_below K10.out hS) 1).trans rfl; have d12 := (blk_cell (blk_below K10.out hS) 2).trans rfl; have d13 := (blk_cell (blk_below K4.out hS) 0).trans rfl; have d14 := (blk_cell (blk_below K4.out hS) 1).trans rfl; have d15 := (blk_cell (blk_below K4.out hS) 2).trans rfl; have d16 := (blk_cell (blk_below K13.out hS) 0).trans rfl; have d17 := (blk_cell (blk_below K13.out hS) 1).trans rfl; go_simp; with_reducible rfl)
        rotate_left
        · (simp only [Act.put, List.setIfInBounds_toArray, List.set_cons_zero, List.set_cons_succ]; rfl)
        refine one_ (i := 55) (N := (some 95)) (lb 61 0xffffffffffffff) rfl rfl (by kernel_rfl) (by decide) (fun K hK => ?_)
        (refine goes_ Try.func22 (by kernel_rfl) rfl #[.agg #[.slice B1 g.terms.length d1, .slice B2 g.names.length d2, .slice B3 g.rules.length d3], .agg #[.slice A1 g.terms.length c1, .slice A2 g.names.length c2, .slice A3 g.rules.length c3]] (by rfl) rfl rfl (by simp [Act.eval]) ?_; refine (keepGrammar_c g g B1 B2 B3 A1 A2 A3 d1 d2 d3 c1 c2 c3 _ (RB.out.below_ hHeld) (RG.out.below_ hHeld)).mono ?_; rw [sameF_self]; rintro e w9 ⟨rfl, hb9⟩; refine ⟨_, rfl, ?_⟩; have HQ9 := Aside0.mk (below_then hHeld hHeld.size hb9); clear hb9; refine hK.out _ _ HQ9.out (fun hHeld => ?_))
        skip
        clear hK K
        refine norm_ (a' := ?_) ?_ ?_
        rotate_left
        · (show Act.put _ (some 95) _ = _; simp only [Act.put, List.setIfInBounds_toArray, List.set_cons_zero, List.set_cons_succ]; rfl)
        refine pure_ (i := 56) (N := (some 96)) (v := ?_) (a' := ?_) (lb 61 0x1ffffffffffffff) rfl rfl (by kernel_rfl) (fun _ _ _ h => h) (Or.inl ⟨by rfl, ?_⟩) ?_ ?_
        rotate_left
        · (intro w'; go_simp; with_reducible rfl)
        rotate_left
        · (simp only [Act.put, List.setIfInBounds_toArray, List.set_cons_zero, List.set_cons_succ]; rfl)
        refine pure_ (i := 57) (N := (some 97)) (v := ?_) (a' := ?_) (lb 61 0x3ffffffffffffff) rfl rfl (by kernel_rfl) (fun _ _ _ h => h) (Or.inl ⟨by rfl, ?_⟩) ?_ ?_
        rotate_left
        · (intro w'; go_simp; with_reducible rfl)
        rotate_left
        · (simp only [Act.put, List.setIfInBounds_toArray, List.set_cons_zero, List.set_cons_succ]; rfl)
        refine one_ (i := 58) (N := (some 98)) (lb 61 0x7ffffffffffffff) rfl rfl (by kernel_rfl) (by decide) (fun K hK => ?_)
        (refine goes_ Try.func16 (by kernel_rfl) rfl #[] (by rfl) rfl rfl (by simp [Act.eval]) ?_; refine (wakes03_c _).mono ?_; rintro e w9 ⟨rfl, hb9⟩; refine ⟨_, rfl, ?_⟩; have HQ9 := Aside0.mk (below_then hHeld hHeld.size hb9); clear hb9; refine hK.out _ _ HQ9.out (fun hHeld => ?_))
        skip
        clear hK K
        refine norm_ (a' := ?_) ?_ ?_
        rotate_left
        · (show Act.put _ (some 98) _ = _; simp only [Act.put, List.setIfInBounds_toArray, List.set_cons_zero, List.set_cons_succ]; rfl)
        refine pure_ (i := 59) (N := (some 99)) (v := ?_) (a' := ?_) (lb 61 0xfffffffffffffff) rfl rfl (by kernel_rfl) (fun _ _ _ h => h) (Or.inl ⟨by rfl, ?_⟩) ?_ ?_
        rotate_left
        · (intro w'; go_simp; with_reducible rfl)
        rotate_left
        · (simp only [Act.put, List.setIfInBounds_toArray, List.set_cons_zero, List.set_cons_succ]; rfl)
        refine pure_ (i := 60) (N := (some 6)) (v := ?_) (a' := ?_) (lb 61 0x1fffffffffffffff) rfl rfl (by kernel_rfl) (fun _ _ _ h => h) (Or.inl ⟨by rfl, ?_⟩) ?_ ?_
        rotate_left
        · (intro w'; go_simp; with_reducible rfl)
        rotate_left
        · (simp only [Act.put, List.setIfInBounds_toArray, List.set_cons_zero, List.set_cons_succ]; rfl)
        refine done_ (by kernel_rfl) ?_
        go_wp2
        go_ret
        exact ⟨ret_bool rfl, below_then HBV.out HBV.out.size hHeld⟩
      · have HTF : Aside0 (termF g sym = false) := ⟨by simp [termF]; omega⟩
        refine start_ (n := 61) (S := fun w' => Below v6.heap.size v6 w') (ds := []) (lb 61 0x0) (by kernel_rfl) rfl (by kernel_rfl) (below_drew1 (Below.refl _ _)) (fun hHeld => ?_)
        refine pure_ (i := 1) (N := (some 41)) (v := ?_) (a' := ?_) (lb 61 0x2) rfl rfl (by kernel_rfl) (fun _ _ _ h => h) (Or.inl ⟨by rfl, ?_⟩) ?_ ?_
        rotate_left
        · (intro w'; go_simp; with_reducible rfl)
        rotate_left
        · (simp only [Act.put, List.setIfInBounds_toArray, List.set_cons_zero, List.set_cons_succ]; rfl)
        refine take_ (i := 0) (N := (some 40)) (v := ?_) (a' := ?_) (lb 61 0x3) rfl rfl (by kernel_rfl) (fun _ _ _ h => h) (Or.inl ⟨by rfl, ?_⟩) hHeld ?_ ?_
        rotate_left
        · (rintro w' hS; have d0 := (blk_cell (blk_below K7.out hS) 0).trans rfl; have d1 := (blk_cell (blk_below K7.out hS) 1).trans rfl; have d2 := (blk_cell (blk_below K7.out hS) 2).trans rfl; have d3 := (blk_cell (blk_below K9.out hS) 0).trans rfl; have d4 := (blk_cell (blk_below K9.out hS) 1).trans rfl; have d5 := (blk_cell (blk_below K9.out hS) 2).trans rfl; have d6 := (blk_cell (blk_below K9.out hS) 3).trans rfl; have d7 := (blk_cell (blk_below K9.out hS) 4).trans rfl; have d8 := (blk_cell (blk_below K8.out hS) 0).trans rfl; have d9 := (blk_cell (blk_below K8.out hS) 1).trans rfl; have d10 := (blk_cell (blk_below K10.out hS) 0).trans rfl; have d11 := (blk_cell (blk_below K10.out hS) 1).trans rfl; have d12 := (blk_cell (blk_below K10.out hS) 2).trans rfl; have d13 := (blk_cell (blk_below K4.out hS) 0).trans rfl; have d14 := (blk_cell (blk_below K4.out hS) 1).trans rfl; have d15 := (blk_cell (blk_below K4.out hS) 2).trans rfl; have d16 := (blk_cell (blk_below K13.out hS) 0).trans rfl; have d17 := (blk_cell (blk_below K13.out hS) 1).trans rfl; go_simp; with_reducible rfl)
        rotate_left
        · (simp only [Act.put, List.setIfInBounds_toArray, List.set_cons_zero, List.set_cons_succ]; rfl)
        refine take_ (i := 2) (N := (some 42)) (v := ?_) (a' := ?_) (lb 61 0x7) rfl rfl (by kernel_rfl) (fun _ _ _ h => h) (Or.inl ⟨by rfl, ?_⟩) hHeld ?_ ?_
        rotate_left
        · (rintro w' hS; have d0 := (blk_cell (blk_below K7.out hS) 0).trans rfl; have d1 := (blk_cell (blk_below K7.out hS) 1).trans rfl; have d2 := (blk_cell (blk_below K7.out hS) 2).trans rfl; have d3 := (blk_cell (blk_below K9.out hS) 0).trans rfl; have d4 := (blk_cell (blk_below K9.out hS) 1).trans rfl; have d5 := (blk_cell (blk_below K9.out hS) 2).trans rfl; have d6 := (blk_cell (blk_below K9.out hS) 3).trans rfl; have d7 := (blk_cell (blk_below K9.out hS) 4).trans rfl; have d8 := (blk_cell (blk_below K8.out hS) 0).trans rfl; have d9 := (blk_cell (blk_below K8.out hS) 1).trans rfl; have d10 := (blk_cell (blk_below K10.out hS) 0).trans rfl; have d11 := (blk_cell (blk_below K10.out hS) 1).trans rfl; have d12 := (blk_cell (blk_below K10.out hS) 2).trans rfl; have d13 := (blk_cell (blk_below K4.out hS) 0).trans rfl; have d14 := (blk_cell (blk_below K4.out hS) 1).trans rfl; have d15 := (blk_cell (blk_below K4.out hS) 2).trans rfl; have d16 := (blk_cell (blk_below K13.out hS) 0).trans rfl; have d17 := (blk_cell (blk_below K13.out hS) 1).trans rfl; go_simp; with_reducible rfl)
        rotate_left
        · (simp only [Act.put, List.setIfInBounds_toArray, List.set_cons_zero, List.set_cons_succ]; rfl)
        refine one_ (i := 3) (N := (some 43)) (lb 61 0xf) rfl rfl (by kernel_rfl) (by decide) (fun K hK => ?_)
        (refine goes_ Try.func22 (by kernel_rfl) rfl #[.agg #[.slice D1 G.terms.length e1, .slice D2 G.names.length e2, .slice D3 G.rules.length e3], .agg #[.slice E1 G.terms.length f1, .slice E2 G.names.length f2, .slice E3 G.rules.length f3]] (by rfl) rfl rfl (by simp [Act.eval]) ?_; refine (keepGrammar_c G G D1 D2 D3 E1 E2 E3 e1 e2 e3 f1 f2 f3 _ (RD.out.below_ hHeld) (RE.out.below_ hHeld)).mono ?_; rw [sameF_self]; rintro e w9 ⟨rfl, hb9⟩; refine ⟨_, rfl, ?_⟩; have HQ9 := Aside0.mk (below_then hHeld hHeld.size hb9); clear hb9; refine hK.out _ _ HQ9.out (fun hHeld => ?_))
        skip
        clear hK K
        refine norm_ (a' := ?_) ?_ ?_
        rotate_left
        · (show Act.put _ (some 43) _ = _; simp only [Act.put, List.setIfInBounds_toArray, List.set_cons_zero, List.set_cons_succ]; rfl)
        refine pure_ (i := 4) (N := (some 44)) (v := ?_) (a' := ?_) (lb 61 0x1f) rfl rfl (by kernel_rfl) (fun _ _ _ h => h) (Or.inl ⟨by rfl, ?_⟩) ?_ ?_
        rotate_left
        · (intro w'; go_simp; with_reducible rfl)
        rotate_left
        · (simp only [Act.put, List.setIfInBounds_toArray, List.set_cons_zero, List.set_cons_succ]; rfl)
        refine pure_ (i := 5) (N := (some 45)) (v := ?_) (a' := ?_) (lb 61 0x3f) rfl rfl (by kernel_rfl) (fun _ _ _ h => h) (Or.inl ⟨by rfl, ?_⟩) ?_ ?_
        rotate_left
        · (intro w'; go_simp; with_reducible rfl)
        rotate_left
        · (simp only [Act.put, List.setIfInBounds_toArray, List.set_cons_zero, List.set_cons_succ]; rfl)
        refine pure_ (i := 7) (N := (some 47)) (v := ?_) (a' := ?_) (lb 61 0xbf) rfl rfl (by kernel_rfl) (fun _ _ _ h => h) (Or.inl ⟨by rfl, ?_⟩) ?_ ?_
        rotate_left
        · (intro w'; go_simp; with_reducible rfl)
        rotate_left
        · (simp only [Act.put, List.setIfInBounds_toArray, List.set_cons_zero, List.set_cons_succ]; rfl)
        refine take_ (i := 6) (N := (some 46)) (v := ?_) (a' := ?_) (lb 61 0xff) rfl rfl (by kernel_rfl) (fun _ _ _ h => h) (Or.inl ⟨by rfl, ?_⟩) hHeld ?_ ?_
        rotate_left
        · (rintro w' hS; have d0 := (blk_cell (blk_below K7.out hS) 0).trans rfl; have d1 := (blk_cell (blk_below K7.out hS) 1).trans rfl; have d2 := (blk_cell (blk_below K7.out hS) 2).trans rfl; have d3 := (blk_cell (blk_below K9.out hS) 0).trans rfl; have d4 := (blk_cell (blk_below K9.out hS) 1).trans rfl; have d5 := (blk_cell (blk_below K9.out hS) 2).trans rfl; have d6 := (blk_cell (blk_below K9.out hS) 3).trans rfl; have d7 := (blk_cell (blk_below K9.out hS) 4).trans rfl; have d8 := (blk_cell (blk_below K8.out hS) 0).trans rfl; have d9 := (blk_cell (blk_below K8.out hS) 1).trans rfl; have d10 := (blk_cell (blk_below K10.out hS) 0).trans rfl; have d11 := (blk_cell (blk_below K10.out hS) 1).trans rfl; have d12 := (blk_cell (blk_below K10.out hS) 2).trans rfl; have d13 := (blk_cell (blk_below K4.out hS) 0).trans rfl; have d14 := (blk_cell (blk_below K4.out hS) 1).trans rfl; have d15 := (blk_cell (blk_below K4.out hS) 2).trans rfl; have d16 := (blk_cell (blk_below K13.out hS) 0).trans rfl; have d17 := (blk_cell (blk_below K13.out hS) 1).trans rfl; go_simp; with_reducible rfl)
        rotate_left
        · (simp only [Act.put, List.setIfInBounds_toArray, List.set_cons_zero, List.set_cons_succ]; rfl)
        refine take_ (i := 8) (N := (some 48)) (v := ?_) (a' := ?_) (lb 61 0x1ff) rfl rfl (by kernel_rfl) (fun _ _ _ h => h) (Or.inl ⟨by rfl, ?_⟩) hHeld ?_ ?_
        rotate_left
        · (rintro w' hS; have d0 := (blk_cell (blk_below K7.out hS) 0).trans rfl; have d1 := (blk_cell (blk_below K7.out hS) 1).trans rfl; have d2 := (blk_cell (blk_below K7.out hS) 2).trans rfl; have d3 := (blk_cell (blk_below K9.out hS) 0).trans rfl; have d4 := (blk_cell (blk_below K9.out hS) 1).trans rfl; have d5 := (blk_cell (blk_below K9.out hS) 2).trans rfl; have d6 := (blk_cell (blk_below K9.out hS) 3).trans rfl; have d7 := (blk_cell (blk_below K9.out hS) 4).trans rfl; have d8 := (blk_cell (blk_below K8.out hS) 0).trans rfl; have d9 := (blk_cell (blk_below K8.out hS) 1).trans rfl; have d10 := (blk_cell (blk_below K10.out hS) 0).trans rfl; have d11 := (blk_cell (blk_below K10.out hS) 1).trans rfl; have d12 := (blk_cell (blk_below K10.out hS) 2).trans rfl; have d13 := (blk_cell (blk_below K4.out hS) 0).trans rfl; have d14 := (blk_cell (blk_below K4.out hS) 1).trans rfl; have d15 := (blk_cell (blk_below K4.out hS) 2).trans rfl; have d16 := (blk_cell (blk_below K13.out hS) 0).trans rfl; have d17 := (blk_cell (blk_below K13.out hS) 1).trans rfl; go_simp; with_reducible rfl)
        rotate_left
        · (simp only [Act.put, List.setIfInBounds_toArray, List.set_cons_zero, List.set_cons_succ]; rfl)
        refine pure_ (i := 9) (N := (some 49)) (v := ?_) (a' := ?_) (lb 61 0x3ff) rfl rfl (by kernel_rfl) (fun _ _ _ h => h) (Or.inl ⟨by rfl, ?_⟩) ?_ ?_
        rotate_left
        · (intro w'; go_simp; with_reducible rfl)
        rotate_left
        · (simp only [Act.put, List.setIfInBounds_toArray, List.set_cons_zero, List.set_cons_succ]; rfl)
        refine pure_ (i := 10) (N := (some 50)) (v := ?_) (a' := ?_) (lb 61 0x7ff) rfl rfl (by kernel_rfl) (fun _ _ _ h => h) (Or.inl ⟨by rfl, ?_⟩) ?_ ?_
        rotate_left
        · (intro w'; go_simp; with_reducible rfl)
        rotate_left
        · (simp only [Act.put, List.setIfInBounds_toArray, List.set_cons_zero, List.set_cons_succ]; rfl)
        refine pure_ (i := 11) (N := (some 51)) (v := ?_) (a' := ?_) (lb 61 0xfff) rfl rfl (by kernel_rfl) (fun _ _ _ h => h) (Or.inl ⟨by rfl, ?_⟩) ?_ ?_
        rotate_left
        · (intro w'; go_simp; with_reducible rfl)
        rotate_left
        · (simp only [Act.put, List.setIfInBounds_toArray, List.set_cons_zero, List.set_cons_succ]; rfl)
        refine pure_ (i := 12) (N := (some 52)) (v := ?_) (a' := ?_) (lb 61 0x1fff) rfl rfl (by kernel_rfl) (fun _ _ _ h => h) (Or.inl ⟨by rfl, ?_⟩) ?_ ?_
        rotate_left
        · (intro w'; go_simp; with_reducible rfl)
        rotate_left
        · (simp only [Act.put, List.setIfInBounds_toArray, List.set_cons_zero, List.set_cons_succ]; rfl)
        refine pure_ (i := 14) (N := (some 54)) (v := ?_) (a' := ?_) (lb 61 0x5fff) rfl rfl (by kernel_rfl) (fun _ _ _ h => h) (Or.inl ⟨by rfl, ?_⟩) ?_ ?_
        rotate_left
        · (intro w'; go_simp; with_reducible rfl)
        rotate_left
        · (simp only [Act.put, List.setIfInBounds_toArray, List.set_cons_zero, List.set_cons_succ]; rfl)
        refine take_ (i := 13) (N := (some 53)) (v := ?_) (a' := ?_) (lb 61 0x7fff) rfl rfl (by kernel_rfl) (fun _ _ _ h => h) (Or.inl ⟨by rfl, ?_⟩) hHeld ?_ ?_
        rotate_left
        · (rintro w' hS; have d0 := (blk_cell (blk_below K7.out hS) 0).trans rfl; have d1 := (blk_cell (blk_below K7.out hS) 1).trans rfl; have d2 := (blk_cell (blk_below K7.out hS) 2).trans rfl; have d3 := (blk_cell (blk_below K9.out hS) 0).trans rfl; have d4 := (blk_cell (blk_below K9.out hS) 1).trans rfl; have d5 := (blk_cell (blk_below K9.out hS) 2).trans rfl; have d6 := (blk_cell (blk_below K9.out hS) 3).trans rfl; have d7 := (blk_cell (blk_below K9.out hS) 4).trans rfl; have d8 := (blk_cell (blk_below K8.out hS) 0).trans rfl; have d9 := (blk_cell (blk_below K8.out hS) 1).trans rfl; have d10 := (blk_cell (blk_below K10.out hS) 0).trans rfl; have d11 := (blk_cell (blk_below K10.out hS) 1).trans rfl; have d12 := (blk_cell (blk_below K10.out hS) 2).trans rfl; have d13 := (blk_cell (blk_below K4.out hS) 0).trans rfl; have d14 := (blk_cell (blk_below K4.out hS) 1).trans rfl; have d15 := (blk_cell (blk_below K4.out hS) 2).trans rfl; have d16 := (blk_cell (blk_below K13.out hS) 0).trans rfl; have d17 := (blk_cell (blk_below K13.out hS) 1).trans rfl; go_simp; with_reducible rfl)
        rotate_left
        · (simp only [Act.put, List.setIfInBounds_toArray, List.set_cons_zero, List.set_cons_succ]; rfl)
        refine take_ (i := 15) (N := (some 55)) (v := ?_) (a' := ?_) (lb 61 0xffff) rfl rfl (by kernel_rfl) (fun _ _ _ h => h) (Or.inl ⟨by rfl, ?_⟩) hHeld ?_ ?_
        rotate_left
        · (rintro w' hS; have d0 := (blk_cell (blk_below K7.out hS) 0).trans rfl; have d1 := (blk_cell (blk_below K7.out hS) 1).trans rfl; have d2 := (blk_cell (blk_below K7.out hS) 2).trans rfl; have d3 := (blk_cell (blk_below K9.out hS) 0).trans rfl; have d4 := (blk_cell (blk_below K9.out hS) 1).trans rfl; have d5 := (blk_cell (blk_below K9.out hS) 2).trans rfl; have d6 := (blk_cell (blk_below K9.out hS) 3).trans rfl; have d7 := (blk_cell (blk_below K9.out hS) 4).trans rfl; have d8 := (blk_cell (blk_below K8.out hS) 0).trans rfl; have d9 := (blk_cell (blk_below K8.out hS) 1).trans rfl; have d10 := (blk_cell (blk_below K10.out hS) 0).trans rfl; have d11 := (blk_cell (blk_below K10.out hS) 1).trans rfl; have d12 := (blk_cell (blk_below K10.out hS) 2).trans rfl; have d13 := (blk_cell (blk_below K4.out hS) 0).trans rfl; have d14 := (blk_cell (blk_below K4.out hS) 1).trans rfl; have d15 := (blk_cell (blk_below K4.out hS) 2).trans rfl; have d16 := (blk_cell (blk_below K13.out hS) 0).trans rfl; have d17 := (blk_cell (blk_below K13.out hS) 1).trans rfl; go_simp; with_reducible rfl)
        rotate_left
        · (simp only [Act.put, List.setIfInBounds_toArray, List.set_cons_zero, List.set_cons_succ]; rfl)
        refine pure_ (i := 16) (N := (some 56)) (v := ?_) (a' := ?_) (lb 61 0x1ffff) rfl rfl (by kernel_rfl) (fun _ _ _ h => h) (Or.inl ⟨by rfl, ?_⟩) ?_ ?_
        rotate_left
        · (intro w'; go_simp; with_reducible rfl)
        rotate_left
        · (simp only [Act.put, List.setIfInBounds_toArray, List.set_cons_zero, List.set_cons_succ]; rfl)
        refine pure_ (i := 17) (N := (some 57)) (v := ?_) (a' := ?_) (lb 61 0x3ffff) rfl rfl (by kernel_rfl) (fun _ _ _ h => h) (Or.inl ⟨by rfl, ?_⟩) ?_ ?_
        rotate_left
        · (intro w'; go_simp; with_reducible rfl)
        rotate_left
        · (simp only [Act.put, List.setIfInBounds_toArray, List.set_cons_zero, List.set_cons_succ]; rfl)
        refine pure_ (i := 18) (N := (some 58)) (v := ?_) (a' := ?_) (lb 61 0x7ffff) rfl rfl (by kernel_rfl) (fun _ _ _ h => h) (Or.inl ⟨by rfl, ?_⟩) ?_ ?_
        rotate_left
        · (intro w'; go_simp; with_reducible rfl)
        rotate_left
        · (simp only [Act.put, List.setIfInBounds_toArray, List.set_cons_zero, List.set_cons_succ]; rfl)
        refine take_ (i := 19) (N := (some 59)) (v := ?_) (a' := ?_) (lb 61 0xfffff) rfl rfl (by kernel_rfl) (fun _ _ _ h => h) (Or.inl ⟨by rfl, ?_⟩) hHeld ?_ ?_
        rotate_left
        · (rintro w' hS; have d0 := (blk_cell (blk_below K7.out hS) 0).trans rfl; have d1 := (blk_cell (blk_below K7.out hS) 1).trans rfl; have d2 := (blk_cell (blk_below K7.out hS) 2).trans rfl; have d3 := (blk_cell (blk_below K9.out hS) 0).trans rfl; have d4 := (blk_cell (blk_below K9.out hS) 1).trans rfl; have d5 := (blk_cell (blk_below K9.out hS) 2).trans rfl; have d6 := (blk_cell (blk_below K9.out hS) 3).trans rfl; have d7 := (blk_cell (blk_below K9.out hS) 4).trans rfl; have d8 := (blk_cell (blk_below K8.out hS) 0).trans rfl; have d9 := (blk_cell (blk_below K8.out hS) 1).trans rfl; have d10 := (blk_cell (blk_below K10.out hS) 0).trans rfl; have d11 := (blk_cell (blk_below K10.out hS) 1).trans rfl; have d12 := (blk_cell (blk_below K10.out hS) 2).trans rfl; have d13 := (blk_cell (blk_below K4.out hS) 0).trans rfl; have d14 := (blk_cell (blk_below K4.out hS) 1).trans rfl; have d15 := (blk_cell (blk_below K4.out hS) 2).trans rfl; have d16 := (blk_cell (blk_below K13.out hS) 0).trans rfl; have d17 := (blk_cell (blk_below K13.out hS) 1).trans rfl; go_simp; with_reducible rfl)
        rotate_left
        · (simp only [Act.put, List.setIfInBounds_toArray, List.set_cons_zero, List.set_cons_succ]; rfl)
        refine take_ (i := 21) (N := (some 61)) (v := ?_) (a' := ?_) (lb 61 0x2fffff) rfl rfl (by kernel_rfl) (fun _ _ _ h => h) (Or.inl ⟨by rfl, ?_⟩) hHeld ?_ ?_
        rotate_left
        · (rintro w' hS; have d0 := (blk_cell (blk_below K7.out hS) 0).trans rfl; have d1 := (blk_cell (blk_below K7.out hS) 1).trans rfl; have d2 := (blk_cell (blk_below K7.out hS) 2).trans rfl; have d3 := (blk_cell (blk_below K9.out hS) 0).trans rfl; have d4 := (blk_cell (blk_below K9.out hS) 1).trans rfl; have d5 := (blk_cell (blk_below K9.out hS) 2).trans rfl; have d6 := (blk_cell (blk_below K9.out hS) 3).trans rfl; have d7 := (blk_cell (blk_below K9.out hS) 4).trans rfl; have d8 := (blk_cell (blk_below K8.out hS) 0).trans rfl; have d9 := (blk_cell (blk_below K8.out hS) 1).trans rfl; have d10 := (blk_cell (blk_below K10.out hS) 0).trans rfl; have d11 := (blk_cell (blk_below K10.out hS) 1).trans rfl; have d12 := (blk_cell (blk_below K10.out hS) 2).trans rfl; have d13 := (blk_cell (blk_below K4.out hS) 0).trans rfl; have d14 := (blk_cell (blk_below K4.out hS) 1).trans rfl; have d15 := (blk_cell (blk_below K4.out hS) 2).trans rfl; have d16 := (blk_cell (blk_below K13.out hS) 0).trans rfl; have d17 := (blk_cell (blk_below K13.out hS) 1).trans rfl; go_simp; with_reducible rfl)
        rotate_left
        · (simp only [Act.put, List.setIfInBounds_toArray, List.set_cons_zero, List.set_cons_succ]; rfl)
        refine one_ (i := 20) (N := (some 60)) (lb 61 0x3fffff) rfl rfl (by kernel_rfl) (by decide) (fun K hK => ?_)
        (refine goes_ Try.func23 (by kernel_rfl) rfl #[.agg #[.slice B1 g.terms.length d1, .slice B2 g.names.length d2, .slice B3 g.rules.length d3]] (by rfl) rfl rfl (by simp [Act.eval]) ?_; refine (good_c g B1 B2 B3 d1 d2 d3 _ (RB.out.below_ hHeld)).mono ?_; rw [HGB.out]; rintro e w9 ⟨rfl, hb9⟩; refine ⟨_, rfl, ?_⟩; have HQ9 := Aside0.mk (below_then hHeld hHeld.size hb9); clear hb9; refine hK.out _ _ HQ9.out (fun hHeld => ?_))
        skip
        clear hK K
        refine norm_ (a' := ?_) ?_ ?_
        rotate_left
        · (show Act.put _ (some 60) _ = _; simp only [Act.put, List.setIfInBounds_toArray, List.set_cons_zero, List.set_cons_succ]; rfl)
        refine one_ (i := 22) (N := (some 62)) (lb 61 0x7fffff) rfl rfl (by kernel_rfl) (by decide) (fun K hK => ?_)
        (refine goes_ Try.func24 (by kernel_rfl) rfl #[.agg #[.slice A1 g.terms.length c1, .slice A2 g.names.length c2, .slice A3 g.rules.length c3]] (by rfl) rfl rfl (by simp [Act.eval]) ?_; refine (good1_c g A1 A2 A3 c1 c2 c3 _ (RG.out.below_ hHeld) HZ.out).mono ?_; rw [HGB.out]; rintro e w9 ⟨rfl, hb9⟩; refine ⟨_, rfl, ?_⟩; have HQ9 := Aside0.mk (below_then hHeld hHeld.size hb9); clear hb9; refine hK.out _ _ HQ9.out (fun hHeld => ?_))
        skip
        clear hK K
        refine norm_ (a' := ?_) ?_ ?_
        rotate_left
        · (show Act.put _ (some 62) _ = _; simp only [Act.put, List.setIfInBounds_toArray, List.set_cons_zero, List.set_cons_succ]; rfl)
        refine pure_ (i := 23) (N := (some 63)) (v := ?_) (a' := ?_) (lb 61 0xffffff) rfl rfl (by kernel_rfl) (fun _ _ _ h => h) (Or.inl ⟨by rfl, ?_⟩) ?_ ?_
        rotate_left
        · (intro w'; go_simp; with_reducible rfl)
        rotate_left
        · (simp only [Act.put, List.setIfInBounds_toArray, List.set_cons_zero, List.set_cons_succ]; rfl)
        refine pure_ (i := 24) (N := (some 64)) (v := ?_) (a' := ?_) (lb 61 0x1ffffff) rfl rfl (by kernel_rfl) (fun _ _ _ h => h) (Or.inl ⟨by rfl, ?_⟩) ?_ ?_
        rotate_left
        · (intro w'; go_simp; with_reducible rfl)
        rotate_left
        · (simp only [Act.put, List.setIfInBounds_toArray, List.set_cons_zero, List.set_cons_succ]; rfl)
        refine pure_ (i := 25) (N := (some 65)) (v := ?_) (a' := ?_) (lb 61 0x3ffffff) rfl rfl (by kernel_rfl) (fun _ _ _ h => h) (Or.inl ⟨by rfl, ?_⟩) ?_ ?_
        rotate_left
        · (intro w'; go_simp; with_reducible rfl)
        rotate_left
        · (simp only [Act.put, List.setIfInBounds_toArray, List.set_cons_zero, List.set_cons_succ]; rfl)
        refine pure_ (i := 26) (N := (some 66)) (v := ?_) (a' := ?_) (lb 61 0x7ffffff) rfl rfl (by kernel_rfl) (fun _ _ _ h => h) (Or.inl ⟨by rfl, ?_⟩) ?_ ?_
        rotate_left
        · (intro w'; go_simp; with_reducible rfl)
        rotate_left
        · (simp only [Act.put, List.setIfInBounds_toArray, List.set_cons_zero, List.set_cons_succ]; rfl)
        refine pure_ (i := 27) (N := (some 67)) (v := ?_) (a' := ?_) (lb 61 0xfffffff) rfl rfl (by kernel_rfl) (fun _ _ _ h => h) (Or.inl ⟨by rfl, ?_⟩) ?_ ?_
        rotate_left
        · (intro w'; go_simp; with_reducible rfl)
        rotate_left
        · (simp only [Act.put, List.setIfInBounds_toArray, List.set_cons_zero, List.set_cons_succ]; rfl)
        refine take_ (i := 28) (N := (some 68)) (v := ?_) (a' := ?_) (lb 61 0x1fffffff) rfl rfl (by kernel_rfl) (fun _ _ _ h => h) (Or.inl ⟨by rfl, ?_⟩) hHeld ?_ ?_
        rotate_left
        · (rintro w' hS; have d0 := (blk_cell (blk_below K7.out hS) 0).trans rfl; have d1 := (blk_cell (blk_below K7.out hS) 1).trans rfl; have d2 := (blk_cell (blk_below K7.out hS) 2).trans rfl; have d3 := (blk_cell (blk_below K9.out hS) 0).trans rfl; have d4 := (blk_cell (blk_below K9.out hS) 1).trans rfl; have d5 := (blk_cell (blk_below K9.out hS) 2).trans rfl; have d6 := (blk_cell (blk_below K9.out hS) 3).trans rfl; have d7 := (blk_cell (blk_below K9.out hS) 4).trans rfl; have d8 := (blk_cell (blk_below K8.out hS) 0).trans rfl; have d9 := (blk_cell (blk_below K8.out hS) 1).trans rfl; have d10 := (blk_cell (blk_below K10.out hS) 0).trans rfl; have d11 := (blk_cell (blk_below K10.out hS) 1).trans rfl; have d12 := (blk_cell (blk_below K10.out hS) 2).trans rfl; have d13 := (blk_cell (blk_below K4.out hS) 0).trans rfl; have d14 := (blk_cell (blk_below K4.out hS) 1).trans rfl; have d15 := (blk_cell (blk_below K4.out hS) 2).trans rfl; have d16 := (blk_cell (blk_below K13.out hS) 0).trans rfl; have d17 := (blk_cell (blk_below K13.out hS) 1).trans rfl; go_simp; with_reducible rfl)
        rotate_left
        · (simp only [Act.put, List.setIfInBounds_toArray, List.set_cons_zero, List.set_cons_succ]; rfl)
        refine pure_ (i := 29) (N := (some 69)) (v := ?_) (a' := ?_) (lb 61 0x3fffffff) rfl rfl (by kernel_rfl) (fun _ _ _ h => h) (Or.inl ⟨by rfl, ?_⟩) ?_ ?_
        rotate_left
        · (intro w'; go_simp; with_reducible rfl)
        rotate_left
        · (simp only [Act.put, List.setIfInBounds_toArray, List.set_cons_zero, List.set_cons_succ]; rfl)
        refine pure_ (i := 30) (N := (some 70)) (v := ?_) (a' := ?_) (lb 61 0x7fffffff) rfl rfl (by kernel_rfl) (fun _ _ _ h => h) (Or.inl ⟨by rfl, ?_⟩) ?_ ?_
        rotate_left
        · (intro w'; go_simp; with_reducible rfl)
        rotate_left
        · (simp only [Act.put, List.setIfInBounds_toArray, List.set_cons_zero, List.set_cons_succ]; rfl)
        refine pure_ (i := 31) (N := (some 71)) (v := ?_) (a' := ?_) (lb 61 0xffffffff) rfl rfl (by kernel_rfl) (fun _ _ _ h => h) (Or.inl ⟨by rfl, ?_⟩) ?_ ?_
        rotate_left
        · (intro w'; go_simp; with_reducible rfl)
        rotate_left
        · (simp only [Act.put, List.setIfInBounds_toArray, List.set_cons_zero, List.set_cons_succ]; rfl)
        refine pure_ (i := 32) (N := (some 72)) (v := ?_) (a' := ?_) (lb 61 0x1ffffffff) rfl rfl (by kernel_rfl) (fun _ _ _ h => h) (Or.inl ⟨by rfl, ?_⟩) ?_ ?_
        rotate_left
        · (intro w'; go_simp; with_reducible rfl)
        rotate_left
        · (simp only [Act.put, List.setIfInBounds_toArray, List.set_cons_zero, List.set_cons_succ]; rfl)
        refine pure_ (i := 33) (N := (some 73)) (v := ?_) (a' := ?_) (lb 61 0x3ffffffff) rfl rfl (by kernel_rfl) (fun _ _ _ h => h) (Or.inl ⟨by rfl, ?_⟩) ?_ ?_
        rotate_left
        · (intro w'; go_simp; with_reducible rfl)
        rotate_left
        · (simp only [Act.put, List.setIfInBounds_toArray, List.set_cons_zero, List.set_cons_succ]; rfl)
        refine take_ (i := 34) (N := (some 74)) (v := ?_) (a' := ?_) (lb 61 0x7ffffffff) rfl rfl (by kernel_rfl) (fun _ _ _ h => h) (Or.inl ⟨by rfl, ?_⟩) hHeld ?_ ?_
        rotate_left
        · (rintro w' hS; have d0 := (blk_cell (blk_below K7.out hS) 0).trans rfl; have d1 := (blk_cell (blk_below K7.out hS) 1).trans rfl; have d2 := (blk_cell (blk_below K7.out hS) 2).trans rfl; have d3 := (blk_cell (blk_below K9.out hS) 0).trans rfl; have d4 := (blk_cell (blk_below K9.out hS) 1).trans rfl; have d5 := (blk_cell (blk_below K9.out hS) 2).trans rfl; have d6 := (blk_cell (blk_below K9.out hS) 3).trans rfl; have d7 := (blk_cell (blk_below K9.out hS) 4).trans rfl; have d8 := (blk_cell (blk_below K8.out hS) 0).trans rfl; have d9 := (blk_cell (blk_below K8.out hS) 1).trans rfl; have d10 := (blk_cell (blk_below K10.out hS) 0).trans rfl; have d11 := (blk_cell (blk_below K10.out hS) 1).trans rfl; have d12 := (blk_cell (blk_below K10.out hS) 2).trans rfl; have d13 := (blk_cell (blk_below K4.out hS) 0).trans rfl; have d14 := (blk_cell (blk_below K4.out hS) 1).trans rfl; have d15 := (blk_cell (blk_below K4.out hS) 2).trans rfl; have d16 := (blk_cell (blk_below K13.out hS) 0).trans rfl; have d17 := (blk_cell (blk_below K13.out hS) 1).trans rfl; go_simp; with_reducible rfl)
        rotate_left
        · (simp only [Act.put, List.setIfInBounds_toArray, List.set_cons_zero, List.set_cons_succ]; rfl)
        refine pure_ (i := 35) (N := (some 75)) (v := ?_) (a' := ?_) (lb 61 0xfffffffff) rfl rfl (by kernel_rfl) (fun _ _ _ h => h) (Or.inl ⟨by rfl, ?_⟩) ?_ ?_
        rotate_left
        · (intro w'; go_simp; with_reducible rfl)
        rotate_left
        · (simp only [Act.put, List.setIfInBounds_toArray, List.set_cons_zero, List.set_cons_succ]; rfl)
        refine pure_ (i := 36) (N := (some 76)) (v := ?_) (a' := ?_) (lb 61 0x1fffffffff) rfl rfl (by kernel_rfl) (fun _ _ _ h => h) (Or.inl ⟨by rfl, ?_⟩) ?_ ?_
        rotate_left
        · (intro w'; go_simp; with_reducible rfl)
        rotate_left
        · (simp only [Act.put, List.setIfInBounds_toArray, List.set_cons_zero, List.set_cons_succ]; rfl)
        refine pure_ (i := 37) (N := (some 77)) (v := ?_) (a' := ?_) (lb 61 0x3fffffffff) rfl rfl (by kernel_rfl) (fun _ _ _ h => h) (Or.inl ⟨by rfl, ?_⟩) ?_ ?_
        rotate_left
        · (intro w'; go_simp; with_reducible rfl)
        rotate_left
        · (simp only [Act.put, List.setIfInBounds_toArray, List.set_cons_zero, List.set_cons_succ]; rfl)
        refine pure_ (i := 39) (N := (some 79)) (v := ?_) (a' := ?_) (lb 61 0xbfffffffff) rfl rfl (by kernel_rfl) (fun _ _ _ h => h) (Or.inl ⟨by rfl, ?_⟩) ?_ ?_
        rotate_left
        · (intro w'; go_simp; with_reducible rfl)
        rotate_left
        · (simp only [Act.put, List.setIfInBounds_toArray, List.set_cons_zero, List.set_cons_succ]; rfl)
        refine pure_ (i := 41) (N := (some 81)) (v := ?_) (a' := ?_) (lb 61 0x2bfffffffff) rfl rfl (by kernel_rfl) (fun _ _ _ h => h) (Or.inl ⟨by rfl, ?_⟩) ?_ ?_
        rotate_left
        · (intro w'; go_simp; with_reducible rfl)
        rotate_left
        · (simp only [Act.put, List.setIfInBounds_toArray, List.set_cons_zero, List.set_cons_succ]; rfl)
        refine pure_ (i := 42) (N := (some 82)) (v := ?_) (a' := ?_) (lb 61 0x6bfffffffff) rfl rfl (by kernel_rfl) (fun _ _ _ h => h) (Or.inl ⟨by rfl, ?_⟩) ?_ ?_
        rotate_left
        · (intro w'; go_simp; with_reducible rfl)
        rotate_left
        · (simp only [Act.put, List.setIfInBounds_toArray, List.set_cons_zero, List.set_cons_succ]; rfl)
        refine take_ (i := 38) (N := (some 78)) (v := ?_) (a' := ?_) (lb 61 0x6ffffffffff) rfl rfl (by kernel_rfl) (fun _ _ _ h => h) (Or.inl ⟨by rfl, ?_⟩) hHeld ?_ ?_
        rotate_left
        · (rintro w' hS; have d0 := (blk_cell (blk_below K7.out hS) 0).trans rfl; have d1 := (blk_cell (blk_below K7.out hS) 1).trans rfl; have d2 := (blk_cell (blk_below K7.out hS) 2).trans rfl; have d3 := (blk_cell (blk_below K9.out hS) 0).trans rfl; have d4 := (blk_cell (blk_below K9.out hS) 1).trans rfl; have d5 := (blk_cell (blk_below K9.out hS) 2).trans rfl; have d6 := (blk_cell (blk_below K9.out hS) 3).trans rfl; have d7 := (blk_cell (blk_below K9.out hS) 4).trans rfl; have d8 := (blk_cell (blk_below K8.out hS) 0).trans rfl; have d9 := (blk_cell (blk_below K8.out hS) 1).trans rfl; have d10 := (blk_cell (blk_below K10.out hS) 0).trans rfl; have d11 := (blk_cell (blk_below K10.out hS) 1).trans rfl; have d12 := (blk_cell (blk_below K10.out hS) 2).trans rfl; have d13 := (blk_cell (blk_below K4.out hS) 0).trans rfl; have d14 := (blk_cell (blk_below K4.out hS) 1).trans rfl; have d15 := (blk_cell (blk_below K4.out hS) 2).trans rfl; have d16 := (blk_cell (blk_below K13.out hS) 0).trans rfl; have d17 := (blk_cell (blk_below K13.out hS) 1).trans rfl; go_simp; with_reducible rfl)
        rotate_left
        · (simp only [Act.put, List.setIfInBounds_toArray, List.set_cons_zero, List.set_cons_succ]; rfl)
        refine one_ (i := 40) (N := (some 80)) (lb 61 0x7ffffffffff) rfl rfl (by kernel_rfl) (by decide) (fun K hK => ?_)
        (refine goes_ Try.func25 (by kernel_rfl) rfl #[.agg #[.slice B1 g.terms.length d1, .slice B2 g.names.length d2, .slice B3 g.rules.length d3], .int .i64 sym] (by rfl) rfl rfl (by simp [Act.eval]) ?_; refine (term_c g B1 B2 B3 d1 d2 d3 sym _).mono ?_; rw [HTF.out]; rintro e w9 ⟨rfl, hb9⟩; refine ⟨_, rfl, ?_⟩; have HQ9 := Aside0.mk (below_then hHeld hHeld.size hb9); clear hb9; refine hK.out _ _ HQ9.out (fun hHeld => ?_))
        skip
        clear hK K
        refine norm_ (a' := ?_) ?_ ?_
        rotate_left
        · (show Act.put _ (some 80) _ = _; simp only [Act.put, List.setIfInBounds_toArray, List.set_cons_zero, List.set_cons_succ]; rfl)
        refine pure_ (i := 43) (N := (some 83)) (v := ?_) (a' := ?_) (lb 61 0xfffffffffff) rfl rfl (by kernel_rfl) (fun _ _ _ h => h) (Or.inl ⟨by rfl, ?_⟩) ?_ ?_
        rotate_left
        · (intro w'; go_simp; with_reducible rfl)
        rotate_left
        · (simp only [Act.put, List.setIfInBounds_toArray, List.set_cons_zero, List.set_cons_succ]; rfl)
        refine pure_ (i := 44) (N := (some 84)) (v := ?_) (a' := ?_) (lb 61 0x1fffffffffff) rfl rfl (by kernel_rfl) (fun _ _ _ h => h) (Or.inl ⟨by rfl, ?_⟩) ?_ ?_
        rotate_left
        · (intro w'; go_simp; with_reducible rfl)
        rotate_left
        · (simp only [Act.put, List.setIfInBounds_toArray, List.set_cons_zero, List.set_cons_succ]; rfl)
        refine pure_ (i := 45) (N := (some 85)) (v := ?_) (a' := ?_) (lb 61 0x3fffffffffff) rfl rfl (by kernel_rfl) (fun _ _ _ h => h) (Or.inl ⟨by rfl, ?_⟩) ?_ ?_
        rotate_left
        · (intro w'; go_simp; with_reducible rfl)
        rotate_left
        · (simp only [Act.put, List.setIfInBounds_toArray, List.set_cons_zero, List.set_cons_succ]; rfl)
        refine take_ (i := 46) (N := (some 86)) (v := ?_) (a' := ?_) (lb 61 0x7fffffffffff) rfl rfl (by kernel_rfl) (fun _ _ _ h => h) (Or.inl ⟨by rfl, ?_⟩) hHeld ?_ ?_
        rotate_left
        · (rintro w' hS; have d0 := (blk_cell (blk_below K7.out hS) 0).trans rfl; have d1 := (blk_cell (blk_below K7.out hS) 1).trans rfl; have d2 := (blk_cell (blk_below K7.out hS) 2).trans rfl; have d3 := (blk_cell (blk_below K9.out hS) 0).trans rfl; have d4 := (blk_cell (blk_below K9.out hS) 1).trans rfl; have d5 := (blk_cell (blk_below K9.out hS) 2).trans rfl; have d6 := (blk_cell (blk_below K9.out hS) 3).trans rfl; have d7 := (blk_cell (blk_below K9.out hS) 4).trans rfl; have d8 := (blk_cell (blk_below K8.out hS) 0).trans rfl; have d9 := (blk_cell (blk_below K8.out hS) 1).trans rfl; have d10 := (blk_cell (blk_below K10.out hS) 0).trans rfl; have d11 := (blk_cell (blk_below K10.out hS) 1).trans rfl; have d12 := (blk_cell (blk_below K10.out hS) 2).trans rfl; have d13 := (blk_cell (blk_below K4.out hS) 0).trans rfl; have d14 := (blk_cell (blk_below K4.out hS) 1).trans rfl; have d15 := (blk_cell (blk_below K4.out hS) 2).trans rfl; have d16 := (blk_cell (blk_below K13.out hS) 0).trans rfl; have d17 := (blk_cell (blk_below K13.out hS) 1).trans rfl; go_simp; with_reducible rfl)
        rotate_left
        · (simp only [Act.put, List.setIfInBounds_toArray, List.set_cons_zero, List.set_cons_succ]; rfl)
        refine pure_ (i := 47) (N := (some 87)) (v := ?_) (a' := ?_) (lb 61 0xffffffffffff) rfl rfl (by kernel_rfl) (fun _ _ _ h => h) (Or.inl ⟨by rfl, ?_⟩) ?_ ?_
        rotate_left
        · (intro w'; go_simp; with_reducible rfl)
        rotate_left
        · (simp only [Act.put, List.setIfInBounds_toArray, List.set_cons_zero, List.set_cons_succ]; rfl)
        refine pure_ (i := 48) (N := (some 88)) (v := ?_) (a' := ?_) (lb 61 0x1ffffffffffff) rfl rfl (by kernel_rfl) (fun _ _ _ h => h) (Or.inl ⟨by rfl, ?_⟩) ?_ ?_
        rotate_left
        · (intro w'; go_simp; with_reducible rfl)
        rotate_left
        · (simp only [Act.put, List.setIfInBounds_toArray, List.set_cons_zero, List.set_cons_succ]; rfl)
        refine pure_ (i := 49) (N := (some 89)) (v := ?_) (a' := ?_) (lb 61 0x3ffffffffffff) rfl rfl (by kernel_rfl) (fun _ _ _ h => h) (Or.inl ⟨by rfl, ?_⟩) ?_ ?_
        rotate_left
        · (intro w'; go_simp; with_reducible rfl)
        rotate_left
        · (simp only [Act.put, List.setIfInBounds_toArray, List.set_cons_zero, List.set_cons_succ]; rfl)
        refine pure_ (i := 50) (N := (some 90)) (v := ?_) (a' := ?_) (lb 61 0x7ffffffffffff) rfl rfl (by kernel_rfl) (fun _ _ _ h => h) (Or.inl ⟨by rfl, ?_⟩) ?_ ?_
        rotate_left
        · (intro w'; go_simp; with_reducible rfl)
        rotate_left
        · (simp only [Act.put, List.setIfInBounds_toArray, List.set_cons_zero, List.set_cons_succ]; rfl)
        refine pure_ (i := 51) (N := (some 91)) (v := ?_) (a' := ?_) (lb 61 0xfffffffffffff) rfl rfl (by kernel_rfl) (fun _ _ _ h => h) (Or.inl ⟨by rfl, ?_⟩) ?_ ?_
        rotate_left
        · (intro w'; go_simp; with_reducible rfl)
        rotate_left
        · (simp only [Act.put, List.setIfInBounds_toArray, List.set_cons_zero, List.set_cons_succ]; rfl)
        refine pure_ (i := 52) (N := (some 92)) (v := ?_) (a' := ?_) (lb 61 0x1fffffffffffff) rfl rfl (by kernel_rfl) (fun _ _ _ h => h) (Or.inl ⟨by rfl, ?_⟩) ?_ ?_
        rotate_left
        · (intro w'; go_simp; with_reducible rfl)
        rotate_left
        · (simp only [Act.put, List.setIfInBounds_toArray, List.set_cons_zero, List.set_cons_succ]; rfl)
        refine take_ (i := 53) (N := (some 93)) (v := ?_) (a' := ?_) (lb 61 0x3fffffffffffff) rfl rfl (by kernel_rfl) (fun _ _ _ h => h) (Or.inl ⟨by rfl, ?_⟩) hHeld ?_ ?_
        rotate_left
        · (rintro w' hS; have d0 := (blk_cell (blk_below K7.out hS) 0).trans rfl; have d1 := (blk_cell (blk_below K7.out hS) 1).trans rfl; have d2 := (blk_cell (blk_below K7.out hS) 2).trans rfl; have d3 := (blk_cell (blk_below K9.out hS) 0).trans rfl; have d4 := (blk_cell (blk_below K9.out hS) 1).trans rfl; have d5 := (blk_cell (blk_below K9.out hS) 2).trans rfl; have d6 := (blk_cell (blk_below K9.out hS) 3).trans rfl; have d7 := (blk_cell (blk_below K9.out hS) 4).trans rfl; have d8 := (blk_cell (blk_below K8.out hS) 0).trans rfl; have d9 := (blk_cell (blk_below K8.out hS) 1).trans rfl; have d10 := (blk_cell (blk_below K10.out hS) 0).trans rfl; have d11 := (blk_cell (blk_below K10.out hS) 1).trans rfl; have d12 := (blk_cell (blk_below K10.out hS) 2).trans rfl; have d13 := (blk_cell (blk_below K4.out hS) 0).trans rfl; have d14 := (blk_cell (blk_below K4.out hS) 1).trans rfl; have d15 := (blk_cell (blk_below K4.out hS) 2).trans rfl; have d16 := (blk_cell (blk_below K13.out hS) 0).trans rfl; have d17 := (blk_cell (blk_below K13.out hS) 1).trans rfl; go_simp; with_reducible rfl)
        rotate_left
        · (simp only [Act.put, List.setIfInBounds_toArray, List.set_cons_zero, List.set_cons_succ]; rfl)
        refine take_ (i := 54) (N := (some 94)) (v := ?_) (a' := ?_) (lb 61 0x7fffffffffffff) rfl rfl (by kernel_rfl) (fun _ _ _ h => h) (Or.inl ⟨by rfl, ?_⟩) hHeld ?_ ?_
        rotate_left
        · (rintro w' hS; have d0 := (blk_cell (blk_below K7.out hS) 0).trans rfl; have d1 := (blk_cell (blk_below K7.out hS) 1).trans rfl; have d2 := (blk_cell (blk_below K7.out hS) 2).trans rfl; have d3 := (blk_cell (blk_below K9.out hS) 0).trans rfl; have d4 := (blk_cell (blk_below K9.out hS) 1).trans rfl; have d5 := (blk_cell (blk_below K9.out hS) 2).trans rfl; have d6 := (blk_cell (blk_below K9.out hS) 3).trans rfl; have d7 := (blk_cell (blk_below K9.out hS) 4).trans rfl; have d8 := (blk_cell (blk_below K8.out hS) 0).trans rfl; have d9 := (blk_cell (blk_below K8.out hS) 1).trans rfl; have d10 := (blk_cell (blk_below K10.out hS) 0).trans rfl; have d11 := (blk_cell (blk_below K10.out hS) 1).trans rfl; have d12 := (blk_cell (blk_below K10.out hS) 2).trans rfl; have d13 := (blk_cell (blk_below K4.out hS) 0).trans rfl; have d14 := (blk_cell (blk_below K4.out hS) 1).trans rfl; have d15 := (blk_cell (blk_below K4.out hS) 2).trans rfl; have d16 := (blk_cell (blk_below K13.out hS) 0).trans rfl; have d17 := (blk_cell (blk_below K13.out hS) 1).trans rfl; go_simp; with_reducible rfl)
        rotate_left
        · (simp only [Act.put, List.setIfInBounds_toArray, List.set_cons_zero, List.set_cons_succ]; rfl)
        refine one_ (i := 55) (N := (some 95)) (lb 61 0xffffffffffffff) rfl rfl (by kernel_rfl) (by decide) (fun K hK => ?_)
        (refine goes_ Try.func22 (by kernel_rfl) rfl #[.agg #[.slice B1 g.terms.length d1, .slice B2 g.names.length d2, .slice B3 g.rules.length d3], .agg #[.slice A1 g.terms.length c1, .slice A2 g.names.length c2, .slice A3 g.rules.length c3]] (by rfl) rfl rfl (by simp [Act.eval]) ?_; refine (keepGrammar_c g g B1 B2 B3 A1 A2 A3 d1 d2 d3 c1 c2 c3 _ (RB.out.below_ hHeld) (RG.out.below_ hHeld)).mono ?_; rw [sameF_self]; rintro e w9 ⟨rfl, hb9⟩; refine ⟨_, rfl, ?_⟩; have HQ9 := Aside0.mk (below_then hHeld hHeld.size hb9); clear hb9; refine hK.out _ _ HQ9.out (fun hHeld => ?_))
        skip
        clear hK K
        refine norm_ (a' := ?_) ?_ ?_
        rotate_left
        · (show Act.put _ (some 95) _ = _; simp only [Act.put, List.setIfInBounds_toArray, List.set_cons_zero, List.set_cons_succ]; rfl)
        refine pure_ (i := 56) (N := (some 96)) (v := ?_) (a' := ?_) (lb 61 0x1ffffffffffffff) rfl rfl (by kernel_rfl) (fun _ _ _ h => h) (Or.inl ⟨by rfl, ?_⟩) ?_ ?_
        rotate_left
        · (intro w'; go_simp; with_reducible rfl)
        rotate_left
        · (simp only [Act.put, List.setIfInBounds_toArray, List.set_cons_zero, List.set_cons_succ]; rfl)
        refine pure_ (i := 57) (N := (some 97)) (v := ?_) (a' := ?_) (lb 61 0x3ffffffffffffff) rfl rfl (by kernel_rfl) (fun _ _ _ h => h) (Or.inl ⟨by rfl, ?_⟩) ?_ ?_
        rotate_left
        · (intro w'; go_simp; with_reducible rfl)
        rotate_left
        · (simp only [Act.put, List.setIfInBounds_toArray, List.set_cons_zero, List.set_cons_succ]; rfl)
        refine one_ (i := 58) (N := (some 98)) (lb 61 0x7ffffffffffffff) rfl rfl (by kernel_rfl) (by decide) (fun K hK => ?_)
        (refine goes_ Try.func16 (by kernel_rfl) rfl #[] (by rfl) rfl rfl (by simp [Act.eval]) ?_; refine (wakes03_c _).mono ?_; rintro e w9 ⟨rfl, hb9⟩; refine ⟨_, rfl, ?_⟩; have HQ9 := Aside0.mk (below_then hHeld hHeld.size hb9); clear hb9; refine hK.out _ _ HQ9.out (fun hHeld => ?_))
        skip
        clear hK K
        refine norm_ (a' := ?_) ?_ ?_
        rotate_left
        · (show Act.put _ (some 98) _ = _; simp only [Act.put, List.setIfInBounds_toArray, List.set_cons_zero, List.set_cons_succ]; rfl)
        refine pure_ (i := 59) (N := (some 99)) (v := ?_) (a' := ?_) (lb 61 0xfffffffffffffff) rfl rfl (by kernel_rfl) (fun _ _ _ h => h) (Or.inl ⟨by rfl, ?_⟩) ?_ ?_
        rotate_left
        · (intro w'; go_simp; with_reducible rfl)
        rotate_left
        · (simp only [Act.put, List.setIfInBounds_toArray, List.set_cons_zero, List.set_cons_succ]; rfl)
        refine pure_ (i := 60) (N := (some 6)) (v := ?_) (a' := ?_) (lb 61 0x1fffffffffffffff) rfl rfl (by kernel_rfl) (fun _ _ _ h => h) (Or.inl ⟨by rfl, ?_⟩) ?_ ?_
        rotate_left
        · (intro w'; go_simp; with_reducible rfl)
        rotate_left
        · (simp only [Act.put, List.setIfInBounds_toArray, List.set_cons_zero, List.set_cons_succ]; rfl)
        refine done_ (by kernel_rfl) ?_
        go_wp2
        go_ret
        exact ⟨ret_bool rfl, below_then HBV.out HBV.out.size hHeld⟩
end Go.Proofs.Ytphmmppmhphgeaa
