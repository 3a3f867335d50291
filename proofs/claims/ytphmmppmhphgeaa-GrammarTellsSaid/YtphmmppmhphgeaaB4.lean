/- The contract of the question whether a grammar's rules are right. -/
import Derived.Test.YtphmmppmhphgeaaB3
import Derived.Deep.RegionHeld3
import Derived.StillTailTactics
set_option linter.unusedVariables false
set_option linter.unusedSimpArgs false
namespace Go.Proofs.Ytphmmppmhphgeaa
open Go.RowKit Go.Proofs.YtphmmppmhphgeaaW.PrintWords

/-- A region that draws its order, all of whose operations but the last ones only read: one walk. -/
theorem wp_region_tail {id : Nat} {Q : Exit → Act → World → Prop} {a : Act} {w : World} {l : List Oper} (n : Nat) (hm : Try.prog.follows .mixedOrders = true) (hB : Region.lexTailB .any l.toArray n = true)
    (h : wpStill Try.prog l.toArray w.drew (fun a' => wpList Try.prog l.toArray Q (l.drop n) a' w.drew) (l.take n) a) : (Code.region id l.toArray true).wp Try.prog Q a w :=
  wp_region_still_tail n hm hB h
def symB (all : Int) (s : Int) : Bool := decide (s < 0) || decide (all ≤ s)
def rulF (t all : Int) : List Rule → List Rule → Bool
  | _, [] => true
  | seen, r :: l =>
    if r.left < t ∨ all ≤ r.left ∨ 8 < r.right.length ∨ (seen.any fun x => decide (x = r)) = true then false
    else if r.right.any (symB all) = true then false else rulF t all (seen ++ [r]) l
theorem rulF_drop {t all : Int} {l : List Rule} {k : Nat} {R : Bool} (hk : k < l.length) (h : rulF t all (l.take k) (l.drop k) = R) :
    (if (l[k]'hk).left < t ∨ all ≤ (l[k]'hk).left ∨ 8 < (l[k]'hk).right.length ∨ ((l.take k).any fun x => decide (x = l[k]'hk)) = true then false
    else if (l[k]'hk).right.any (symB all) = true then false else rulF t all (l.take (k + 1)) (l.drop (k + 1))) = R := by
  rw [List.drop_eq_getElem_cons hk, rulF] at h
  rw [List.take_succ_eq_append_getElem hk]
  exact h

theorem ruledIn_c (b : Nat) (all s : Int) (w : World) (hb : w.heap[b]? = some (.cells #[.int .i64 all] 3 (0, 0))) :
    Calls Try.prog 88 #[.int .i64 s, .pointer (some ⟨b, 0, none⟩)] w fun e w' => e = .returned (.bool (symB all s)) ∧ w = w' := by
  have d1 := blk_cell hb 0
  simp only [List.getElem?_toArray, List.getElem?_cons_zero] at d1
  clear hb
  by_cases h1 : s < 0 <;> by_cases h2 : all ≤ s
  all_goals
    go_enter Try.func88, Try.ntmps88
    go_wp2
    go_ret
    exact ⟨ret_bool (by simp [symB, *] <;> try omega), rfl⟩

theorem pred_ruled (b : Nat) (all : Int) (l : List Int) (w : World) (hb : w.heap[b]? = some (.cells #[.int .i64 all] 3 (0, 0))) : PredI w (.func (.func 88) #[] #[.pointer (some ⟨b, 0, none⟩)]) (symB all) l :=
  ⟨_, _, _, rfl, fun _ _ => by kernel_rfl, fun s _ W hW => (ruledIn_c _ _ s W (blk_below hb hW)).mono fun e w' h => ⟨h.1, h.2 ▸ Below.refl _ _⟩⟩
set_option maxRecDepth 100000 in
set_option maxHeartbeats 1000000 in
theorem ruled_c (g : Gram) (A1 A2 A3 : Option Addr) (c1 c2 c3 : Nat) (w : World) (hg : RepG w g A1 A2 A3 c1 c2 c3) (hsz : g.terms.length + g.names.length ≤ 1000) :
    Calls Try.prog 58 #[.agg #[.slice A1 g.terms.length c1, .slice A2 g.names.length c2, .slice A3 g.rules.length c3]] w fun e w' => e = .returned (.bool (decide (1 ≤ g.rules.length) && decide (g.rules.length ≤ 60) && rulF g.terms.length (g.terms.length + g.names.length) [] g.rules)) ∧ Below w.heap.size w w' := by
  have HB := Aside0.mk ((Below.refl w.heap.size w).alloc (Nat.le_refl _) (.cells #[.slice A1 g.terms.length c1, .slice A2 g.names.length c2, .slice A3 g.rules.length c3] 25 (0, 0)))
  have HG := Aside0.mk hg
  clear hg
  have hmf : ∀ (fn : Fn) (first cap : Array Value) (w : World), (Instr.makeFunc fn first cap).run Try.prog w = .ok (.func fn first cap) w := fun _ _ _ _ => rfl
  by_cases hr1 : 1 ≤ g.rules.length
  · by_cases hr2 : g.rules.length ≤ 60
    · obtain ⟨R, hR⟩ : ∃ R, rulF g.terms.length (g.terms.length + g.names.length) [] g.rules = R := ⟨_, rfl⟩
      rw [hR, decide_eq_true hr1, decide_eq_true hr2, Bool.true_and, Bool.true_and]
      have HE := Aside0.mk hR
      clear hR
      go_enter Try.func58, Try.ntmps58
      go_wp2
      go_loopw [26] (fun i wr => ∃ k : Nat, k ≤ g.rules.length ∧ i = .int .i64 k ∧ Aside0 (rulF g.terms.length (g.terms.length + g.names.length) (g.rules.take k) (g.rules.drop k) = R) ∧
        Aside0 (wr.heap[w.heap.size]? = some (.cells #[.slice A1 g.terms.length c1, .slice A2 g.names.length c2, .slice A3 g.rules.length c3] 25 (0, 0))) ∧ Aside0 (wr.heap[w.heap.size + 1]? = some (.cells #[.int .i64 (g.terms.length + g.names.length)] 3 (0, 0))) ∧ Aside0 (Below w.heap.size w wr)) (fun i _ => g.rules.length - (intOf i).toNat)
      case atStart => exact ⟨0, Nat.zero_le _, rfl, ⟨HE.out⟩, ⟨blk_alloc (blk_new w _) _⟩, ⟨by simpa using blk_new (w.alloc (.cells #[.slice A1 g.terms.length c1, .slice A2 g.names.length c2, .slice A3 g.rules.length c3] 25 (0, 0))) (.cells #[.int .i64 (g.terms.length + g.names.length)] 3 (0, 0))⟩, ⟨HB.out.alloc (by simp) _⟩⟩
      case round =>
        obtain ⟨k, hk, rfl, HI, HP, HQ, HB1⟩ := hrel
        by_cases hlt : k < g.rules.length
        · obtain ⟨ad, B1, d1, ead, hx, hy, hd1, hC1⟩ := at_rule (Kd.C_below HG.out.rules HB1.out) k hlt
          cases ead
          have hS := rulF_drop hlt HI.out
          obtain ⟨x, hx0⟩ : ∃ x, x = g.rules[k]'hlt := ⟨_, rfl⟩
          rw [← hx0] at hx hy hd1 hC1 hS
          have HX := Lib.hid hx0
          clear hx0
          have hP1 := blk_alloc HP.out (.cells #[.int .i64 x.left, .slice B1 x.right.length d1] 56 (0, 0))
          have hQ1 := blk_alloc HQ.out (.cells #[.int .i64 x.left, .slice B1 x.right.length d1] 56 (0, 0))
          have a1 := blk_cell hP1 0
          have a2 := blk_cell hP1 1
          have a3 := blk_cell hP1 2
          have a4 := blk_cell hQ1 0
          simp only [List.getElem?_toArray, List.getElem?_cons_zero, List.getElem?_cons_succ] at a1 a2 a3 a4
          have HBr := Aside0.mk (HB1.out.alloc (by have := HB1.out.size; omega) (.cells #[.int .i64 x.left, .slice B1 x.right.length d1] 56 (0, 0)))
          have HPa := Aside0.mk hP1
          have HQa := Aside0.mk hQ1
          have HC1 := Aside0.mk (Kd.C_below hC1 (below_alloc (Below.refl _ _) (.cells #[.int .i64 x.left, .slice B1 x.right.length d1] 56 (0, 0))))
          have HT := Aside0.mk (C_take' (Kd.C_below HG.out.rules HBr.out) hk)
          clear hP1 hQ1 hC1
          have hkc : k ≤ c3 := Nat.le_trans hk HG.out.rulesCap
          have i1 : (0 : Int) ≤ (k : Int) := by omega
          have i2 : (k : Int) ≤ (c3 : Int) := by omega
          by_cases h1 : x.left < g.terms.length
          · rw [if_pos (.inl h1)] at hS
            have HS := Aside0.mk hS
            clear hS
            go_wp2
            go_quiet (fail)
            go_wp2
            go_ret
            exact ⟨ret_bool HS.out, below_drewN HBr.out _⟩
          · have h1b : decide (x.left < (g.terms.length : Int)) = false := decide_eq_false h1
            by_cases h2 : g.terms.length + g.names.length ≤ x.left
            · rw [if_pos (.inr (.inl h2))] at hS
              have HS := Aside0.mk hS
              clear hS
              go_wp2
              go_quiet (fail)
              go_wp2
              go_ret
              exact ⟨ret_bool HS.out, below_drewN HBr.out _⟩
            · have h2b : decide ((g.terms.length : Int) + (g.names.length : Int) ≤ x.left) = false := decide_eq_false h2
              by_cases h3 : 8 < x.right.length
              · have h3b : decide ((8 : Int) < (x.right.length : Int)) = true := decide_eq_true (by omega)
                rw [if_pos (.inr (.inr (.inl h3)))] at hS
                have HS := Aside0.mk hS
                clear hS
                go_wp2
                go_quiet (fail)
                go_wp2
                go_ret
                exact ⟨ret_bool HS.out, below_drewN HBr.out _⟩
              · have h3b : decide ((8 : Int) < (x.right.length : Int)) = false := decide_eq_false (by omega)
                cases h4 : (g.rules.take k).any fun y => decide (y = x)
                · rw [if_neg (fun h => h.elim h1 (fun h => h.elim h2 (fun h => h.elim h3 (fun h => by rw [h4] at h; cases h))))] at hS
                  cases h5 : x.right.any (symB (g.terms.length + g.names.length))
                  · rw [if_neg (by rw [h5]; simp)] at hS
                    have HS := Aside0.mk hS
                    clear hS
                    go_wp2
                    refine wp_region_tail 24 (by kernel_rfl) (by kernel_rfl) ?_
                    simp only [List.take_succ_cons, List.take_zero, List.drop_succ_cons, List.drop_zero]
                    repeat still_step
                    try refine wpStill_nil ?_
                    go_wp2_with (first | (go_at_call 49; refine (has_c _ _ _ _ _ _ _ _ (Kd.C_below HT.out (Below.refl _ _).drew) hd1 (Kd.C_below HC1.out (Below.refl _ _).drew)).mono ?_; rw [h4]; rintro e w1 ⟨rfl, hb1⟩; have hN1 := blk_below (blk_drew (blk_new wr (.cells #[.int .i64 x.left, .slice B1 x.right.length d1] 56 (0, 0)))) hb1; have b1 := blk_cell hN1 1; simp only [List.getElem?_toArray, List.getElem?_cons_zero, List.getElem?_cons_succ] at b1; have HB2 := Aside0.mk (below_then HBr.out.drew HBr.out.size hb1); have HP2 := Aside0.mk (blk_below (blk_drew HPa.out) hb1); have HQ2 := Aside0.mk (blk_below (blk_drew HQa.out) hb1); have HC2 := Aside0.mk (Kd.C_below (Kd.C_below HC1.out (Below.refl _ _).drew) hb1); clear hN1 hb1) | (go_at_call 87; refine (containsFuncInt_c _ _ _ _ _ _ HC2.out (pred_ruled _ _ _ _ HQ2.out)).mono ?_; rw [h5]; rintro e w2 ⟨rfl, hb2⟩))
                    go_roundw
                    case rel => exact ⟨k + 1, by omega, by go_num, HS, ⟨blk_below HP2.out hb2⟩, ⟨blk_below HQ2.out hb2⟩, ⟨below_then HB2.out HB2.out.size hb2⟩⟩
                    case measure => simp [intOf]; omega
                  · rw [if_pos h5] at hS
                    have HS := Aside0.mk hS
                    clear hS
                    go_wp2
                    refine wp_region_tail 24 (by kernel_rfl) (by kernel_rfl) ?_
                    simp only [List.take_succ_cons, List.take_zero, List.drop_succ_cons, List.drop_zero]
                    repeat still_step
                    try refine wpStill_nil ?_
                    go_wp2_with (first | (go_at_call 49; refine (has_c _ _ _ _ _ _ _ _ (Kd.C_below HT.out (Below.refl _ _).drew) hd1 (Kd.C_below HC1.out (Below.refl _ _).drew)).mono ?_; rw [h4]; rintro e w1 ⟨rfl, hb1⟩; have hN1 := blk_below (blk_drew (blk_new wr (.cells #[.int .i64 x.left, .slice B1 x.right.length d1] 56 (0, 0)))) hb1; have b1 := blk_cell hN1 1; simp only [List.getElem?_toArray, List.getElem?_cons_zero, List.getElem?_cons_succ] at b1; have HB2 := Aside0.mk (below_then HBr.out.drew HBr.out.size hb1); have HP2 := Aside0.mk (blk_below (blk_drew HPa.out) hb1); have HQ2 := Aside0.mk (blk_below (blk_drew HQa.out) hb1); have HC2 := Aside0.mk (Kd.C_below (Kd.C_below HC1.out (Below.refl _ _).drew) hb1); clear hN1 hb1) | (go_at_call 87; refine (containsFuncInt_c _ _ _ _ _ _ HC2.out (pred_ruled _ _ _ _ HQ2.out)).mono ?_; rw [h5]; rintro e w2 ⟨rfl, hb2⟩))
                    go_ret
                    exact ⟨ret_bool HS.out, below_then HB2.out HB2.out.size hb2⟩
                · rw [if_pos (.inr (.inr (.inr h4)))] at hS
                  have HS := Aside0.mk hS
                  clear hS
                  go_wp2
                  refine wp_region_tail 24 (by kernel_rfl) (by kernel_rfl) ?_
                  simp only [List.take_succ_cons, List.take_zero, List.drop_succ_cons, List.drop_zero]
                  repeat still_step
                  try refine wpStill_nil ?_
                  go_wp2_with (first | (go_at_call 49; refine (has_c _ _ _ _ _ _ _ _ (Kd.C_below HT.out (Below.refl _ _).drew) hd1 (Kd.C_below HC1.out (Below.refl _ _).drew)).mono ?_; rw [h4]; rintro e w1 ⟨rfl, hb1⟩; have HB2 := Aside0.mk (below_then HBr.out.drew HBr.out.size hb1)))
                  go_ret
                  exact ⟨ret_bool HS.out, HB2.out⟩
        · have hS := HI.out
          rw [List.drop_eq_nil_of_le (by omega), rulF] at hS
          have HS := Aside0.mk hS
          clear hS
          go_wp2
          go_ret
          exact ⟨ret_bool HS.out, HB1.out⟩
    · rw [decide_eq_false hr2, Bool.and_false, Bool.false_and]
      go_enter Try.func58, Try.ntmps58
      go_wp2
      go_ret
      exact ⟨ret_bool rfl, HB.out⟩
  · rw [decide_eq_false hr1, Bool.false_and, Bool.false_and]
    go_enter Try.func58, Try.ntmps58
    go_wp2
    go_ret
    exact ⟨ret_bool rfl, HB.out⟩
end Go.Proofs.Ytphmmppmhphgeaa
