/- The contract of keep.LargeGrammar. -/
import Derived.Test.YtphmmppmhphgeaaE2
set_option linter.unusedVariables false
set_option linter.unusedSimpArgs false
namespace Go.Proofs.Ytphmmppmhphgeaa
open Go.RowKit Go.Proofs.YtphmmppmhphgeaaW.PrintWords

structure GSmall (g : Gram) : Prop where
  terms : g.terms.length ≤ 4000
  names : g.names.length ≤ 4000
  rules : g.rules.length ≤ 200
  rights : ∀ r ∈ g.rules, r.right.length ≤ 4000

def LargeEnd (g : Gram) (e : Ending) : Prop := ∃ b, e = .returned (.bool b) ∧ (b = false → GSmall g)
set_option maxRecDepth 100000 in
set_option maxHeartbeats 2000000 in
theorem large_c (g : Gram) (A1 A2 A3 : Option Addr) (c1 c2 c3 : Nat) (w : World) (hg : RepG w g A1 A2 A3 c1 c2 c3) :
    Calls Try.prog 15 #[.agg #[.slice A1 g.terms.length c1, .slice A2 g.names.length c2, .slice A3 g.rules.length c3]] w fun e w' => LargeEnd g e ∧ Below w.heap.size w w' := by
  have hm1 := C_max hg.terms
  have hm2 := C_max hg.names
  have hm3 := C_max hg.rules
  have HG := Aside0.mk hg
  have HP := Aside0.mk (blk_new w (.cells #[.slice A1 g.terms.length c1, .slice A2 g.names.length c2, .slice A3 g.rules.length c3] 25 (0, 0)))
  have HB := Aside0.mk ((Below.refl w.heap.size w).alloc (Nat.le_refl _) (.cells #[.slice A1 g.terms.length c1, .slice A2 g.names.length c2, .slice A3 g.rules.length c3] 25 (0, 0)))
  clear hg
  go_enter Try.func15, Try.ntmps15
  go_wp2
  go_loopw [4, 3] (fun i nv wr => ∃ (k : Nat) (n : Int), k ≤ g.terms.length ∧ i = .int .i64 k ∧ nv = .int .i64 n ∧ (k : Int) ≤ n ∧ n ≤ 8001 ∧ Aside0 (wr.heap[w.heap.size]? = some (.cells #[.slice A1 g.terms.length c1, .slice A2 g.names.length c2, .slice A3 g.rules.length c3] 25 (0, 0))) ∧ Aside0 (Below w.heap.size w wr)) (fun i _ _ => g.terms.length - (intOf i).toNat)
  case atStart => exact ⟨0, 0, Nat.zero_le _, rfl, rfl, by omega, by omega, HP, HB⟩
  case round =>
    clear HP HB
    obtain ⟨k, n, hk, rfl, rfl, hkn, hn, HP, HB⟩ := hrel
    have a1 := blk_cell HP.out 0
    have a2 := blk_cell HP.out 1
    have a3 := blk_cell HP.out 2
    simp only [List.getElem?_toArray, List.getElem?_cons_zero, List.getElem?_cons_succ] at a1 a2 a3
    by_cases hlt : k < g.terms.length
    · by_cases h4 : n ≤ 4000
      · have i1 : (0 : Int) ≤ (k : Int) := by omega
        have i2 : (k : Int) < (g.terms.length : Int) := by omega
        obtain ⟨ad, ead, hx⟩ := at_str (Kd.C_below HG.out.terms HB.out) k hlt
        cases ead
        go_wp2
        go_roundw
        case rel =>
          refine ⟨k + 1, _, by omega, by go_num, rfl, ?_, ?_, HP, HB⟩
          · split <;> omega
          · split <;> omega
        case measure => simp [intOf]; omega
      · go_wp2
        have HE : Aside0 (4000 < n ∨ (g.terms.length : Int) ≤ n) := ⟨by omega⟩
        obtain ⟨wo, hwo⟩ : ∃ wo : World, wo = wr := ⟨_, rfl⟩
        subst hwo
        obtain ⟨n0, hn0⟩ : ∃ n0 : Int, n0 = n := ⟨_, rfl⟩
        have hz0 : 0 ≤ n0 := by omega
        have hz1 : n0 ≤ 8001 := by omega
        rw [← hn0] at HE
        rw [← hn0]
        clear hkn hn hn0 hlt hk a1 a2 a3 h4
        go_loopw [5, 3] (fun i nv wr => ∃ (k : Nat) (n : Int), k ≤ g.names.length ∧ i = .int .i64 k ∧ nv = .int .i64 n ∧ (k : Int) ≤ n ∧ n ≤ 8001 ∧ Aside0 (4000 < n ∨ (g.terms.length : Int) ≤ n) ∧ Aside0 (wr.heap[w.heap.size]? = some (.cells #[.slice A1 g.terms.length c1, .slice A2 g.names.length c2, .slice A3 g.rules.length c3] 25 (0, 0))) ∧ Aside0 (Below w.heap.size w wr)) (fun i _ _ => g.names.length - (intOf i).toNat)
        case atStart => exact ⟨0, n0, Nat.zero_le _, rfl, rfl, by omega, by omega, HE, HP, HB⟩
        case round =>
          clear HP HB
          obtain ⟨k, n, hk, rfl, rfl, hkn, hn, HE, HP, HB⟩ := hrel
          have a1 := blk_cell HP.out 0
          have a2 := blk_cell HP.out 1
          have a3 := blk_cell HP.out 2
          simp only [List.getElem?_toArray, List.getElem?_cons_zero, List.getElem?_cons_succ] at a1 a2 a3
          by_cases hlt : k < g.names.length
          · by_cases h4 : n ≤ 4000
            · have i1 : (0 : Int) ≤ (k : Int) := by omega
              have i2 : (k : Int) < (g.names.length : Int) := by omega
              obtain ⟨ad, ead, hx⟩ := at_str (Kd.C_below HG.out.names HB.out) k hlt
              cases ead
              go_wp2
              go_roundw
              case rel =>
                refine ⟨k + 1, _, by omega, by go_num, rfl, ?_, ?_, ⟨?_⟩, HP, HB⟩
                · split <;> omega
                · split <;> omega
                · have := HE.out; split <;> omega
              case measure => simp [intOf]; omega
            · go_wp2
              have HE2 : Aside0 (4000 < n ∨ ((g.terms.length : Int) ≤ n ∧ (g.names.length : Int) ≤ n)) := ⟨by have := HE.out; omega⟩
              obtain ⟨wo, hwo⟩ : ∃ wo : World, wo = wr := ⟨_, rfl⟩
              subst hwo
              obtain ⟨n0, hn0⟩ : ∃ n0 : Int, n0 = n := ⟨_, rfl⟩
              have hz0 : 0 ≤ n0 := by omega
              have hz1 : n0 ≤ 8001 := by omega
              have hE3 := HE2.out
              rw [← hn0] at hE3
              rw [← hn0]
              clear hkn hn hn0 hlt hk a1 a2 a3 h4 HE HE2
              go_loopw [6, 3] (fun i nv wr => ∃ (k : Nat) (n : Int), k ≤ g.rules.length ∧ i = .int .i64 k ∧ nv = .int .i64 n ∧ (k : Int) ≤ n ∧ n ≤ 8001 ∧ Aside0 ((4000 < n ∨ ((g.terms.length : Int) ≤ n ∧ (g.names.length : Int) ≤ n)) ∧ ∀ j (hj : j < g.rules.length), j < k → (g.rules[j]'hj).right.length ≤ 4000 ∨ 4000 < n) ∧ Aside0 (wr.heap[w.heap.size]? = some (.cells #[.slice A1 g.terms.length c1, .slice A2 g.names.length c2, .slice A3 g.rules.length c3] 25 (0, 0))) ∧ Aside0 (Below w.heap.size w wr)) (fun i _ _ => g.rules.length - (intOf i).toNat)
              case atStart => exact ⟨0, n0, Nat.zero_le _, rfl, rfl, by omega, by omega, ⟨by omega, fun j hj h => by omega⟩, HP, HB⟩
              case round =>
                clear HP HB
                obtain ⟨k, n, hk, rfl, rfl, hkn, hn, HE, HP, HB⟩ := hrel
                have a1 := blk_cell HP.out 0
                have a2 := blk_cell HP.out 1
                have a3 := blk_cell HP.out 2
                simp only [List.getElem?_toArray, List.getElem?_cons_zero, List.getElem?_cons_succ] at a1 a2 a3
                by_cases hlt : k < g.rules.length
                · by_cases h4 : n ≤ 4000
                  · have i1 : (0 : Int) ≤ (k : Int) := by omega
                    have i2 : (k : Int) < (g.rules.length : Int) := by omega
                    obtain ⟨ad, B1, d1, ead, _, hx, hd1, _⟩ := at_rule (Kd.C_below HG.out.rules HB.out) k hlt
                    cases ead
                    go_wp2
                    go_roundw
                    case rel =>
                      refine ⟨k + 1, _, by omega, by go_num, rfl, ?_, ?_, ⟨?_, fun j hj hjk => ?_⟩, HP, HB⟩
                      · split <;> omega
                      · split <;> omega
                      · have := HE.out.1; split <;> omega
                      · rcases Nat.lt_or_ge j k with h | h
                        · have := HE.out.2 j hj h; split <;> omega
                        · obtain rfl : j = k := by omega
                          split <;> omega
                    case measure => simp [intOf]; omega
                  · go_wp2
                    go_ret
                    exact ⟨⟨true, ret_bool (by first | rfl | (simp; omega)), fun h => by cases h⟩, HB.out⟩
                · by_cases h4 : n ≤ 4000
                  · by_cases h200 : g.rules.length ≤ 200
                    · go_wp2
                      go_ret
                      refine ⟨⟨false, ret_bool (by first | rfl | (simp; omega)), fun _ => ⟨?_, ?_, h200, fun r hr => ?_⟩⟩, HB.out⟩
                      · have := HE.out.1; omega
                      · have := HE.out.1; omega
                      · obtain ⟨j, hj, rfl⟩ := List.getElem_of_mem hr
                        have := HE.out.2 j hj (by omega)
                        omega
                    · go_wp2
                      go_ret
                      exact ⟨⟨true, ret_bool (by first | rfl | (simp; omega)), fun h => by cases h⟩, HB.out⟩
                  · go_wp2
                    go_ret
                    exact ⟨⟨true, ret_bool (by first | rfl | (simp; omega)), fun h => by cases h⟩, HB.out⟩
          · go_wp2
            have HE2 : Aside0 (4000 < n ∨ ((g.terms.length : Int) ≤ n ∧ (g.names.length : Int) ≤ n)) := ⟨by have := HE.out; omega⟩
            obtain ⟨wo, hwo⟩ : ∃ wo : World, wo = wr := ⟨_, rfl⟩
            subst hwo
            obtain ⟨n0, hn0⟩ : ∃ n0 : Int, n0 = n := ⟨_, rfl⟩
            have hz0 : 0 ≤ n0 := by omega
            have hz1 : n0 ≤ 8001 := by omega
            have hE3 := HE2.out
            rw [← hn0] at hE3
            rw [← hn0]
            clear hkn hn hn0 hlt hk a1 a2 a3 HE HE2
            go_loopw [6, 3] (fun i nv wr => ∃ (k : Nat) (n : Int), k ≤ g.rules.length ∧ i = .int .i64 k ∧ nv = .int .i64 n ∧ (k : Int) ≤ n ∧ n ≤ 8001 ∧ Aside0 ((4000 < n ∨ ((g.terms.length : Int) ≤ n ∧ (g.names.length : Int) ≤ n)) ∧ ∀ j (hj : j < g.rules.length), j < k → (g.rules[j]'hj).right.length ≤ 4000 ∨ 4000 < n) ∧ Aside0 (wr.heap[w.heap.size]? = some (.cells #[.slice A1 g.terms.length c1, .slice A2 g.names.length c2, .slice A3 g.rules.length c3] 25 (0, 0))) ∧ Aside0 (Below w.heap.size w wr)) (fun i _ _ => g.rules.length - (intOf i).toNat)
            case atStart => exact ⟨0, n0, Nat.zero_le _, rfl, rfl, by omega, by omega, ⟨by omega, fun j hj h => by omega⟩, HP, HB⟩
            case round =>
              clear HP HB
              obtain ⟨k, n, hk, rfl, rfl, hkn, hn, HE, HP, HB⟩ := hrel
              have a1 := blk_cell HP.out 0
              have a2 := blk_cell HP.out 1
              have a3 := blk_cell HP.out 2
              simp only [List.getElem?_toArray, List.getElem?_cons_zero, List.getElem?_cons_succ] at a1 a2 a3
              by_cases hlt : k < g.rules.length
              · by_cases h4 : n ≤ 4000
                · have i1 : (0 : Int) ≤ (k : Int) := by omega
                  have i2 : (k : Int) < (g.rules.length : Int) := by omega
                  obtain ⟨ad, B1, d1, ead, _, hx, hd1, _⟩ := at_rule (Kd.C_below HG.out.rules HB.out) k hlt
                  cases ead
                  go_wp2
                  go_roundw
                  case rel =>
                    refine ⟨k + 1, _, by omega, by go_num, rfl, ?_, ?_, ⟨?_, fun j hj hjk => ?_⟩, HP, HB⟩
                    · split <;> omega
                    · split <;> omega
                    · have := HE.out.1; split <;> omega
                    · rcases Nat.lt_or_ge j k with h | h
                      · have := HE.out.2 j hj h; split <;> omega
                      · obtain rfl : j = k := by omega
                        split <;> omega
                  case measure => simp [intOf]; omega
                · go_wp2
                  go_ret
                  exact ⟨⟨true, ret_bool (by first | rfl | (simp; omega)), fun h => by cases h⟩, HB.out⟩
              · by_cases h4 : n ≤ 4000
                · by_cases h200 : g.rules.length ≤ 200
                  · go_wp2
                    go_ret
                    refine ⟨⟨false, ret_bool (by first | rfl | (simp; omega)), fun _ => ⟨?_, ?_, h200, fun r hr => ?_⟩⟩, HB.out⟩
                    · have := HE.out.1; omega
                    · have := HE.out.1; omega
                    · obtain ⟨j, hj, rfl⟩ := List.getElem_of_mem hr
                      have := HE.out.2 j hj (by omega)
                      omega
                  · go_wp2
                    go_ret
                    exact ⟨⟨true, ret_bool (by first | rfl | (simp; omega)), fun h => by cases h⟩, HB.out⟩
                · go_wp2
                  go_ret
                  exact ⟨⟨true, ret_bool (by first | rfl | (simp; omega)), fun h => by cases h⟩, HB.out⟩
    · go_wp2
      have HE : Aside0 (4000 < n ∨ (g.terms.length : Int) ≤ n) := ⟨by omega⟩
      obtain ⟨wo, hwo⟩ : ∃ wo : World, wo = wr := ⟨_, rfl⟩
      subst hwo
      obtain ⟨n0, hn0⟩ : ∃ n0 : Int, n0 = n := ⟨_, rfl⟩
      have hz0 : 0 ≤ n0 := by omega
      have hz1 : n0 ≤ 8001 := by omega
      rw [← hn0] at HE
      rw [← hn0]
      clear hkn hn hn0 hlt hk a1 a2 a3
      go_loopw [5, 3] (fun i nv wr => ∃ (k : Nat) (n : Int), k ≤ g.names.length ∧ i = .int .i64 k ∧ nv = .int .i64 n ∧ (k : Int) ≤ n ∧ n ≤ 8001 ∧ Aside0 (4000 < n ∨ (g.terms.length : Int) ≤ n) ∧ Aside0 (wr.heap[w.heap.size]? = some (.cells #[.slice A1 g.terms.length c1, .slice A2 g.names.length c2, .slice A3 g.rules.length c3] 25 (0, 0))) ∧ Aside0 (Below w.heap.size w wr)) (fun i _ _ => g.names.length - (intOf i).toNat)
      case atStart => exact ⟨0, n0, Nat.zero_le _, rfl, rfl, by omega, by omega, HE, HP, HB⟩
      case round =>
        clear HP HB
        obtain ⟨k, n, hk, rfl, rfl, hkn, hn, HE, HP, HB⟩ := hrel
        have a1 := blk_cell HP.out 0
        have a2 := blk_cell HP.out 1
        have a3 := blk_cell HP.out 2
        simp only [List.getElem?_toArray, List.getElem?_cons_zero, List.getElem?_cons_succ] at a1 a2 a3
        by_cases hlt : k < g.names.length
        · by_cases h4 : n ≤ 4000
          · have i1 : (0 : Int) ≤ (k : Int) := by omega
            have i2 : (k : Int) < (g.names.length : Int) := by omega
            obtain ⟨ad, ead, hx⟩ := at_str (Kd.C_below HG.out.names HB.out) k hlt
            cases ead
            go_wp2
            go_roundw
            case rel =>
              refine ⟨k + 1, _, by omega, by go_num, rfl, ?_, ?_, ⟨?_⟩, HP, HB⟩
              · split <;> omega
              · split <;> omega
              · have := HE.out; split <;> omega
            case measure => simp [intOf]; omega
          · go_wp2
            have HE2 : Aside0 (4000 < n ∨ ((g.terms.length : Int) ≤ n ∧ (g.names.length : Int) ≤ n)) := ⟨by have := HE.out; omega⟩
            obtain ⟨wo, hwo⟩ : ∃ wo : World, wo = wr := ⟨_, rfl⟩
            subst hwo
            obtain ⟨n0, hn0⟩ : ∃ n0 : Int, n0 = n := ⟨_, rfl⟩
            have hz0 : 0 ≤ n0 := by omega
            have hz1 : n0 ≤ 8001 := by omega
            have hE3 := HE2.out
            rw [← hn0] at hE3
            rw [← hn0]
            clear hkn hn hn0 hlt hk a1 a2 a3 h4 HE HE2
            go_loopw [6, 3] (fun i nv wr => ∃ (k : Nat) (n : Int), k ≤ g.rules.length ∧ i = .int .i64 k ∧ nv = .int .i64 n ∧ (k : Int) ≤ n ∧ n ≤ 8001 ∧ Aside0 ((4000 < n ∨ ((g.terms.length : Int) ≤ n ∧ (g.names.length : Int) ≤ n)) ∧ ∀ j (hj : j < g.rules.length), j < k → (g.rules[j]'hj).right.length ≤ 4000 ∨ 4000 < n) ∧ Aside0 (wr.heap[w.heap.size]? = some (.cells #[.slice A1 g.terms.length c1, .slice A2 g.names.length c2, .slice A3 g.rules.length c3] 25 (0, 0))) ∧ Aside0 (Below w.heap.size w wr)) (fun i _ _ => g.rules.length - (intOf i).toNat)
            case atStart => exact ⟨0, n0, Nat.zero_le _, rfl, rfl, by omega, by omega, ⟨by omega, fun j hj h => by omega⟩, HP, HB⟩
            case round =>
              clear HP HB
              obtain ⟨k, n, hk, rfl, rfl, hkn, hn, HE, HP, HB⟩ := hrel
              have a1 := blk_cell HP.out 0
              have a2 := blk_cell HP.out 1
              have a3 := blk_cell HP.out 2
              simp only [List.getElem?_toArray, List.getElem?_cons_zero, List.getElem?_cons_succ] at a1 a2 a3
              by_cases hlt : k < g.rules.length
              · by_cases h4 : n ≤ 4000
                · have i1 : (0 : Int) ≤ (k : Int) := by omega
                  have i2 : (k : Int) < (g.rules.length : Int) := by omega
                  obtain ⟨ad, B1, d1, ead, _, hx, hd1, _⟩ := at_rule (Kd.C_below HG.out.rules HB.out) k hlt
                  cases ead
                  go_wp2
                  go_roundw
                  case rel =>
                    refine ⟨k + 1, _, by omega, by go_num, rfl, ?_, ?_, ⟨?_, fun j hj hjk => ?_⟩, HP, HB⟩
                    · split <;> omega
                    · split <;> omega
                    · have := HE.out.1; split <;> omega
                    · rcases Nat.lt_or_ge j k with h | h
                      · have := HE.out.2 j hj h; split <;> omega
                      · obtain rfl : j = k := by omega
                        split <;> omega
                  case measure => simp [intOf]; omega
                · go_wp2
                  go_ret
                  exact ⟨⟨true, ret_bool (by first | rfl | (simp; omega)), fun h => by cases h⟩, HB.out⟩
              · by_cases h4 : n ≤ 4000
                · by_cases h200 : g.rules.length ≤ 200
                  · go_wp2
                    go_ret
                    refine ⟨⟨false, ret_bool (by first | rfl | (simp; omega)), fun _ => ⟨?_, ?_, h200, fun r hr => ?_⟩⟩, HB.out⟩
                    · have := HE.out.1; omega
                    · have := HE.out.1; omega
                    · obtain ⟨j, hj, rfl⟩ := List.getElem_of_mem hr
                      have := HE.out.2 j hj (by omega)
                      omega
                  · go_wp2
                    go_ret
                    exact ⟨⟨true, ret_bool (by first | rfl | (simp; omega)), fun h => by cases h⟩, HB.out⟩
                · go_wp2
                  go_ret
                  exact ⟨⟨true, ret_bool (by first | rfl | (simp; omega)), fun h => by cases h⟩, HB.out⟩
        · go_wp2
          have HE2 : Aside0 (4000 < n ∨ ((g.terms.length : Int) ≤ n ∧ (g.names.length : Int) ≤ n)) := ⟨by have := HE.out; omega⟩
          obtain ⟨wo, hwo⟩ : ∃ wo : World, wo = wr := ⟨_, rfl⟩
          subst hwo
          obtain ⟨n0, hn0⟩ : ∃ n0 : Int, n0 = n := ⟨_, rfl⟩
          have hz0 : 0 ≤ n0 := by omega
          have hz1 : n0 ≤ 8001 := by omega
          have hE3 := HE2.out
          rw [← hn0] at hE3
          rw [← hn0]
          clear hkn hn hn0 hlt hk a1 a2 a3 HE HE2
          go_loopw [6, 3] (fun i nv wr => ∃ (k : Nat) (n : Int), k ≤ g.rules.length ∧ i = .int .i64 k ∧ nv = .int .i64 n ∧ (k : Int) ≤ n ∧ n ≤ 8001 ∧ Aside0 ((4000 < n ∨ ((g.terms.length : Int) ≤ n ∧ (g.names.length : Int) ≤ n)) ∧ ∀ j (hj : j < g.rules.length), j < k → (g.rules[j]'hj).right.length ≤ 4000 ∨ 4000 < n) ∧ Aside0 (wr.heap[w.heap.size]? = some (.cells #[.slice A1 g.terms.length c1, .slice A2 g.names.length c2, .slice A3 g.rules.length c3] 25 (0, 0))) ∧ Aside0 (Below w.heap.size w wr)) (fun i _ _ => g.rules.length - (intOf i).toNat)
          case atStart => exact ⟨0, n0, Nat.zero_le _, rfl, rfl, by omega, by omega, ⟨by omega, fun j hj h => by omega⟩, HP, HB⟩
          case round =>
            clear HP HB
            obtain ⟨k, n, hk, rfl, rfl, hkn, hn, HE, HP, HB⟩ := hrel
            have a1 := blk_cell HP.out 0
            have a2 := blk_cell HP.out 1
            have a3 := blk_cell HP.out 2
            simp only [List.getElem?_toArray, List.getElem?_cons_zero, List.getElem?_cons_succ] at a1 a2 a3
            by_cases hlt : k < g.rules.length
            · by_cases h4 : n ≤ 4000
              · have i1 : (0 : Int) ≤ (k : Int) := by omega
                have i2 : (k : Int) < (g.rules.length : Int) := by omega
                obtain ⟨ad, B1, d1, ead, _, hx, hd1, _⟩ := at_rule (Kd.C_below HG.out.rules HB.out) k hlt
                cases ead
                go_wp2
                go_roundw
                case rel =>
                  refine ⟨k + 1, _, by omega, by go_num, rfl, ?_, ?_, ⟨?_, fun j hj hjk => ?_⟩, HP, HB⟩
                  · split <;> omega
                  · split <;> omega
                  · have := HE.out.1; split <;> omega
                  · rcases Nat.lt_or_ge j k with h | h
                    · have := HE.out.2 j hj h; split <;> omega
                    · obtain rfl : j = k := by omega
                      split <;> omega
                case measure => simp [intOf]; omega
              · go_wp2
                go_ret
                exact ⟨⟨true, ret_bool (by first | rfl | (simp; omega)), fun h => by cases h⟩, HB.out⟩
            · by_cases h4 : n ≤ 4000
              · by_cases h200 : g.rules.length ≤ 200
                · go_wp2
                  go_ret
                  refine ⟨⟨false, ret_bool (by first | rfl | (simp; omega)), fun _ => ⟨?_, ?_, h200, fun r hr => ?_⟩⟩, HB.out⟩
                  · have := HE.out.1; omega
                  · have := HE.out.1; omega
                  · obtain ⟨j, hj, rfl⟩ := List.getElem_of_mem hr
                    have := HE.out.2 j hj (by omega)
                    omega
                · go_wp2
                  go_ret
                  exact ⟨⟨true, ret_bool (by first | rfl | (simp; omega)), fun h => by cases h⟩, HB.out⟩
              · go_wp2
                go_ret
                exact ⟨⟨true, ret_bool (by first | rfl | (simp; omega)), fun h => by cases h⟩, HB.out⟩
end Go.Proofs.Ytphmmppmhphgeaa
