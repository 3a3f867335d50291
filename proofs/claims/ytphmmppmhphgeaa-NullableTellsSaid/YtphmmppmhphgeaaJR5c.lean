/- Texts T3, F3, P11, C8, joined: contracts of functions of the program, and plain laws; each says what it proves. -/
import Derived.Test.YtphmmppmhphgeaaJR5b
import Derived.Test.YtphmmppmhphgeaaJR5a
/- The contract of the document's answer on which grammars may be. -/
set_option linter.unusedVariables false
set_option linter.unusedSimpArgs false
namespace Go.Proofs.Ytphmmppmhphgeaa
open Go.RowKit Go.Proofs.YtphmmppmhphgeaaW.PrintWords Go.Proofs.YtphmmppmhphgeaaW.PrintLast

def Sized (g : Gram) : Prop := (∀ s ∈ g.names, s.size ≤ maxLen) ∧ ∀ s ∈ g.terms, s.size ≤ maxLen
set_option maxRecDepth 100000 in
set_option maxHeartbeats 16000000 in
theorem good1_c (g : Gram) (A1 A2 A3 : Option Addr) (c1 c2 c3 : Nat) (w : World) (hg : RepG w g A1 A2 A3 c1 c2 c3) (hz : Sized g) :
    Calls Try.prog 24 #[.agg #[.slice A1 g.terms.length c1, .slice A2 g.names.length c2, .slice A3 g.rules.length c3]] w fun e w' => e = .returned (.bool (goodF g)) ∧ Below w.heap.size w w' := by
  have hm1 := C_max hg.terms
  have hm2 := C_max hg.names
  have hm3 := C_max hg.rules
  obtain ⟨w1, hw1⟩ : ∃ w1 : World, w1 = w.alloc (.cells #[.slice A1 g.terms.length c1, .slice A2 g.names.length c2, .slice A3 g.rules.length c3] 25 (0, 0)) := ⟨_, rfl⟩
  have HB1 : Aside0 (Below w.heap.size w w1) := ⟨by rw [hw1]; exact (Below.refl w.heap.size w).alloc (Nat.le_refl _) _⟩
  have hp : w1.heap[w.heap.size]? = some (.cells #[.slice A1 g.terms.length c1, .slice A2 g.names.length c2, .slice A3 g.rules.length c3] 25 (0, 0)) := by rw [hw1]; exact blk_new w _
  have HG := Aside0.mk (hg.below_ HB1.out)
  have p0 := Aside0.mk ((blk_cell hp 0).trans rfl : w1.cell? ⟨w.heap.size, 0, none⟩ = some (.slice A1 g.terms.length c1))
  have p1 := Aside0.mk ((blk_cell hp 1).trans rfl : w1.cell? ⟨w.heap.size, 1, none⟩ = some (.slice A2 g.names.length c2))
  have p2 := Aside0.mk ((blk_cell hp 2).trans rfl : w1.cell? ⟨w.heap.size, 2, none⟩ = some (.slice A3 g.rules.length c3))
  have HZ := Aside0.mk hz
  clear hg hp hz
  go_enter Try.func24, Try.ntmps24
  go_wp2
  simp only [← hw1]
  clear hw1
  refine start_ (n := 8) (S := fun w' => Below w1.heap.size w1 w') (ds := []) (lb 8 0x0) (by kernel_rfl) rfl (by kernel_rfl) (below_drew1 (Below.refl _ _)) (fun hHeld => ?_)
  refine pure_ (i := 0) (N := (some 13)) (v := ?_) (a' := ?_) (lb 8 0x1) rfl rfl (by kernel_rfl) (fun _ _ _ h => h) (Or.inl ⟨by rfl, ?_⟩) ?_ ?_
  rotate_left
  · (intro w'; go_simp; with_reducible rfl)
  rotate_left
  · (simp only [Act.put, List.setIfInBounds_toArray, List.set_cons_zero, List.set_cons_succ]; rfl)
  refine pure_ (i := 3) (N := (some 16)) (v := ?_) (a' := ?_) (lb 8 0x9) rfl rfl (by kernel_rfl) (fun _ _ _ h => h) (Or.inl ⟨by rfl, ?_⟩) ?_ ?_
  rotate_left
  · (intro w'; go_simp; with_reducible rfl)
  rotate_left
  · (simp only [Act.put, List.setIfInBounds_toArray, List.set_cons_zero, List.set_cons_succ]; rfl)
  refine take_ (i := 1) (N := (some 14)) (v := ?_) (a' := ?_) (lb 8 0xb) rfl rfl (by kernel_rfl) (fun _ _ _ h => h) (Or.inl ⟨by rfl, ?_⟩) hHeld ?_ ?_
  rotate_left
  · (rintro w' hS; have d0 := cell_at hS p0.out; have d1 := cell_at hS p1.out; go_simp; with_reducible rfl)
  rotate_left
  · (simp only [Act.put, List.setIfInBounds_toArray, List.set_cons_zero, List.set_cons_succ]; rfl)
  refine pure_ (i := 2) (N := (some 15)) (v := ?_) (a' := ?_) (lb 8 0xf) rfl rfl (by kernel_rfl) (fun _ _ _ h => h) (Or.inl ⟨by rfl, ?_⟩) ?_ ?_
  rotate_left
  · (intro w'; go_simp; with_reducible rfl)
  rotate_left
  · (simp only [Act.put, List.setIfInBounds_toArray, List.set_cons_zero, List.set_cons_succ]; rfl)
  refine pure_ (i := 6) (N := (some 3)) (v := ?_) (a' := ?_) (lb 8 0x4f) rfl rfl (by kernel_rfl) (fun _ _ _ h => h) (Or.inl ⟨by rfl, ?_⟩) ?_ ?_
  rotate_left
  · (intro w'; go_simp; with_reducible rfl)
  rotate_left
  · (simp only [Act.put, List.setIfInBounds_toArray, List.set_cons_zero, List.set_cons_succ]; rfl)
  refine take_ (i := 4) (N := (some 17)) (v := ?_) (a' := ?_) (lb 8 0x5f) rfl rfl (by kernel_rfl) (fun _ _ _ h => h) (Or.inl ⟨by rfl, ?_⟩) hHeld ?_ ?_
  rotate_left
  · (rintro w' hS; have d0 := cell_at hS p0.out; have d1 := cell_at hS p1.out; go_simp; with_reducible rfl)
  rotate_left
  · (simp only [Act.put, List.setIfInBounds_toArray, List.set_cons_zero, List.set_cons_succ]; rfl)
  refine pure_ (i := 5) (N := (some 18)) (v := ?_) (a' := ?_) (lb 8 0x7f) rfl rfl (by kernel_rfl) (fun _ _ _ h => h) (Or.inl ⟨by rfl, ?_⟩) ?_ ?_
  rotate_left
  · (intro w'; go_simp; with_reducible rfl)
  rotate_left
  · (simp only [Act.put, List.setIfInBounds_toArray, List.set_cons_zero, List.set_cons_succ]; rfl)
  refine pure_ (i := 7) (N := (some 4)) (v := ?_) (a' := ?_) (lb 8 0xff) rfl rfl (by kernel_rfl) (fun _ _ _ h => h) (Or.inl ⟨by rfl, ?_⟩) ?_ ?_
  rotate_left
  · (intro w'; go_simp; with_reducible rfl)
  rotate_left
  · (simp only [Act.put, List.setIfInBounds_toArray, List.set_cons_zero, List.set_cons_succ]; rfl)
  refine done_ (by kernel_rfl) ?_
  have z2 := cell_at (below_drew1 (Below.refl w1.heap.size w1)) p2.out
  by_cases hok : (1 ≤ g.names.length ∧ g.names.length ≤ 40) ∧ g.terms.length ≤ 40 ∧ 1 ≤ g.rules.length ∧ g.rules.length ≤ 60
  · obtain ⟨⟨n1, n2⟩, n3, n4, n5⟩ := hok
    have q1 : ¬ (g.names.length : Int) < 1 := by omega
    have q2 : ¬ (40 : Int) < (g.names.length : Int) := by omega
    have q3 : ¬ (40 : Int) < (g.terms.length : Int) := by omega
    have q4 : ¬ (g.rules.length : Int) < 1 := by omega
    have q5 : ¬ (60 : Int) < (g.rules.length : Int) := by omega
    go_wp2
    go_loopw [5] (fun iv wr => ∃ i : Nat, i ≤ g.names.length ∧ iv = .int .i64 i ∧ Aside0 (Below w1.heap.size w1 wr) ∧ Aside0 (∀ j (hj : j < g.names.length), j < i → nameOk (g.names[j]'hj) = true ∧ idxF g.names (g.names[j]'hj) = j)) (fun iv _ => g.names.length - (intOf iv).toNat)
    case atStart => exact ⟨0, Nat.zero_le _, rfl, ⟨below_drew1 (Below.refl _ _)⟩, ⟨fun j hj h => by omega⟩⟩
    case round =>
      clear z2
      obtain ⟨i, hi, rfl, HB, HN⟩ := hrel
      by_cases hlt : i < g.names.length
      · obtain ⟨ad, eA, hx⟩ := at_str HG.out.names i hlt
        subst eA
        have hsz := HZ.out.1 _ (List.getElem_mem hlt)
        obtain ⟨s, hs⟩ : ∃ s, s = g.names[i]'hlt := ⟨_, rfl⟩
        rw [← hs] at hx hsz
        have HS := Aside0.mk hs
        have KX := Aside0.mk hx
        have HSZ := Aside0.mk hsz
        have j1 : (0 : Int) ≤ (i : Int) := by omega
        have j2 : (i : Int) < (g.names.length : Int) := by omega
        clear hs hx hsz
        cases hn : isNameF (bsl s) with
        | false =>
          have HNM := Aside0.mk hn
          clear hn
          go_wp2
          refine start_ (n := 19) (S := fun w' => Below w1.heap.size w1 w') (ds := []) (lb 19 0x0) (by kernel_rfl) rfl (by kernel_rfl) (below_drew1 HB.out) (fun hHeld => ?_)
          refine pure_ (i := 0) (N := (some 46)) (v := ?_) (a' := ?_) (lb 19 0x1) rfl rfl (by kernel_rfl) (fun _ _ _ h => h) (Or.inl ⟨by rfl, ?_⟩) ?_ ?_
          rotate_left
          · (intro w'; go_simp; with_reducible rfl)
          rotate_left
          · (simp only [Act.put, List.setIfInBounds_toArray, List.set_cons_zero, List.set_cons_succ]; rfl)
          refine pure_ (i := 2) (N := (some 48)) (v := ?_) (a' := ?_) (lb 19 0x5) rfl rfl (by kernel_rfl) (fun _ _ _ h => h) (Or.inl ⟨by rfl, ?_⟩) ?_ ?_
          rotate_left
          · (intro w'; go_simp; with_reducible rfl)
          rotate_left
          · (simp only [Act.put, List.setIfInBounds_toArray, List.set_cons_zero, List.set_cons_succ]; rfl)
          refine take_ (i := 1) (N := (some 47)) (v := ?_) (a' := ?_) (lb 19 0x7) rfl rfl (by kernel_rfl) (fun _ _ _ h => h) (Or.inl ⟨by rfl, ?_⟩) hHeld ?_ ?_
          rotate_left
          · (rintro w' hS; have d1 := cell_at hS p1.out; have d2 := cell_at hS KX.out; go_simp; with_reducible rfl)
          rotate_left
          · (simp only [Act.put, List.setIfInBounds_toArray, List.set_cons_zero, List.set_cons_succ]; rfl)
          refine pure_ (i := 3) (N := (some 49)) (v := ?_) (a' := ?_) (lb 19 0xf) rfl rfl (by kernel_rfl) (fun _ _ _ h => h) (Or.inl ⟨by rfl, ?_⟩) ?_ ?_
          rotate_left
          · (intro w'; go_simp; with_reducible rfl)
          rotate_left
          · (simp only [Act.put, List.setIfInBounds_toArray, List.set_cons_zero, List.set_cons_succ]; rfl)
          refine take_ (i := 4) (N := (some 50)) (v := ?_) (a' := ?_) (lb 19 0x1f) rfl rfl (by kernel_rfl) (fun _ _ _ h => h) (Or.inl ⟨by rfl, ?_⟩) hHeld ?_ ?_
          rotate_left
          · (rintro w' hS; have d1 := cell_at hS p1.out; have d2 := cell_at hS KX.out; go_simp; with_reducible rfl)
          rotate_left
          · (simp only [Act.put, List.setIfInBounds_toArray, List.set_cons_zero, List.set_cons_succ]; rfl)
          refine one_ (i := 5) (N := (some 51)) (lb 19 0x3f) rfl rfl (by kernel_rfl) (by decide) (fun K hK => ?_)
          (refine goes_ Try.func60 (by kernel_rfl) rfl #[.string s] (by rfl) rfl rfl (by simp [Act.eval]) ?_; refine (isName1_c s _ HSZ.out).mono ?_; rw [HNM.out]; rintro e w5 ⟨rfl, rfl⟩; refine ⟨_, rfl, ?_⟩; refine hK.out _ _ hHeld (fun hHeld => ?_))
          skip
          clear hK K
          refine norm_ (a' := ?_) ?_ ?_
          rotate_left
          · (show Act.put _ (some 51) _ = _; simp only [Act.put, List.setIfInBounds_toArray, List.set_cons_zero, List.set_cons_succ]; rfl)
          refine pure_ (i := 6) (N := (some 52)) (v := ?_) (a' := ?_) (lb 19 0x7f) rfl rfl (by kernel_rfl) (fun _ _ _ h => h) (Or.inl ⟨by rfl, ?_⟩) ?_ ?_
          rotate_left
          · (intro w'; go_simp; with_reducible rfl)
          rotate_left
          · (simp only [Act.put, List.setIfInBounds_toArray, List.set_cons_zero, List.set_cons_succ]; rfl)
          refine pure_ (i := 7) (N := (some 53)) (v := ?_) (a' := ?_) (lb 19 0xff) rfl rfl (by kernel_rfl) (fun _ _ _ h => h) (Or.inl ⟨by rfl, ?_⟩) ?_ ?_
          rotate_left
          · (intro w'; go_simp; with_reducible rfl)
          rotate_left
          · (simp only [Act.put, List.setIfInBounds_toArray, List.set_cons_zero, List.set_cons_succ]; rfl)
          refine pure_ (i := 8) (N := (some 54)) (v := undef) (a' := ?_) (lb 19 0x1ff) rfl rfl (by kernel_rfl) (fun _ _ _ h => h) (Or.inr ⟨by rfl, rfl⟩) ?_ ?_
          rotate_left
          · (simp only [Act.put, List.setIfInBounds_toArray, List.set_cons_zero, List.set_cons_succ]; rfl)
          refine pure_ (i := 10) (N := (some 56)) (v := undef) (a' := ?_) (lb 19 0x5ff) rfl rfl (by kernel_rfl) (fun _ _ _ h => h) (Or.inr ⟨by rfl, rfl⟩) ?_ ?_
          rotate_left
          · (simp only [Act.put, List.setIfInBounds_toArray, List.set_cons_zero, List.set_cons_succ]; rfl)
          refine pure_ (i := 12) (N := (some 58)) (v := undef) (a' := ?_) (lb 19 0x15ff) rfl rfl (by kernel_rfl) (fun _ _ _ h => h) (Or.inr ⟨by rfl, rfl⟩) ?_ ?_
          rotate_left
          · (simp only [Act.put, List.setIfInBounds_toArray, List.set_cons_zero, List.set_cons_succ]; rfl)
          refine pure_ (i := 16) (N := (some 62)) (v := undef) (a' := ?_) (lb 19 0x115ff) rfl rfl (by kernel_rfl) (fun _ _ _ h => h) (Or.inr ⟨by rfl, rfl⟩) ?_ ?_
          rotate_left
          · (simp only [Act.put, List.setIfInBounds_toArray, List.set_cons_zero, List.set_cons_succ]; rfl)
          refine pure_ (i := 9) (N := (some 55)) (v := undef) (a' := ?_) (lb 19 0x117ff) rfl rfl (by kernel_rfl) (fun _ _ _ h => h) (Or.inr ⟨by rfl, rfl⟩) ?_ ?_
          rotate_left
          · (simp only [Act.put, List.setIfInBounds_toArray, List.set_cons_zero, List.set_cons_succ]; rfl)
          refine pure_ (i := 11) (N := (some 57)) (v := undef) (a' := ?_) (lb 19 0x11fff) rfl rfl (by kernel_rfl) (fun _ _ _ h => h) (Or.inr ⟨by rfl, rfl⟩) ?_ ?_
          rotate_left
          · (simp only [Act.put, List.setIfInBounds_toArray, List.set_cons_zero, List.set_cons_succ]; rfl)
          refine pure_ (i := 13) (N := (some 59)) (v := undef) (a' := ?_) (lb 19 0x13fff) rfl rfl (by kernel_rfl) (fun _ _ _ h => h) (Or.inr ⟨by rfl, rfl⟩) ?_ ?_
          rotate_left
          · (simp only [Act.put, List.setIfInBounds_toArray, List.set_cons_zero, List.set_cons_succ]; rfl)
          refine pure_ (i := 14) (N := (some 60)) (v := undef) (a' := ?_) (lb 19 0x17fff) rfl rfl (by kernel_rfl) (fun _ _ _ h => h) (Or.inr ⟨by rfl, rfl⟩) ?_ ?_
          rotate_left
          · (simp only [Act.put, List.setIfInBounds_toArray, List.set_cons_zero, List.set_cons_succ]; rfl)
          refine one_ (i := 15) (N := (some 61)) (lb 19 0x1ffff) rfl rfl (by kernel_rfl) (by decide) (fun K hK => ?_)
          refine off_ (by rfl) ?_
          refine hK.out _ _ hHeld (fun hHeld => ?_)
          clear hK K
          refine norm_ (a' := ?_) ?_ ?_
          rotate_left
          · (show Act.put _ (some 61) _ = _; simp only [Act.put, List.setIfInBounds_toArray, List.set_cons_zero, List.set_cons_succ]; rfl)
          refine pure_ (i := 17) (N := (some 63)) (v := undef) (a' := ?_) (lb 19 0x3ffff) rfl rfl (by kernel_rfl) (fun _ _ _ h => h) (Or.inr ⟨by rfl, rfl⟩) ?_ ?_
          rotate_left
          · (simp only [Act.put, List.setIfInBounds_toArray, List.set_cons_zero, List.set_cons_succ]; rfl)
          refine pure_ (i := 18) (N := (some 64)) (v := ?_) (a' := ?_) (lb 19 0x7ffff) rfl rfl (by kernel_rfl) (fun _ _ _ h => h) (Or.inl ⟨by rfl, ?_⟩) ?_ ?_
          rotate_left
          · (intro w'; go_simp; with_reducible rfl)
          rotate_left
          · (simp only [Act.put, List.setIfInBounds_toArray, List.set_cons_zero, List.set_cons_succ]; rfl)
          refine done_ (by kernel_rfl) ?_
          go_wp2
          go_ret
          exact ⟨ret_bool (good_not (fun h => by have := ((names_iff g).1 h.names).1 i hlt; rw [← HS.out] at this; unfold nameOk at this; rw [HNM.out] at this; cases this.1)).symm, below_then HB1.out HB1.out.size (below_drew1 HB.out)⟩
        | true =>
          have HNM := Aside0.mk hn
          clear hn
          by_cases hid : idxF g.names s = (i : Int)
          · have hib : (idxF g.names s != (i : Int)) = false := by rw [hid]; simp
            have HID := Aside0.mk hid
            clear hid
            go_wp2
            refine start_ (n := 19) (S := fun w' => Below w1.heap.size w1 w') (ds := []) (lb 19 0x0) (by kernel_rfl) rfl (by kernel_rfl) (below_drew1 HB.out) (fun hHeld => ?_)
            refine pure_ (i := 0) (N := (some 46)) (v := ?_) (a' := ?_) (lb 19 0x1) rfl rfl (by kernel_rfl) (fun _ _ _ h => h) (Or.inl ⟨by rfl, ?_⟩) ?_ ?_
            rotate_left
            · (intro w'; go_simp; with_reducible rfl)
            rotate_left
            · (simp only [Act.put, List.setIfInBounds_toArray, List.set_cons_zero, List.set_cons_succ]; rfl)
            refine pure_ (i := 2) (N := (some 48)) (v := ?_) (a' := ?_) (lb 19 0x5) rfl rfl (by kernel_rfl) (fun _ _ _ h => h) (Or.inl ⟨by rfl, ?_⟩) ?_ ?_
            rotate_left
            · (intro w'; go_simp; with_reducible rfl)
            rotate_left
            · (simp only [Act.put, List.setIfInBounds_toArray, List.set_cons_zero, List.set_cons_succ]; rfl)
            refine take_ (i := 1) (N := (some 47)) (v := ?_) (a' := ?_) (lb 19 0x7) rfl rfl (by kernel_rfl) (fun _ _ _ h => h) (Or.inl ⟨by rfl, ?_⟩) hHeld ?_ ?_
            rotate_left
            · (rintro w' hS; have d1 := cell_at hS p1.out; have d2 := cell_at hS KX.out; go_simp; with_reducible rfl)
            rotate_left
            · (simp only [Act.put, List.setIfInBounds_toArray, List.set_cons_zero, List.set_cons_succ]; rfl)
            refine pure_ (i := 3) (N := (some 49)) (v := ?_) (a' := ?_) (lb 19 0xf) rfl rfl (by kernel_rfl) (fun _ _ _ h => h) (Or.inl ⟨by rfl, ?_⟩) ?_ ?_
            rotate_left
            · (intro w'; go_simp; with_reducible rfl)
            rotate_left
            · (simp only [Act.put, List.setIfInBounds_toArray, List.set_cons_zero, List.set_cons_succ]; rfl)
            refine take_ (i := 4) (N := (some 50)) (v := ?_) (a' := ?_) (lb 19 0x1f) rfl rfl (by kernel_rfl) (fun _ _ _ h => h) (Or.inl ⟨by rfl, ?_⟩) hHeld ?_ ?_
            rotate_left
            · (rintro w' hS; have d1 := cell_at hS p1.out; have d2 := cell_at hS KX.out; go_simp; with_reducible rfl)
            rotate_left
            · (simp only [Act.put, List.setIfInBounds_toArray, List.set_cons_zero, List.set_cons_succ]; rfl)
            refine one_ (i := 5) (N := (some 51)) (lb 19 0x3f) rfl rfl (by kernel_rfl) (by decide) (fun K hK => ?_)
            (refine goes_ Try.func60 (by kernel_rfl) rfl #[.string s] (by rfl) rfl rfl (by simp [Act.eval]) ?_; refine (isName1_c s _ HSZ.out).mono ?_; rw [HNM.out]; rintro e w5 ⟨rfl, rfl⟩; refine ⟨_, rfl, ?_⟩; refine hK.out _ _ hHeld (fun hHeld => ?_))
            skip
            clear hK K
            refine norm_ (a' := ?_) ?_ ?_
            rotate_left
            · (show Act.put _ (some 51) _ = _; simp only [Act.put, List.setIfInBounds_toArray, List.set_cons_zero, List.set_cons_succ]; rfl)
            refine pure_ (i := 6) (N := (some 52)) (v := ?_) (a' := ?_) (lb 19 0x7f) rfl rfl (by kernel_rfl) (fun _ _ _ h => h) (Or.inl ⟨by rfl, ?_⟩) ?_ ?_
            rotate_left
            · (intro w'; go_simp; with_reducible rfl)
            rotate_left
            · (simp only [Act.put, List.setIfInBounds_toArray, List.set_cons_zero, List.set_cons_succ]; rfl)
            refine pure_ (i := 7) (N := (some 53)) (v := ?_) (a' := ?_) (lb 19 0xff) rfl rfl (by kernel_rfl) (fun _ _ _ h => h) (Or.inl ⟨by rfl, ?_⟩) ?_ ?_
            rotate_left
            · (intro w'; go_simp; with_reducible rfl)
            rotate_left
            · (simp only [Act.put, List.setIfInBounds_toArray, List.set_cons_zero, List.set_cons_succ]; rfl)
            refine pure_ (i := 8) (N := (some 54)) (v := ?_) (a' := ?_) (lb 19 0x1ff) rfl rfl (by kernel_rfl) (fun _ _ _ h => h) (Or.inl ⟨by rfl, ?_⟩) ?_ ?_
            rotate_left
            · (intro w'; go_simp; with_reducible rfl)
            rotate_left
            · (simp only [Act.put, List.setIfInBounds_toArray, List.set_cons_zero, List.set_cons_succ]; rfl)
            refine pure_ (i := 10) (N := (some 56)) (v := ?_) (a' := ?_) (lb 19 0x5ff) rfl rfl (by kernel_rfl) (fun _ _ _ h => h) (Or.inl ⟨by rfl, ?_⟩) ?_ ?_
            rotate_left
            · (intro w'; go_simp; with_reducible rfl)
            rotate_left
            · (simp only [Act.put, List.setIfInBounds_toArray, List.set_cons_zero, List.set_cons_succ]; rfl)
            refine pure_ (i := 12) (N := (some 58)) (v := ?_) (a' := ?_) (lb 19 0x15ff) rfl rfl (by kernel_rfl) (fun _ _ _ h => h) (Or.inl ⟨by rfl, ?_⟩) ?_ ?_
            rotate_left
            · (intro w'; go_simp; with_reducible rfl)
            rotate_left
            · (simp only [Act.put, List.setIfInBounds_toArray, List.set_cons_zero, List.set_cons_succ]; rfl)
            refine pure_ (i := 16) (N := (some 62)) (v := ?_) (a' := ?_) (lb 19 0x115ff) rfl rfl (by kernel_rfl) (fun _ _ _ h => h) (Or.inl ⟨by rfl, ?_⟩) ?_ ?_
            rotate_left
            · (intro w'; go_simp; with_reducible rfl)
            rotate_left
            · (simp only [Act.put, List.setIfInBounds_toArray, List.set_cons_zero, List.set_cons_succ]; rfl)
            refine take_ (i := 9) (N := (some 55)) (v := ?_) (a' := ?_) (lb 19 0x117ff) rfl rfl (by kernel_rfl) (fun _ _ _ h => h) (Or.inl ⟨by rfl, ?_⟩) hHeld ?_ ?_
            rotate_left
            · (rintro w' hS; have d1 := cell_at hS p1.out; have d2 := cell_at hS KX.out; go_simp; with_reducible rfl)
            rotate_left
            · (simp only [Act.put, List.setIfInBounds_toArray, List.set_cons_zero, List.set_cons_succ]; rfl)
            refine take_ (i := 11) (N := (some 57)) (v := ?_) (a' := ?_) (lb 19 0x11fff) rfl rfl (by kernel_rfl) (fun _ _ _ h => h) (Or.inl ⟨by rfl, ?_⟩) hHeld ?_ ?_
            rotate_left
            · (rintro w' hS; have d1 := cell_at hS p1.out; have d2 := cell_at hS KX.out; go_simp; with_reducible rfl)
            rotate_left
            · (simp only [Act.put, List.setIfInBounds_toArray, List.set_cons_zero, List.set_cons_succ]; rfl)
            refine pure_ (i := 13) (N := (some 59)) (v := ?_) (a' := ?_) (lb 19 0x13fff) rfl rfl (by kernel_rfl) (fun _ _ _ h => h) (Or.inl ⟨by rfl, ?_⟩) ?_ ?_
            rotate_left
            · (intro w'; go_simp; with_reducible rfl)
            rotate_left
            · (simp only [Act.put, List.setIfInBounds_toArray, List.set_cons_zero, List.set_cons_succ]; rfl)
            refine take_ (i := 14) (N := (some 60)) (v := ?_) (a' := ?_) (lb 19 0x17fff) rfl rfl (by kernel_rfl) (fun _ _ _ h => h) (Or.inl ⟨by rfl, ?_⟩) hHeld ?_ ?_
            rotate_left
            · (rintro w' hS; have d1 := cell_at hS p1.out; have d2 := cell_at hS KX.out; go_simp; with_reducible rfl)
            rotate_left
            · (simp only [Act.put, List.setIfInBounds_toArray, List.set_cons_zero, List.set_cons_succ]; rfl)
            refine one_ (i := 15) (N := (some 61)) (lb 19 0x1ffff) rfl rfl (by kernel_rfl) (by decide) (fun K hK => ?_)
            (refine goes_ Try.func52 (by kernel_rfl) rfl #[.slice (some ad) g.names.length c2, .string s] (by rfl) rfl rfl (by simp [Act.eval]) ?_; refine (at1_c _ _ _ _ _ _ (Kd.C_below HG.out.names hHeld)).mono ?_; rintro e w5 ⟨rfl, rfl⟩; refine ⟨_, rfl, ?_⟩; refine hK.out _ _ hHeld (fun hHeld => ?_))
            skip
            clear hK K
            refine norm_ (a' := ?_) ?_ ?_
            rotate_left
            · (show Act.put _ (some 61) _ = _; simp only [Act.put, List.setIfInBounds_toArray, List.set_cons_zero, List.set_cons_succ]; rfl)
            refine pure_ (i := 17) (N := (some 63)) (v := ?_) (a' := ?_) (lb 19 0x3ffff) rfl rfl (by kernel_rfl) (fun _ _ _ h => h) (Or.inl ⟨by rfl, ?_⟩) ?_ ?_
            rotate_left
            · (intro w'; go_simp; with_reducible rfl)
            rotate_left
            · (simp only [Act.put, List.setIfInBounds_toArray, List.set_cons_zero, List.set_cons_succ]; rfl)
            refine pure_ (i := 18) (N := (some 64)) (v := ?_) (a' := ?_) (lb 19 0x7ffff) rfl rfl (by kernel_rfl) (fun _ _ _ h => h) (Or.inl ⟨by rfl, ?_⟩) ?_ ?_
            rotate_left
            · (intro w'; go_simp; with_reducible rfl)
            rotate_left
            · (simp only [Act.put, List.setIfInBounds_toArray, List.set_cons_zero, List.set_cons_succ]; rfl)
            refine done_ (by kernel_rfl) ?_
            go_wp2
            go_roundw
            case rel => exact ⟨i + 1, by omega, by go_num, ⟨below_drew1 HB.out⟩, ⟨fun j hj hji => by
              rcases Nat.lt_or_ge j i with h | h
              · exact HN.out j hj h
              · obtain rfl : j = i := by omega
                rw [← HS.out]
                exact ⟨HNM.out, HID.out⟩⟩⟩
            case measure => simp [intOf]; omega
          · have hib : (idxF g.names s != (i : Int)) = true := by rw [bne_iff_ne]; exact hid
            have HID := Aside0.mk hid
            clear hid
            go_wp2
            refine start_ (n := 19) (S := fun w' => Below w1.heap.size w1 w') (ds := []) (lb 19 0x0) (by kernel_rfl) rfl (by kernel_rfl) (below_drew1 HB.out) (fun hHeld => ?_)
            refine pure_ (i := 0) (N := (some 46)) (v := ?_) (a' := ?_) (lb 19 0x1) rfl rfl (by kernel_rfl) (fun _ _ _ h => h) (Or.inl ⟨by rfl, ?_⟩) ?_ ?_
            rotate_left
            · (intro w'; go_simp; with_reducible rfl)
            rotate_left
            · (simp only [Act.put, List.setIfInBounds_toArray, List.set_cons_zero, List.set_cons_succ]; rfl)
            refine pure_ (i := 2) (N := (some 48)) (v := ?_) (a' := ?_) (lb 19 0x5) rfl rfl (by kernel_rfl) (fun _ _ _ h => h) (Or.inl ⟨by rfl, ?_⟩) ?_ ?_
            rotate_left
            · (intro w'; go_simp; with_reducible rfl)
            rotate_left
            · (simp only [Act.put, List.setIfInBounds_toArray, List.set_cons_zero, List.set_cons_succ]; rfl)
            refine take_ (i := 1) (N := (some 47)) (v := ?_) (a' := ?_) (lb 19 0x7) rfl rfl (by kernel_rfl) (fun _ _ _ h => h) (Or.inl ⟨by rfl, ?_⟩) hHeld ?_ ?_
            rotate_left
            · (rintro w' hS; have d1 := cell_at hS p1.out; have d2 := cell_at hS KX.out; go_simp; with_reducible rfl)
            rotate_left
            · (simp only [Act.put, List.setIfInBounds_toArray, List.set_cons_zero, List.set_cons_succ]; rfl)
            refine pure_ (i := 3) (N := (some 49)) (v := ?_) (a' := ?_) (lb 19 0xf) rfl rfl (by kernel_rfl) (fun _ _ _ h => h) (Or.inl ⟨by rfl, ?_⟩) ?_ ?_
            rotate_left
            · (intro w'; go_simp; with_reducible rfl)
            rotate_left
            · (simp only [Act.put, List.setIfInBounds_toArray, List.set_cons_zero, List.set_cons_succ]; rfl)
            refine take_ (i := 4) (N := (some 50)) (v := ?_) (a' := ?_) (lb 19 0x1f) rfl rfl (by kernel_rfl) (fun _ _ _ h => h) (Or.inl ⟨by rfl, ?_⟩) hHeld ?_ ?_
            rotate_left
            · (rintro w' hS; have d1 := cell_at hS p1.out; have d2 := cell_at hS KX.out; go_simp; with_reducible rfl)
            rotate_left
            · (simp only [Act.put, List.setIfInBounds_toArray, List.set_cons_zero, List.set_cons_succ]; rfl)
            refine one_ (i := 5) (N := (some 51)) (lb 19 0x3f) rfl rfl (by kernel_rfl) (by decide) (fun K hK => ?_)
            (refine goes_ Try.func60 (by kernel_rfl) rfl #[.string s] (by rfl) rfl rfl (by simp [Act.eval]) ?_; refine (isName1_c s _ HSZ.out).mono ?_; rw [HNM.out]; rintro e w5 ⟨rfl, rfl⟩; refine ⟨_, rfl, ?_⟩; refine hK.out _ _ hHeld (fun hHeld => ?_))
            skip
            clear hK K
            refine norm_ (a' := ?_) ?_ ?_
            rotate_left
            · (show Act.put _ (some 51) _ = _; simp only [Act.put, List.setIfInBounds_toArray, List.set_cons_zero, List.set_cons_succ]; rfl)
            refine pure_ (i := 6) (N := (some 52)) (v := ?_) (a' := ?_) (lb 19 0x7f) rfl rfl (by kernel_rfl) (fun _ _ _ h => h) (Or.inl ⟨by rfl, ?_⟩) ?_ ?_
            rotate_left
            · (intro w'; go_simp; with_reducible rfl)
            rotate_left
            · (simp only [Act.put, List.setIfInBounds_toArray, List.set_cons_zero, List.set_cons_succ]; rfl)
            refine pure_ (i := 7) (N := (some 53)) (v := ?_) (a' := ?_) (lb 19 0xff) rfl rfl (by kernel_rfl) (fun _ _ _ h => h) (Or.inl ⟨by rfl, ?_⟩) ?_ ?_
            rotate_left
            · (intro w'; go_simp; with_reducible rfl)
            rotate_left
            · (simp only [Act.put, List.setIfInBounds_toArray, List.set_cons_zero, List.set_cons_succ]; rfl)
            refine pure_ (i := 8) (N := (some 54)) (v := ?_) (a' := ?_) (lb 19 0x1ff) rfl rfl (by kernel_rfl) (fun _ _ _ h => h) (Or.inl ⟨by rfl, ?_⟩) ?_ ?_
            rotate_left
            · (intro w'; go_simp; with_reducible rfl)
            rotate_left
            · (simp only [Act.put, List.setIfInBounds_toArray, List.set_cons_zero, List.set_cons_succ]; rfl)
            refine pure_ (i := 10) (N := (some 56)) (v := ?_) (a' := ?_) (lb 19 0x5ff) rfl rfl (by kernel_rfl) (fun _ _ _ h => h) (Or.inl ⟨by rfl, ?_⟩) ?_ ?_
            rotate_left
            · (intro w'; go_simp; with_reducible rfl)
            rotate_left
            · (simp only [Act.put, List.setIfInBounds_toArray, List.set_cons_zero, List.set_cons_succ]; rfl)
            refine pure_ (i := 12) (N := (some 58)) (v := ?_) (a' := ?_) (lb 19 0x15ff) rfl rfl (by kernel_rfl) (fun _ _ _ h => h) (Or.inl ⟨by rfl, ?_⟩) ?_ ?_
            rotate_left
            · (intro w'; go_simp; with_reducible rfl)
            rotate_left
            · (simp only [Act.put, List.setIfInBounds_toArray, List.set_cons_zero, List.set_cons_succ]; rfl)
            refine pure_ (i := 16) (N := (some 62)) (v := ?_) (a' := ?_) (lb 19 0x115ff) rfl rfl (by kernel_rfl) (fun _ _ _ h => h) (Or.inl ⟨by rfl, ?_⟩) ?_ ?_
            rotate_left
            · (intro w'; go_simp; with_reducible rfl)
            rotate_left
            · (simp only [Act.put, List.setIfInBounds_toArray, List.set_cons_zero, List.set_cons_succ]; rfl)
            refine take_ (i := 9) (N := (some 55)) (v := ?_) (a' := ?_) (lb 19 0x117ff) rfl rfl (by kernel_rfl) (fun _ _ _ h => h) (Or.inl ⟨by rfl, ?_⟩) hHeld ?_ ?_
            rotate_left
            · (rintro w' hS; have d1 := cell_at hS p1.out; have d2 := cell_at hS KX.out; go_simp; with_reducible rfl)
            rotate_left
            · (simp only [Act.put, List.setIfInBounds_toArray, List.set_cons_zero, List.set_cons_succ]; rfl)
            refine take_ (i := 11) (N := (some 57)) (v := ?_) (a' := ?_) (lb 19 0x11fff) rfl rfl (by kernel_rfl) (fun _ _ _ h => h) (Or.inl ⟨by rfl, ?_⟩) hHeld ?_ ?_
            rotate_left
            · (rintro w' hS; have d1 := cell_at hS p1.out; have d2 := cell_at hS KX.out; go_simp; with_reducible rfl)
            rotate_left
            · (simp only [Act.put, List.setIfInBounds_toArray, List.set_cons_zero, List.set_cons_succ]; rfl)
            refine pure_ (i := 13) (N := (some 59)) (v := ?_) (a' := ?_) (lb 19 0x13fff) rfl rfl (by kernel_rfl) (fun _ _ _ h => h) (Or.inl ⟨by rfl, ?_⟩) ?_ ?_
            rotate_left
            · (intro w'; go_simp; with_reducible rfl)
            rotate_left
            · (simp only [Act.put, List.setIfInBounds_toArray, List.set_cons_zero, List.set_cons_succ]; rfl)
            refine take_ (i := 14) (N := (some 60)) (v := ?_) (a' := ?_) (lb 19 0x17fff) rfl rfl (by kernel_rfl) (fun _ _ _ h => h) (Or.inl ⟨by rfl, ?_⟩) hHeld ?_ ?_
            rotate_left
            · (rintro w' hS; have d1 := cell_at hS p1.out; have d2 := cell_at hS KX.out; go_simp; with_reducible rfl)
            rotate_left
            · (simp only [Act.put, List.setIfInBounds_toArray, List.set_cons_zero, List.set_cons_succ]; rfl)
            refine one_ (i := 15) (N := (some 61)) (lb 19 0x1ffff) rfl rfl (by kernel_rfl) (by decide) (fun K hK => ?_)
            (refine goes_ Try.func52 (by kernel_rfl) rfl #[.slice (some ad) g.names.length c2, .string s] (by rfl) rfl rfl (by simp [Act.eval]) ?_; refine (at1_c _ _ _ _ _ _ (Kd.C_below HG.out.names hHeld)).mono ?_; rintro e w5 ⟨rfl, rfl⟩; refine ⟨_, rfl, ?_⟩; refine hK.out _ _ hHeld (fun hHeld => ?_))
            skip
            clear hK K
            refine norm_ (a' := ?_) ?_ ?_
            rotate_left
            · (show Act.put _ (some 61) _ = _; simp only [Act.put, List.setIfInBounds_toArray, List.set_cons_zero, List.set_cons_succ]; rfl)
            refine pure_ (i := 17) (N := (some 63)) (v := ?_) (a' := ?_) (lb 19 0x3ffff) rfl rfl (by kernel_rfl) (fun _ _ _ h => h) (Or.inl ⟨by rfl, ?_⟩) ?_ ?_
            rotate_left
            · (intro w'; go_simp; with_reducible rfl)
            rotate_left
            · (simp only [Act.put, List.setIfInBounds_toArray, List.set_cons_zero, List.set_cons_succ]; rfl)
            refine pure_ (i := 18) (N := (some 64)) (v := ?_) (a' := ?_) (lb 19 0x7ffff) rfl rfl (by kernel_rfl) (fun _ _ _ h => h) (Or.inl ⟨by rfl, ?_⟩) ?_ ?_
            rotate_left
            · (intro w'; go_simp; with_reducible rfl)
            rotate_left
            · (simp only [Act.put, List.setIfInBounds_toArray, List.set_cons_zero, List.set_cons_succ]; rfl)
            refine done_ (by kernel_rfl) ?_
            go_wp2
            go_ret
            exact ⟨ret_bool (good_not (fun h => by have := ((names_iff g).1 h.names).1 i hlt; rw [← HS.out] at this; exact HID.out this.2)).symm, below_then HB1.out HB1.out.size (below_drew1 HB.out)⟩
      · have HNO : Aside0 (namesOk g = true) := ⟨(names_iff g).2 ⟨fun j hj => HN.out j hj (by omega), n1, n2⟩⟩
        clear HN
        go_wp2
        obtain ⟨wo, hwo⟩ : ∃ wo : World, wo = wr := ⟨_, rfl⟩
        subst hwo
        go_loopw [6] (fun iv wr => ∃ i : Nat, i ≤ g.terms.length ∧ iv = .int .i64 i ∧ Aside0 (Below w1.heap.size w1 wr) ∧ Aside0 (∀ j (hj : j < g.terms.length), j < i → termOk (g.terms[j]'hj) = true ∧ idxF g.terms (g.terms[j]'hj) = j)) (fun iv _ => g.terms.length - (intOf iv).toNat)
        case atStart => exact ⟨0, Nat.zero_le _, rfl, HB, ⟨fun j hj h => by omega⟩⟩
        case round =>
          clear HB
          obtain ⟨i, hi, rfl, HB, HN⟩ := hrel
          by_cases hlt : i < g.terms.length
          · obtain ⟨ad, eA, hx⟩ := at_str HG.out.terms i hlt
            subst eA
            have hsz := HZ.out.2 _ (List.getElem_mem hlt)
            obtain ⟨s, hs⟩ : ∃ s, s = g.terms[i]'hlt := ⟨_, rfl⟩
            rw [← hs] at hx hsz
            have HS := Aside0.mk hs
            have KX := Aside0.mk hx
            have HSZ := Aside0.mk hsz
            have j1 : (0 : Int) ≤ (i : Int) := by omega
            have j2 : (i : Int) < (g.terms.length : Int) := by omega
            clear hs hx hsz
            cases hn : isTermF (bsl s) with
            | false =>
              have HNM := Aside0.mk hn
              clear hn
              go_wp2
              refine start_ (n := 19) (S := fun w' => Below w1.heap.size w1 w') (ds := []) (lb 19 0x0) (by kernel_rfl) rfl (by kernel_rfl) (below_drew1 HB.out) (fun hHeld => ?_)
              refine pure_ (i := 0) (N := (some 70)) (v := ?_) (a' := ?_) (lb 19 0x1) rfl rfl (by kernel_rfl) (fun _ _ _ h => h) (Or.inl ⟨by rfl, ?_⟩) ?_ ?_
              rotate_left
              · (intro w'; go_simp; with_reducible rfl)
              rotate_left
              · (simp only [Act.put, List.setIfInBounds_toArray, List.set_cons_zero, List.set_cons_succ]; rfl)
              refine pure_ (i := 2) (N := (some 72)) (v := ?_) (a' := ?_) (lb 19 0x5) rfl rfl (by kernel_rfl) (fun _ _ _ h => h) (Or.inl ⟨by rfl, ?_⟩) ?_ ?_
              rotate_left
              · (intro w'; go_simp; with_reducible rfl)
              rotate_left
              · (simp only [Act.put, List.setIfInBounds_toArray, List.set_cons_zero, List.set_cons_succ]; rfl)
              refine take_ (i := 1) (N := (some 71)) (v := ?_) (a' := ?_) (lb 19 0x7) rfl rfl (by kernel_rfl) (fun _ _ _ h => h) (Or.inl ⟨by rfl, ?_⟩) hHeld ?_ ?_
              rotate_left
              · (rintro w' hS; have d1 := cell_at hS p0.out; have d2 := cell_at hS KX.out; go_simp; with_reducible rfl)
              rotate_left
              · (simp only [Act.put, List.setIfInBounds_toArray, List.set_cons_zero, List.set_cons_succ]; rfl)
              refine pure_ (i := 3) (N := (some 73)) (v := ?_) (a' := ?_) (lb 19 0xf) rfl rfl (by kernel_rfl) (fun _ _ _ h => h) (Or.inl ⟨by rfl, ?_⟩) ?_ ?_
              rotate_left
              · (intro w'; go_simp; with_reducible rfl)
              rotate_left
              · (simp only [Act.put, List.setIfInBounds_toArray, List.set_cons_zero, List.set_cons_succ]; rfl)
              refine take_ (i := 4) (N := (some 74)) (v := ?_) (a' := ?_) (lb 19 0x1f) rfl rfl (by kernel_rfl) (fun _ _ _ h => h) (Or.inl ⟨by rfl, ?_⟩) hHeld ?_ ?_
              rotate_left
              · (rintro w' hS; have d1 := cell_at hS p0.out; have d2 := cell_at hS KX.out; go_simp; with_reducible rfl)
              rotate_left
              · (simp only [Act.put, List.setIfInBounds_toArray, List.set_cons_zero, List.set_cons_succ]; rfl)
              refine one_ (i := 5) (N := (some 75)) (lb 19 0x3f) rfl rfl (by kernel_rfl) (by decide) (fun K hK => ?_)
              (refine goes_ Try.func61 (by kernel_rfl) rfl #[.string s] (by rfl) rfl rfl (by simp [Act.eval]) ?_; refine (isTerm1_c s _ HSZ.out).mono ?_; rw [HNM.out]; rintro e w5 ⟨rfl, rfl⟩; refine ⟨_, rfl, ?_⟩; refine hK.out _ _ hHeld (fun hHeld => ?_))
              skip
              clear hK K
              refine norm_ (a' := ?_) ?_ ?_
              rotate_left
              · (show Act.put _ (some 75) _ = _; simp only [Act.put, List.setIfInBounds_toArray, List.set_cons_zero, List.set_cons_succ]; rfl)
              refine pure_ (i := 6) (N := (some 76)) (v := ?_) (a' := ?_) (lb 19 0x7f) rfl rfl (by kernel_rfl) (fun _ _ _ h => h) (Or.inl ⟨by rfl, ?_⟩) ?_ ?_
              rotate_left
              · (intro w'; go_simp; with_reducible rfl)
              rotate_left
              · (simp only [Act.put, List.setIfInBounds_toArray, List.set_cons_zero, List.set_cons_succ]; rfl)
              refine pure_ (i := 7) (N := (some 77)) (v := ?_) (a' := ?_) (lb 19 0xff) rfl rfl (by kernel_rfl) (fun _ _ _ h => h) (Or.inl ⟨by rfl, ?_⟩) ?_ ?_
              rotate_left
              · (intro w'; go_simp; with_reducible rfl)
              rotate_left
              · (simp only [Act.put, List.setIfInBounds_toArray, List.set_cons_zero, List.set_cons_succ]; rfl)
              refine pure_ (i := 8) (N := (some 78)) (v := undef) (a' := ?_) (lb 19 0x1ff) rfl rfl (by kernel_rfl) (fun _ _ _ h => h) (Or.inr ⟨by rfl, rfl⟩) ?_ ?_
              rotate_left
              · (simp only [Act.put, List.setIfInBounds_toArray, List.set_cons_zero, List.set_cons_succ]; rfl)
              refine pure_ (i := 10) (N := (some 80)) (v := undef) (a' := ?_) (lb 19 0x5ff) rfl rfl (by kernel_rfl) (fun _ _ _ h => h) (Or.inr ⟨by rfl, rfl⟩) ?_ ?_
              rotate_left
              · (simp only [Act.put, List.setIfInBounds_toArray, List.set_cons_zero, List.set_cons_succ]; rfl)
              refine pure_ (i := 12) (N := (some 82)) (v := undef) (a' := ?_) (lb 19 0x15ff) rfl rfl (by kernel_rfl) (fun _ _ _ h => h) (Or.inr ⟨by rfl, rfl⟩) ?_ ?_
              rotate_left
              · (simp only [Act.put, List.setIfInBounds_toArray, List.set_cons_zero, List.set_cons_succ]; rfl)
              refine pure_ (i := 16) (N := (some 86)) (v := undef) (a' := ?_) (lb 19 0x115ff) rfl rfl (by kernel_rfl) (fun _ _ _ h => h) (Or.inr ⟨by rfl, rfl⟩) ?_ ?_
              rotate_left
              · (simp only [Act.put, List.setIfInBounds_toArray, List.set_cons_zero, List.set_cons_succ]; rfl)
              refine pure_ (i := 9) (N := (some 79)) (v := undef) (a' := ?_) (lb 19 0x117ff) rfl rfl (by kernel_rfl) (fun _ _ _ h => h) (Or.inr ⟨by rfl, rfl⟩) ?_ ?_
              rotate_left
              · (simp only [Act.put, List.setIfInBounds_toArray, List.set_cons_zero, List.set_cons_succ]; rfl)
              refine pure_ (i := 11) (N := (some 81)) (v := undef) (a' := ?_) (lb 19 0x11fff) rfl rfl (by kernel_rfl) (fun _ _ _ h => h) (Or.inr ⟨by rfl, rfl⟩) ?_ ?_
              rotate_left
              · (simp only [Act.put, List.setIfInBounds_toArray, List.set_cons_zero, List.set_cons_succ]; rfl)
              refine pure_ (i := 13) (N := (some 83)) (v := undef) (a' := ?_) (lb 19 0x13fff) rfl rfl (by kernel_rfl) (fun _ _ _ h => h) (Or.inr ⟨by rfl, rfl⟩) ?_ ?_
              rotate_left
              · (simp only [Act.put, List.setIfInBounds_toArray, List.set_cons_zero, List.set_cons_succ]; rfl)
              refine pure_ (i := 14) (N := (some 84)) (v := undef) (a' := ?_) (lb 19 0x17fff) rfl rfl (by kernel_rfl) (fun _ _ _ h => h) (Or.inr ⟨by rfl, rfl⟩) ?_ ?_
              rotate_left
              · (simp only [Act.put, List.setIfInBounds_toArray, List.set_cons_zero, List.set_cons_succ]; rfl)
              refine one_ (i := 15) (N := (some 85)) (lb 19 0x1ffff) rfl rfl (by kernel_rfl) (by decide) (fun K hK => ?_)
              refine off_ (by rfl) ?_
              refine hK.out _ _ hHeld (fun hHeld => ?_)
              clear hK K
              refine norm_ (a' := ?_) ?_ ?_
              rotate_left
              · (show Act.put _ (some 85) _ = _; simp only [Act.put, List.setIfInBounds_toArray, List.set_cons_zero, List.set_cons_succ]; rfl)
              refine pure_ (i := 17) (N := (some 87)) (v := undef) (a' := ?_) (lb 19 0x3ffff) rfl rfl (by kernel_rfl) (fun _ _ _ h => h) (Or.inr ⟨by rfl, rfl⟩) ?_ ?_
              rotate_left
              · (simp only [Act.put, List.setIfInBounds_toArray, List.set_cons_zero, List.set_cons_succ]; rfl)
              refine pure_ (i := 18) (N := (some 88)) (v := ?_) (a' := ?_) (lb 19 0x7ffff) rfl rfl (by kernel_rfl) (fun _ _ _ h => h) (Or.inl ⟨by rfl, ?_⟩) ?_ ?_
              rotate_left
              · (intro w'; go_simp; with_reducible rfl)
              rotate_left
              · (simp only [Act.put, List.setIfInBounds_toArray, List.set_cons_zero, List.set_cons_succ]; rfl)
              refine done_ (by kernel_rfl) ?_
              go_wp2
              go_ret
              exact ⟨ret_bool (good_not (fun h => by have := ((terms_iff g).1 h.terms).1 i hlt; rw [← HS.out] at this; unfold termOk at this; rw [HNM.out] at this; cases this.1)).symm, below_then HB1.out HB1.out.size (below_drew1 HB.out)⟩
            | true =>
              have HNM := Aside0.mk hn
              clear hn
              by_cases hid : idxF g.terms s = (i : Int)
              · have hib : (idxF g.terms s != (i : Int)) = false := by rw [hid]; simp
                have HID := Aside0.mk hid
                clear hid
                go_wp2
                refine start_ (n := 19) (S := fun w' => Below w1.heap.size w1 w') (ds := []) (lb 19 0x0) (by kernel_rfl) rfl (by kernel_rfl) (below_drew1 HB.out) (fun hHeld => ?_)
                refine pure_ (i := 0) (N := (some 70)) (v := ?_) (a' := ?_) (lb 19 0x1) rfl rfl (by kernel_rfl) (fun _ _ _ h => h) (Or.inl ⟨by rfl, ?_⟩) ?_ ?_
                rotate_left
                · (intro w'; go_simp; with_reducible rfl)
                rotate_left
                · (simp only [Act.put, List.setIfInBounds_toArray, List.set_cons_zero, List.set_cons_succ]; rfl)
                refine pure_ (i := 2) (N := (some 72)) (v := ?_) (a' := ?_) (lb 19 0x5) rfl rfl (by kernel_rfl) (fun _ _ _ h => h) (Or.inl ⟨by rfl, ?_⟩) ?_ ?_
                rotate_left
                · (intro w'; go_simp; with_reducible rfl)
                rotate_left
                · (simp only [Act.put, List.setIfInBounds_toArray, List.set_cons_zero, List.set_cons_succ]; rfl)
                refine take_ (i := 1) (N := (some 71)) (v := ?_) (a' := ?_) (lb 19 0x7) rfl rfl (by kernel_rfl) (fun _ _ _ h => h) (Or.inl ⟨by rfl, ?_⟩) hHeld ?_ ?_
                rotate_left
                · (rintro w' hS; have d1 := cell_at hS p0.out; have d2 := cell_at hS KX.out; go_simp; with_reducible rfl)
                rotate_left
                · (simp only [Act.put, List.setIfInBounds_toArray, List.set_cons_zero, List.set_cons_succ]; rfl)
                refine pure_ (i := 3) (N := (some 73)) (v := ?_) (a' := ?_) (lb 19 0xf) rfl rfl (by kernel_rfl) (fun _ _ _ h => h) (Or.inl ⟨by rfl, ?_⟩) ?_ ?_
                rotate_left
                · (intro w'; go_simp; with_reducible rfl)
                rotate_left
                · (simp only [Act.put, List.setIfInBounds_toArray, List.set_cons_zero, List.set_cons_succ]; rfl)
                refine take_ (i := 4) (N := (some 74)) (v := ?_) (a' := ?_) (lb 19 0x1f) rfl rfl (by kernel_rfl) (fun _ _ _ h => h) (Or.inl ⟨by rfl, ?_⟩) hHeld ?_ ?_
                rotate_left
                · (rintro w' hS; have d1 := cell_at hS p0.out; have d2 := cell_at hS KX.out; go_simp; with_reducible rfl)
                rotate_left
                · (simp only [Act.put, List.setIfInBounds_toArray, List.set_cons_zero, List.set_cons_succ]; rfl)
                refine one_ (i := 5) (N := (some 75)) (lb 19 0x3f) rfl rfl (by kernel_rfl) (by decide) (fun K hK => ?_)
                (refine goes_ Try.func61 (by kernel_rfl) rfl #[.string s] (by rfl) rfl rfl (by simp [Act.eval]) ?_; refine (isTerm1_c s _ HSZ.out).mono ?_; rw [HNM.out]; rintro e w5 ⟨rfl, rfl⟩; refine ⟨_, rfl, ?_⟩; refine hK.out _ _ hHeld (fun hHeld => ?_))
                skip
                clear hK K
                refine norm_ (a' := ?_) ?_ ?_
                rotate_left
                · (show Act.put _ (some 75) _ = _; simp only [Act.put, List.setIfInBounds_toArray, List.set_cons_zero, List.set_cons_succ]; rfl)
                refine pure_ (i := 6) (N := (some 76)) (v := ?_) (a' := ?_) (lb 19 0x7f) rfl rfl (by kernel_rfl) (fun _ _ _ h => h) (Or.inl ⟨by rfl, ?_⟩) ?_ ?_
                rotate_left
                · (intro w'; go_simp; with_reducible rfl)
                rotate_left
                · (simp only [Act.put, List.setIfInBounds_toArray, List.set_cons_zero, List.set_cons_succ]; rfl)
                refine pure_ (i := 7) (N := (some 77)) (v := ?_) (a' := ?_) (lb 19 0xff) rfl rfl (by kernel_rfl) (fun _ _ _ h => h) (Or.inl ⟨by rfl, ?_⟩) ?_ ?_
                rotate_left
                · (intro w'; go_simp; with_reducible rfl)
                rotate_left
                · (simp only [Act.put, List.setIfInBounds_toArray, List.set_cons_zero, List.set_cons_succ]; rfl)
                refine pure_ (i := 8) (N := (some 78)) (v := ?_) (a' := ?_) (lb 19 0x1ff) rfl rfl (by kernel_rfl) (fun _ _ _ h => h) (Or.inl ⟨by rfl, ?_⟩) ?_ ?_
                rotate_left
                · (intro w'; go_simp; with_reducible rfl)
                rotate_left
                · (simp only [Act.put, List.setIfInBounds_toArray, List.set_cons_zero, List.set_cons_succ]; rfl)
                refine pure_ (i := 10) (N := (some 80)) (v := ?_) (a' := ?_) (lb 19 0x5ff) rfl rfl (by kernel_rfl) (fun _ _ _ h => h) (Or.inl ⟨by rfl, ?_⟩) ?_ ?_
                rotate_left
                · (intro w'; go_simp; with_reducible rfl)
                rotate_left
                · (simp only [Act.put, List.setIfInBounds_toArray, List.set_cons_zero, List.set_cons_succ]; rfl)
                refine pure_ (i := 12) (N := (some 82)) (v := ?_) (a' := ?_) (lb 19 0x15ff) rfl rfl (by kernel_rfl) (fun _ _ _ h => h) (Or.inl ⟨by rfl, ?_⟩) ?_ ?_
                rotate_left
                · (intro w'; go_simp; with_reducible rfl)
                rotate_left
                · (simp only [Act.put, List.setIfInBounds_toArray, List.set_cons_zero, List.set_cons_succ]; rfl)
                refine pure_ (i := 16) (N := (some 86)) (v := ?_) (a' := ?_) (lb 19 0x115ff) rfl rfl (by kernel_rfl) (fun _ _ _ h => h) (Or.inl ⟨by rfl, ?_⟩) ?_ ?_
                rotate_left
                · (intro w'; go_simp; with_reducible rfl)
                rotate_left
                · (simp only [Act.put, List.setIfInBounds_toArray, List.set_cons_zero, List.set_cons_succ]; rfl)
                refine take_ (i := 9) (N := (some 79)) (v := ?_) (a' := ?_) (lb 19 0x117ff) rfl rfl (by kernel_rfl) (fun _ _ _ h => h) (Or.inl ⟨by rfl, ?_⟩) hHeld ?_ ?_
                rotate_left
                · (rintro w' hS; have d1 := cell_at hS p0.out; have d2 := cell_at hS KX.out; go_simp; with_reducible rfl)
                rotate_left
                · (simp only [Act.put, List.setIfInBounds_toArray, List.set_cons_zero, List.set_cons_succ]; rfl)
                refine take_ (i := 11) (N := (some 81)) (v := ?_) (a' := ?_) (lb 19 0x11fff) rfl rfl (by kernel_rfl) (fun _ _ _ h => h) (Or.inl ⟨by rfl, ?_⟩) hHeld ?_ ?_
                rotate_left
                · (rintro w' hS; have d1 := cell_at hS p0.out; have d2 := cell_at hS KX.out; go_simp; with_reducible rfl)
                rotate_left
                · (simp only [Act.put, List.setIfInBounds_toArray, List.set_cons_zero, List.set_cons_succ]; rfl)
                refine pure_ (i := 13) (N := (some 83)) (v := ?_) (a' := ?_) (lb 19 0x13fff) rfl rfl (by kernel_rfl) (fun _ _ _ h => h) (Or.inl ⟨by rfl, ?_⟩) ?_ ?_
                rotate_left
                · (intro w'; go_simp; with_reducible rfl)
                rotate_left
                · (simp only [Act.put, List.setIfInBounds_toArray, List.set_cons_zero, List.set_cons_succ]; rfl)
                refine take_ (i := 14) (N := (some 84)) (v := ?_) (a' := ?_) (lb 19 0x17fff) rfl rfl (by kernel_rfl) (fun _ _ _ h => h) (Or.inl ⟨by rfl, ?_⟩) hHeld ?_ ?_
                rotate_left
                · (rintro w' hS; have d1 := cell_at hS p0.out; have d2 := cell_at hS KX.out; go_simp; with_reducible rfl)
                rotate_left
                · (simp only [Act.put, List.setIfInBounds_toArray, List.set_cons_zero, List.set_cons_succ]; rfl)
                refine one_ (i := 15) (N := (some 85)) (lb 19 0x1ffff) rfl rfl (by kernel_rfl) (by decide) (fun K hK => ?_)
                (refine goes_ Try.func52 (by kernel_rfl) rfl #[.slice (some ad) g.terms.length c1, .string s] (by rfl) rfl rfl (by simp [Act.eval]) ?_; refine (at1_c _ _ _ _ _ _ (Kd.C_below HG.out.terms hHeld)).mono ?_; rintro e w5 ⟨rfl, rfl⟩; refine ⟨_, rfl, ?_⟩; refine hK.out _ _ hHeld (fun hHeld => ?_))
                skip
                clear hK K
                refine norm_ (a' := ?_) ?_ ?_
                rotate_left
                · (show Act.put _ (some 85) _ = _; simp only [Act.put, List.setIfInBounds_toArray, List.set_cons_zero, List.set_cons_succ]; rfl)
                refine pure_ (i := 17) (N := (some 87)) (v := ?_) (a' := ?_) (lb 19 0x3ffff) rfl rfl (by kernel_rfl) (fun _ _ _ h => h) (Or.inl ⟨by rfl, ?_⟩) ?_ ?_
                rotate_left
                · (intro w'; go_simp; with_reducible rfl)
                rotate_left
                · (simp only [Act.put, List.setIfInBounds_toArray, List.set_cons_zero, List.set_cons_succ]; rfl)
                refine pure_ (i := 18) (N := (some 88)) (v := ?_) (a' := ?_) (lb 19 0x7ffff) rfl rfl (by kernel_rfl) (fun _ _ _ h => h) (Or.inl ⟨by rfl, ?_⟩) ?_ ?_
                rotate_left
                · (intro w'; go_simp; with_reducible rfl)
                rotate_left
                · (simp only [Act.put, List.setIfInBounds_toArray, List.set_cons_zero, List.set_cons_succ]; rfl)
                refine done_ (by kernel_rfl) ?_
                go_wp2
                go_roundw
                case rel => exact ⟨i + 1, by omega, by go_num, ⟨below_drew1 HB.out⟩, ⟨fun j hj hji => by
                  rcases Nat.lt_or_ge j i with h | h
                  · exact HN.out j hj h
                  · obtain rfl : j = i := by omega
                    rw [← HS.out]
                    exact ⟨HNM.out, HID.out⟩⟩⟩
                case measure => simp [intOf]; omega
              · have hib : (idxF g.terms s != (i : Int)) = true := by rw [bne_iff_ne]; exact hid
                have HID := Aside0.mk hid
                clear hid
                go_wp2
                refine start_ (n := 19) (S := fun w' => Below w1.heap.size w1 w') (ds := []) (lb 19 0x0) (by kernel_rfl) rfl (by kernel_rfl) (below_drew1 HB.out) (fun hHeld => ?_)
                refine pure_ (i := 0) (N := (some 70)) (v := ?_) (a' := ?_) (lb 19 0x1) rfl rfl (by kernel_rfl) (fun _ _ _ h => h) (Or.inl ⟨by rfl, ?_⟩) ?_ ?_
                rotate_left
                · (intro w'; go_simp; with_reducible rfl)
                rotate_left
                · (simp only [Act.put, List.setIfInBounds_toArray, List.set_cons_zero, List.set_cons_succ]; rfl)
                refine pure_ (i := 2) (N := (some 72)) (v := ?_) (a' := ?_) (lb 19 0x5) rfl rfl (by kernel_rfl) (fun _ _ _ h => h) (Or.inl ⟨by rfl, ?_⟩) ?_ ?_
                rotate_left
                · (intro w'; go_simp; with_reducible rfl)
                rotate_left
                · (simp only [Act.put, List.setIfInBounds_toArray, List.set_cons_zero, List.set_cons_succ]; rfl)
                refine take_ (i := 1) (N := (some 71)) (v := ?_) (a' := ?_) (lb 19 0x7) rfl rfl (by kernel_rfl) (fun _ _ _ h => h) (Or.inl ⟨by rfl, ?_⟩) hHeld ?_ ?_
                rotate_left
                · (rintro w' hS; have d1 := cell_at hS p0.out; have d2 := cell_at hS KX.out; go_simp; with_reducible rfl)
                rotate_left
                · (simp only [Act.put, List.setIfInBounds_toArray, List.set_cons_zero, List.set_cons_succ]; rfl)
                refine pure_ (i := 3) (N := (some 73)) (v := ?_) (a' := ?_) (lb 19 0xf) rfl rfl (by kernel_rfl) (fun _ _ _ h => h) (Or.inl ⟨by rfl, ?_⟩) ?_ ?_
                rotate_left
                · (intro w'; go_simp; with_reducible rfl)
                rotate_left
                · (simp only [Act.put, List.setIfInBounds_toArray, List.set_cons_zero, List.set_cons_succ]; rfl)
                refine take_ (i := 4) (N := (some 74)) (v := ?_) (a' := ?_) (lb 19 0x1f) rfl rfl (by kernel_rfl) (fun _ _ _ h => h) (Or.inl ⟨by rfl, ?_⟩) hHeld ?_ ?_
                rotate_left
                · (rintro w' hS; have d1 := cell_at hS p0.out; have d2 := cell_at hS KX.out; go_simp; with_reducible rfl)
                rotate_left
                · (simp only [Act.put, List.setIfInBounds_toArray, List.set_cons_zero, List.set_cons_succ]; rfl)
                refine one_ (i := 5) (N := (some 75)) (lb 19 0x3f) rfl rfl (by kernel_rfl) (by decide) (fun K hK => ?_)
                (refine goes_ Try.func61 (by kernel_rfl) rfl #[.string s] (by rfl) rfl rfl (by simp [Act.eval]) ?_; refine (isTerm1_c s _ HSZ.out).mono ?_; rw [HNM.out]; rintro e w5 ⟨rfl, rfl⟩; refine ⟨_, rfl, ?_⟩; refine hK.out _ _ hHeld (fun hHeld => ?_))
                skip
                clear hK K
                refine norm_ (a' := ?_) ?_ ?_
                rotate_left
                · (show Act.put _ (some 75) _ = _; simp only [Act.put, List.setIfInBounds_toArray, List.set_cons_zero, List.set_cons_succ]; rfl)
                refine pure_ (i := 6) (N := (some 76)) (v := ?_) (a' := ?_) (lb 19 0x7f) rfl rfl (by kernel_rfl) (fun _ _ _ h => h) (Or.inl ⟨by rfl, ?_⟩) ?_ ?_
                rotate_left
                · (intro w'; go_simp; with_reducible rfl)
                rotate_left
                · (simp only [Act.put, List.setIfInBounds_toArray, List.set_cons_zero, List.set_cons_succ]; rfl)
                refine pure_ (i := 7) (N := (some 77)) (v := ?_) (a' := ?_) (lb 19 0xff) rfl rfl (by kernel_rfl) (fun _ _ _ h => h) (Or.inl ⟨by rfl, ?_⟩) ?_ ?_
                rotate_left
                · (intro w'; go_simp; with_reducible rfl)
                rotate_left
                · (simp only [Act.put, List.setIfInBounds_toArray, List.set_cons_zero, List.set_cons_succ]; rfl)
                refine pure_ (i := 8) (N := (some 78)) (v := ?_) (a' := ?_) (lb 19 0x1ff) rfl rfl (by kernel_rfl) (fun _ _ _ h => h) (Or.inl ⟨by rfl, ?_⟩) ?_ ?_
                rotate_left
                · (intro w'; go_simp; with_reducible rfl)
                rotate_left
                · (simp only [Act.put, List.setIfInBounds_toArray, List.set_cons_zero, List.set_cons_succ]; rfl)
                refine pure_ (i := 10) (N := (some 80)) (v := ?_) (a' := ?_) (lb 19 0x5ff) rfl rfl (by kernel_rfl) (fun _ _ _ h => h) (Or.inl ⟨by rfl, ?_⟩) ?_ ?_
                rotate_left
                · (intro w'; go_simp; with_reducible rfl)
                rotate_left
                · (simp only [Act.put, List.setIfInBounds_toArray, List.set_cons_zero, List.set_cons_succ]; rfl)
                refine pure_ (i := 12) (N := (some 82)) (v := ?_) (a' := ?_) (lb 19 0x15ff) rfl rfl (by kernel_rfl) (fun _ _ _ h => h) (Or.inl ⟨by rfl, ?_⟩) ?_ ?_
                rotate_left
                · (intro w'; go_simp; with_reducible rfl)
                rotate_left
                · (simp only [Act.put, List.setIfInBounds_toArray, List.set_cons_zero, List.set_cons_succ]; rfl)
                refine pure_ (i := 16) (N := (some 86)) (v := ?_) (a' := ?_) (lb 19 0x115ff) rfl rfl (by kernel_rfl) (fun _ _ _ h => h) (Or.inl ⟨by rfl, ?_⟩) ?_ ?_
                rotate_left
                · (intro w'; go_simp; with_reducible rfl)
                rotate_left
                · (simp only [Act.put, List.setIfInBounds_toArray, List.set_cons_zero, List.set_cons_succ]; rfl)
                refine take_ (i := 9) (N := (some 79)) (v := ?_) (a' := ?_) (lb 19 0x117ff) rfl rfl (by kernel_rfl) (fun _ _ _ h => h) (Or.inl ⟨by rfl, ?_⟩) hHeld ?_ ?_
                rotate_left
                · (rintro w' hS; have d1 := cell_at hS p0.out; have d2 := cell_at hS KX.out; go_simp; with_reducible rfl)
                rotate_left
                · (simp only [Act.put, List.setIfInBounds_toArray, List.set_cons_zero, List.set_cons_succ]; rfl)
                refine take_ (i := 11) (N := (some 81)) (v := ?_) (a' := ?_) (lb 19 0x11fff) rfl rfl (by kernel_rfl) (fun _ _ _ h => h) (Or.inl ⟨by rfl, ?_⟩) hHeld ?_ ?_
                rotate_left
                · (rintro w' hS; have d1 := cell_at hS p0.out; have d2 := cell_at hS KX.out; go_simp; with_reducible rfl)
                rotate_left
                · (simp only [Act.put, List.setIfInBounds_toArray, List.set_cons_zero, List.set_cons_succ]; rfl)
                refine pure_ (i := 13) (N := (some 83)) (v := ?_) (a' := ?_) (lb 19 0x13fff) rfl rfl (by kernel_rfl) (fun _ _ _ h => h) (Or.inl ⟨by rfl, ?_⟩) ?_ ?_
                rotate_left
                · (intro w'; go_simp; with_reducible rfl)
                rotate_left
                · (simp only [Act.put, List.setIfInBounds_toArray, List.set_cons_zero, List.set_cons_succ]; rfl)
                refine take_ (i := 14) (N := (some 84)) (v := ?_) (a' := ?_) (lb 19 0x17fff) rfl rfl (by kernel_rfl) (fun _ _ _ h => h) (Or.inl ⟨by rfl, ?_⟩) hHeld ?_ ?_
                rotate_left
                · (rintro w' hS; have d1 := cell_at hS p0.out; have d2 := cell_at hS KX.out; go_simp; with_reducible rfl)
                rotate_left
                · (simp only [Act.put, List.setIfInBounds_toArray, List.set_cons_zero, List.set_cons_succ]; rfl)
                refine one_ (i := 15) (N := (some 85)) (lb 19 0x1ffff) rfl rfl (by kernel_rfl) (by decide) (fun K hK => ?_)
                (refine goes_ Try.func52 (by kernel_rfl) rfl #[.slice (some ad) g.terms.length c1, .string s] (by rfl) rfl rfl (by simp [Act.eval]) ?_; refine (at1_c _ _ _ _ _ _ (Kd.C_below HG.out.terms hHeld)).mono ?_; rintro e w5 ⟨rfl, rfl⟩; refine ⟨_, rfl, ?_⟩; refine hK.out _ _ hHeld (fun hHeld => ?_))
                skip
                clear hK K
                refine norm_ (a' := ?_) ?_ ?_
                rotate_left
                · (show Act.put _ (some 85) _ = _; simp only [Act.put, List.setIfInBounds_toArray, List.set_cons_zero, List.set_cons_succ]; rfl)
                refine pure_ (i := 17) (N := (some 87)) (v := ?_) (a' := ?_) (lb 19 0x3ffff) rfl rfl (by kernel_rfl) (fun _ _ _ h => h) (Or.inl ⟨by rfl, ?_⟩) ?_ ?_
                rotate_left
                · (intro w'; go_simp; with_reducible rfl)
                rotate_left
                · (simp only [Act.put, List.setIfInBounds_toArray, List.set_cons_zero, List.set_cons_succ]; rfl)
                refine pure_ (i := 18) (N := (some 88)) (v := ?_) (a' := ?_) (lb 19 0x7ffff) rfl rfl (by kernel_rfl) (fun _ _ _ h => h) (Or.inl ⟨by rfl, ?_⟩) ?_ ?_
                rotate_left
                · (intro w'; go_simp; with_reducible rfl)
                rotate_left
                · (simp only [Act.put, List.setIfInBounds_toArray, List.set_cons_zero, List.set_cons_succ]; rfl)
                refine done_ (by kernel_rfl) ?_
                go_wp2
                go_ret
                exact ⟨ret_bool (good_not (fun h => by have := ((terms_iff g).1 h.terms).1 i hlt; rw [← HS.out] at this; exact HID.out this.2)).symm, below_then HB1.out HB1.out.size (below_drew1 HB.out)⟩
          · have HTO : Aside0 (termsOk g = true) := ⟨(terms_iff g).2 ⟨fun j hj => HN.out j hj (by omega), n3⟩⟩
            clear HN
            go_wp2
            obtain ⟨wo, hwo⟩ : ∃ wo : World, wo = wr := ⟨_, rfl⟩
            subst hwo
            go_loopw [9, 7, 8] (fun iv nv tv wr => ∃ i nm tm : Nat, i ≤ g.rules.length ∧ iv = .int .i64 i ∧ nv = .int .i64 nm ∧ tv = .int .i64 tm ∧ nm ≤ i ∧ tm ≤ 8 * i ∧ Aside0 (Below w1.heap.size w1 wr) ∧ Aside0 (GS g i nm tm)) (fun iv _ _ _ => g.rules.length - (intOf iv).toNat)
            case atStart => exact ⟨0, 0, 0, Nat.zero_le _, rfl, rfl, rfl, Nat.le_refl _, Nat.le_refl _, HB, ⟨GS.start g⟩⟩
            case round =>
              clear HB
              obtain ⟨i, nm, tm, hi, rfl, rfl, rfl, hnm, htm, HB, HGS⟩ := hrel
              have z2 := cell_at HB.out p2.out
              by_cases hlt : i < g.rules.length
              · obtain ⟨a3, R, cr, eA, hx1, hx2, hcr, hR⟩ := at_rule HG.out.rules i hlt
                subst eA
                obtain ⟨x, hx⟩ : ∃ x, x = g.rules[i]'hlt := ⟨_, rfl⟩
                rw [← hx] at hx1 hx2 hcr hR
                have HX := Aside0.mk hx
                have hmx := C_max hR
                have KXR := Aside0.mk hR
                have y1 := cell_at HB.out hx1
                have y2 := cell_at HB.out hx2
                have j1 : (0 : Int) ≤ (i : Int) := by omega
                have j2 : (i : Int) < (g.rules.length : Int) := by omega
                have hc3 := HG.out.rulesCap
                have hc4 : (i : Int) ≤ (c3 : Int) := by omega
                have hwa : IntKind.i64.wrap ((g.terms.length : Int) + (nm : Int)) = (g.terms.length : Int) + (nm : Int) := IntWalk.i64_in _ (by omega)
                have hwb : IntKind.i64.wrap ((g.terms.length : Int) + (g.names.length : Int)) = (g.terms.length : Int) + (g.names.length : Int) := IntWalk.i64_in _ (by omega)
                clear hx hx1 hx2 hR
                obtain ⟨wq, hwq⟩ : ∃ wq : World, wq = wr.alloc (.cells #[.int .i64 x.left, .slice R x.right.length cr] 56 (0, 0)) := ⟨_, rfl⟩
                have HBQ : Aside0 (Below w1.heap.size w1 wq) := ⟨by rw [hwq]; exact below_alloc HB.out _⟩
                have hq : wq.heap[wr.heap.size]? = some (.cells #[.int .i64 x.left, .slice R x.right.length cr] 56 (0, 0)) := by rw [hwq]; exact blk_new wr _
                have Q0 := Aside0.mk ((blk_cell hq 0).trans rfl : wq.cell? ⟨wr.heap.size, 0, none⟩ = some (.int .i64 x.left))
                have Q1 := Aside0.mk ((blk_cell hq 1).trans rfl : wq.cell? ⟨wr.heap.size, 1, none⟩ = some (.slice R x.right.length cr))
                have P2Q := Aside0.mk (cell_at HBQ.out p2.out)
                clear hq
                by_cases h1 : x.left < (g.terms.length : Int)
                · have e1 : decide (x.left < (g.terms.length : Int)) = true := decide_eq_true h1
                  go_wp2
                  simp only [← hwq]
                  refine start_ (n := 34) (S := fun w' => Below wq.heap.size wq w') (ds := []) (lb 34 0x0) (by kernel_rfl) rfl (by kernel_rfl) (below_drew1 (Below.refl _ _)) (fun hHeld => ?_)
                  refine pure_ (i := 0) (N := (some 101)) (v := ?_) (a' := ?_) (lb 34 0x1) rfl rfl (by kernel_rfl) (fun _ _ _ h => h) (Or.inl ⟨by rfl, ?_⟩) ?_ ?_
                  rotate_left
                  · (intro w'; go_simp; with_reducible rfl)
                  rotate_left
                  · (simp only [Act.put, List.setIfInBounds_toArray, List.set_cons_zero, List.set_cons_succ]; rfl)
                  refine pure_ (i := 2) (N := (some 103)) (v := ?_) (a' := ?_) (lb 34 0x5) rfl rfl (by kernel_rfl) (fun _ _ _ h => h) (Or.inl ⟨by rfl, ?_⟩) ?_ ?_
                  rotate_left
                  · (intro w'; go_simp; with_reducible rfl)
                  rotate_left
                  · (simp only [Act.put, List.setIfInBounds_toArray, List.set_cons_zero, List.set_cons_succ]; rfl)
                  refine take_ (i := 1) (N := (some 102)) (v := ?_) (a' := ?_) (lb 34 0x7) rfl rfl (by kernel_rfl) (fun _ _ _ h => h) (Or.inl ⟨by rfl, ?_⟩) hHeld ?_ ?_
                  rotate_left
                  · (rintro w' hS; have d2 := cell_at hS P2Q.out; have d0 := cell_at hS Q0.out; have d1 := cell_at hS Q1.out; go_simp; with_reducible rfl)
                  rotate_left
                  · (simp only [Act.put, List.setIfInBounds_toArray, List.set_cons_zero, List.set_cons_succ]; rfl)
                  refine pure_ (i := 3) (N := (some 104)) (v := ?_) (a' := ?_) (lb 34 0xf) rfl rfl (by kernel_rfl) (fun _ _ _ h => h) (Or.inl ⟨by rfl, ?_⟩) ?_ ?_
                  rotate_left
                  · (intro w'; go_simp; with_reducible rfl)
                  rotate_left
                  · (simp only [Act.put, List.setIfInBounds_toArray, List.set_cons_zero, List.set_cons_succ]; rfl)
                  refine pure_ (i := 4) (N := (some 105)) (v := ?_) (a' := ?_) (lb 34 0x1f) rfl rfl (by kernel_rfl) (fun _ _ _ h => h) (Or.inl ⟨by rfl, ?_⟩) ?_ ?_
                  rotate_left
                  · (intro w'; go_simp; with_reducible rfl)
                  rotate_left
                  · (simp only [Act.put, List.setIfInBounds_toArray, List.set_cons_zero, List.set_cons_succ]; rfl)
                  refine pure_ (i := 5) (N := (some 106)) (v := undef) (a' := ?_) (lb 34 0x3f) rfl rfl (by kernel_rfl) (fun _ _ _ h => h) (Or.inr ⟨by rfl, rfl⟩) ?_ ?_
                  rotate_left
                  · (simp only [Act.put, List.setIfInBounds_toArray, List.set_cons_zero, List.set_cons_succ]; rfl)
                  refine pure_ (i := 7) (N := (some 108)) (v := undef) (a' := ?_) (lb 34 0xbf) rfl rfl (by kernel_rfl) (fun _ _ _ h => h) (Or.inr ⟨by rfl, rfl⟩) ?_ ?_
                  rotate_left
                  · (simp only [Act.put, List.setIfInBounds_toArray, List.set_cons_zero, List.set_cons_succ]; rfl)
                  refine pure_ (i := 8) (N := (some 109)) (v := undef) (a' := ?_) (lb 34 0x1bf) rfl rfl (by kernel_rfl) (fun _ _ _ h => h) (Or.inr ⟨by rfl, rfl⟩) ?_ ?_
                  rotate_left
                  · (simp only [Act.put, List.setIfInBounds_toArray, List.set_cons_zero, List.set_cons_succ]; rfl)
                  refine pure_ (i := 9) (N := (some 110)) (v := undef) (a' := ?_) (lb 34 0x3bf) rfl rfl (by kernel_rfl) (fun _ _ _ h => h) (Or.inr ⟨by rfl, rfl⟩) ?_ ?_
                  rotate_left
                  · (simp only [Act.put, List.setIfInBounds_toArray, List.set_cons_zero, List.set_cons_succ]; rfl)
                  refine pure_ (i := 6) (N := (some 107)) (v := undef) (a' := ?_) (lb 34 0x3ff) rfl rfl (by kernel_rfl) (fun _ _ _ h => h) (Or.inr ⟨by rfl, rfl⟩) ?_ ?_
                  rotate_left
                  · (simp only [Act.put, List.setIfInBounds_toArray, List.set_cons_zero, List.set_cons_succ]; rfl)
                  refine pure_ (i := 10) (N := (some 111)) (v := undef) (a' := ?_) (lb 34 0x7ff) rfl rfl (by kernel_rfl) (fun _ _ _ h => h) (Or.inr ⟨by rfl, rfl⟩) ?_ ?_
                  rotate_left
                  · (simp only [Act.put, List.setIfInBounds_toArray, List.set_cons_zero, List.set_cons_succ]; rfl)
                  refine pure_ (i := 11) (N := (some 112)) (v := ?_) (a' := ?_) (lb 34 0xfff) rfl rfl (by kernel_rfl) (fun _ _ _ h => h) (Or.inl ⟨by rfl, ?_⟩) ?_ ?_
                  rotate_left
                  · (intro w'; go_simp; with_reducible rfl)
                  rotate_left
                  · (simp only [Act.put, List.setIfInBounds_toArray, List.set_cons_zero, List.set_cons_succ]; rfl)
                  refine pure_ (i := 12) (N := (some 113)) (v := ?_) (a' := ?_) (lb 34 0x1fff) rfl rfl (by kernel_rfl) (fun _ _ _ h => h) (Or.inl ⟨by rfl, ?_⟩) ?_ ?_
                  rotate_left
                  · (intro w'; go_simp; with_reducible rfl)
                  rotate_left
                  · (simp only [Act.put, List.setIfInBounds_toArray, List.set_cons_zero, List.set_cons_succ]; rfl)
                  refine pure_ (i := 13) (N := (some 114)) (v := undef) (a' := ?_) (lb 34 0x3fff) rfl rfl (by kernel_rfl) (fun _ _ _ h => h) (Or.inr ⟨by rfl, rfl⟩) ?_ ?_
                  rotate_left
                  · (simp only [Act.put, List.setIfInBounds_toArray, List.set_cons_zero, List.set_cons_succ]; rfl)
                  refine pure_ (i := 15) (N := (some 116)) (v := undef) (a' := ?_) (lb 34 0xbfff) rfl rfl (by kernel_rfl) (fun _ _ _ h => h) (Or.inr ⟨by rfl, rfl⟩) ?_ ?_
                  rotate_left
                  · (simp only [Act.put, List.setIfInBounds_toArray, List.set_cons_zero, List.set_cons_succ]; rfl)
                  refine pure_ (i := 16) (N := (some 117)) (v := undef) (a' := ?_) (lb 34 0x1bfff) rfl rfl (by kernel_rfl) (fun _ _ _ h => h) (Or.inr ⟨by rfl, rfl⟩) ?_ ?_
                  rotate_left
                  · (simp only [Act.put, List.setIfInBounds_toArray, List.set_cons_zero, List.set_cons_succ]; rfl)
                  refine pure_ (i := 17) (N := (some 118)) (v := undef) (a' := ?_) (lb 34 0x3bfff) rfl rfl (by kernel_rfl) (fun _ _ _ h => h) (Or.inr ⟨by rfl, rfl⟩) ?_ ?_
                  rotate_left
                  · (simp only [Act.put, List.setIfInBounds_toArray, List.set_cons_zero, List.set_cons_succ]; rfl)
                  refine pure_ (i := 14) (N := (some 115)) (v := undef) (a' := ?_) (lb 34 0x3ffff) rfl rfl (by kernel_rfl) (fun _ _ _ h => h) (Or.inr ⟨by rfl, rfl⟩) ?_ ?_
                  rotate_left
                  · (simp only [Act.put, List.setIfInBounds_toArray, List.set_cons_zero, List.set_cons_succ]; rfl)
                  refine pure_ (i := 18) (N := (some 119)) (v := undef) (a' := ?_) (lb 34 0x7ffff) rfl rfl (by kernel_rfl) (fun _ _ _ h => h) (Or.inr ⟨by rfl, rfl⟩) ?_ ?_
                  rotate_left
                  · (simp only [Act.put, List.setIfInBounds_toArray, List.set_cons_zero, List.set_cons_succ]; rfl)
                  refine pure_ (i := 19) (N := (some 120)) (v := ?_) (a' := ?_) (lb 34 0xfffff) rfl rfl (by kernel_rfl) (fun _ _ _ h => h) (Or.inl ⟨by rfl, ?_⟩) ?_ ?_
                  rotate_left
                  · (intro w'; go_simp; with_reducible rfl)
                  rotate_left
                  · (simp only [Act.put, List.setIfInBounds_toArray, List.set_cons_zero, List.set_cons_succ]; rfl)
                  refine pure_ (i := 20) (N := (some 121)) (v := ?_) (a' := ?_) (lb 34 0x1fffff) rfl rfl (by kernel_rfl) (fun _ _ _ h => h) (Or.inl ⟨by rfl, ?_⟩) ?_ ?_
                  rotate_left
                  · (intro w'; go_simp; with_reducible rfl)
                  rotate_left
                  · (simp only [Act.put, List.setIfInBounds_toArray, List.set_cons_zero, List.set_cons_succ]; rfl)
                  refine pure_ (i := 21) (N := (some 122)) (v := undef) (a' := ?_) (lb 34 0x3fffff) rfl rfl (by kernel_rfl) (fun _ _ _ h => h) (Or.inr ⟨by rfl, rfl⟩) ?_ ?_
                  rotate_left
                  · (simp only [Act.put, List.setIfInBounds_toArray, List.set_cons_zero, List.set_cons_succ]; rfl)
                  refine pure_ (i := 22) (N := (some 123)) (v := undef) (a' := ?_) (lb 34 0x7fffff) rfl rfl (by kernel_rfl) (fun _ _ _ h => h) (Or.inr ⟨by rfl, rfl⟩) ?_ ?_
                  rotate_left
                  · (simp only [Act.put, List.setIfInBounds_toArray, List.set_cons_zero, List.set_cons_succ]; rfl)
                  refine pure_ (i := 23) (N := (some 124)) (v := undef) (a' := ?_) (lb 34 0xffffff) rfl rfl (by kernel_rfl) (fun _ _ _ h => h) (Or.inr ⟨by rfl, rfl⟩) ?_ ?_
                  rotate_left
                  · (simp only [Act.put, List.setIfInBounds_toArray, List.set_cons_zero, List.set_cons_succ]; rfl)
                  refine pure_ (i := 24) (N := (some 125)) (v := undef) (a' := ?_) (lb 34 0x1ffffff) rfl rfl (by kernel_rfl) (fun _ _ _ h => h) (Or.inr ⟨by rfl, rfl⟩) ?_ ?_
                  rotate_left
                  · (simp only [Act.put, List.setIfInBounds_toArray, List.set_cons_zero, List.set_cons_succ]; rfl)
                  refine pure_ (i := 25) (N := (some 126)) (v := ?_) (a' := ?_) (lb 34 0x3ffffff) rfl rfl (by kernel_rfl) (fun _ _ _ h => h) (Or.inl ⟨by rfl, ?_⟩) ?_ ?_
                  rotate_left
                  · (intro w'; go_simp; with_reducible rfl)
                  rotate_left
                  · (simp only [Act.put, List.setIfInBounds_toArray, List.set_cons_zero, List.set_cons_succ]; rfl)
                  refine pure_ (i := 26) (N := (some 127)) (v := ?_) (a' := ?_) (lb 34 0x7ffffff) rfl rfl (by kernel_rfl) (fun _ _ _ h => h) (Or.inl ⟨by rfl, ?_⟩) ?_ ?_
                  rotate_left
                  · (intro w'; go_simp; with_reducible rfl)
                  rotate_left
                  · (simp only [Act.put, List.setIfInBounds_toArray, List.set_cons_zero, List.set_cons_succ]; rfl)
                  refine pure_ (i := 27) (N := (some 128)) (v := undef) (a' := ?_) (lb 34 0xfffffff) rfl rfl (by kernel_rfl) (fun _ _ _ h => h) (Or.inr ⟨by rfl, rfl⟩) ?_ ?_
                  rotate_left
                  · (simp only [Act.put, List.setIfInBounds_toArray, List.set_cons_zero, List.set_cons_succ]; rfl)
                  refine pure_ (i := 29) (N := (some 130)) (v := undef) (a' := ?_) (lb 34 0x2fffffff) rfl rfl (by kernel_rfl) (fun _ _ _ h => h) (Or.inr ⟨by rfl, rfl⟩) ?_ ?_
                  rotate_left
                  · (simp only [Act.put, List.setIfInBounds_toArray, List.set_cons_zero, List.set_cons_succ]; rfl)
                  refine pure_ (i := 28) (N := (some 129)) (v := undef) (a' := ?_) (lb 34 0x3fffffff) rfl rfl (by kernel_rfl) (fun _ _ _ h => h) (Or.inr ⟨by rfl, rfl⟩) ?_ ?_
                  rotate_left
                  · (simp only [Act.put, List.setIfInBounds_toArray, List.set_cons_zero, List.set_cons_succ]; rfl)
                  refine pure_ (i := 30) (N := (some 131)) (v := undef) (a' := ?_) (lb 34 0x7fffffff) rfl rfl (by kernel_rfl) (fun _ _ _ h => h) (Or.inr ⟨by rfl, rfl⟩) ?_ ?_
                  rotate_left
                  · (simp only [Act.put, List.setIfInBounds_toArray, List.set_cons_zero, List.set_cons_succ]; rfl)
                  refine pure_ (i := 31) (N := (some 132)) (v := undef) (a' := ?_) (lb 34 0xffffffff) rfl rfl (by kernel_rfl) (fun _ _ _ h => h) (Or.inr ⟨by rfl, rfl⟩) ?_ ?_
                  rotate_left
                  · (simp only [Act.put, List.setIfInBounds_toArray, List.set_cons_zero, List.set_cons_succ]; rfl)
                  refine one_ (i := 32) (N := (some 133)) (lb 34 0x1ffffffff) rfl rfl (by kernel_rfl) (by decide) (fun K hK => ?_)
                  refine off_ (by rfl) ?_
                  refine hK.out _ _ hHeld (fun hHeld => ?_)
                  clear hK K
                  refine norm_ (a' := ?_) ?_ ?_
                  rotate_left
                  · (show Act.put _ (some 133) _ = _; simp only [Act.put, List.setIfInBounds_toArray, List.set_cons_zero, List.set_cons_succ]; rfl)
                  refine pure_ (i := 33) (N := (some 134)) (v := ?_) (a' := ?_) (lb 34 0x3ffffffff) rfl rfl (by kernel_rfl) (fun _ _ _ h => h) (Or.inl ⟨by rfl, ?_⟩) ?_ ?_
                  rotate_left
                  · (intro w'; go_simp; with_reducible rfl)
                  rotate_left
                  · (simp only [Act.put, List.setIfInBounds_toArray, List.set_cons_zero, List.set_cons_succ]; rfl)
                  refine done_ (by kernel_rfl) ?_
                  go_wp2
                  go_ret
                  exact ⟨ret_bool (good_not (fun h => by have := GS.left_ h HGS.out hlt; rw [← HX.out] at this; exact this.1 h1)).symm, below_then HB1.out HB1.out.size (below_then HBQ.out HBQ.out.size (below_drew1 (Below.refl _ _)))⟩
                · have e1 : decide (x.left < (g.terms.length : Int)) = false := decide_eq_false h1
                  by_cases h2 : (g.terms.length : Int) + (nm : Int) < x.left
                  · have e2 : decide ((g.terms.length : Int) + (nm : Int) < x.left) = true := decide_eq_true h2
                    go_wp2
                    simp only [← hwq]
                    refine start_ (n := 34) (S := fun w' => Below wq.heap.size wq w') (ds := []) (lb 34 0x0) (by kernel_rfl) rfl (by kernel_rfl) (below_drew1 (Below.refl _ _)) (fun hHeld => ?_)
                    refine pure_ (i := 0) (N := (some 101)) (v := ?_) (a' := ?_) (lb 34 0x1) rfl rfl (by kernel_rfl) (fun _ _ _ h => h) (Or.inl ⟨by rfl, ?_⟩) ?_ ?_
                    rotate_left
                    · (intro w'; go_simp; with_reducible rfl)
                    rotate_left
                    · (simp only [Act.put, List.setIfInBounds_toArray, List.set_cons_zero, List.set_cons_succ]; rfl)
                    refine pure_ (i := 2) (N := (some 103)) (v := ?_) (a' := ?_) (lb 34 0x5) rfl rfl (by kernel_rfl) (fun _ _ _ h => h) (Or.inl ⟨by rfl, ?_⟩) ?_ ?_
                    rotate_left
                    · (intro w'; go_simp; with_reducible rfl)
                    rotate_left
                    · (simp only [Act.put, List.setIfInBounds_toArray, List.set_cons_zero, List.set_cons_succ]; rfl)
                    refine take_ (i := 1) (N := (some 102)) (v := ?_) (a' := ?_) (lb 34 0x7) rfl rfl (by kernel_rfl) (fun _ _ _ h => h) (Or.inl ⟨by rfl, ?_⟩) hHeld ?_ ?_
                    rotate_left
                    · (rintro w' hS; have d2 := cell_at hS P2Q.out; have d0 := cell_at hS Q0.out; have d1 := cell_at hS Q1.out; go_simp; with_reducible rfl)
                    rotate_left
                    · (simp only [Act.put, List.setIfInBounds_toArray, List.set_cons_zero, List.set_cons_succ]; rfl)
                    refine pure_ (i := 3) (N := (some 104)) (v := ?_) (a' := ?_) (lb 34 0xf) rfl rfl (by kernel_rfl) (fun _ _ _ h => h) (Or.inl ⟨by rfl, ?_⟩) ?_ ?_
                    rotate_left
                    · (intro w'; go_simp; with_reducible rfl)
                    rotate_left
                    · (simp only [Act.put, List.setIfInBounds_toArray, List.set_cons_zero, List.set_cons_succ]; rfl)
                    refine pure_ (i := 4) (N := (some 105)) (v := ?_) (a' := ?_) (lb 34 0x1f) rfl rfl (by kernel_rfl) (fun _ _ _ h => h) (Or.inl ⟨by rfl, ?_⟩) ?_ ?_
                    rotate_left
                    · (intro w'; go_simp; with_reducible rfl)
                    rotate_left
                    · (simp only [Act.put, List.setIfInBounds_toArray, List.set_cons_zero, List.set_cons_succ]; rfl)
                    refine pure_ (i := 5) (N := (some 106)) (v := ?_) (a' := ?_) (lb 34 0x3f) rfl rfl (by kernel_rfl) (fun _ _ _ h => h) (Or.inl ⟨by rfl, ?_⟩) ?_ ?_
                    rotate_left
                    · (intro w'; go_simp; with_reducible rfl)
                    rotate_left
                    · (simp only [Act.put, List.setIfInBounds_toArray, List.set_cons_zero, List.set_cons_succ]; rfl)
                    refine pure_ (i := 7) (N := (some 108)) (v := ?_) (a' := ?_) (lb 34 0xbf) rfl rfl (by kernel_rfl) (fun _ _ _ h => h) (Or.inl ⟨by rfl, ?_⟩) ?_ ?_
                    rotate_left
                    · (intro w'; go_simp; with_reducible rfl)
                    rotate_left
                    · (simp only [Act.put, List.setIfInBounds_toArray, List.set_cons_zero, List.set_cons_succ]; rfl)
                    refine pure_ (i := 8) (N := (some 109)) (v := ?_) (a' := ?_) (lb 34 0x1bf) rfl rfl (by kernel_rfl) (fun _ _ _ h => h) (Or.inl ⟨by rfl, ?_⟩) ?_ ?_
                    rotate_left
                    · (intro w'; go_simp; with_reducible rfl)
                    rotate_left
                    · (simp only [Act.put, List.setIfInBounds_toArray, List.set_cons_zero, List.set_cons_succ]; rfl)
                    refine pure_ (i := 9) (N := (some 110)) (v := ?_) (a' := ?_) (lb 34 0x3bf) rfl rfl (by kernel_rfl) (fun _ _ _ h => h) (Or.inl ⟨by rfl, ?_⟩) ?_ ?_
                    rotate_left
                    · (intro w'; go_simp; with_reducible rfl)
                    rotate_left
                    · (simp only [Act.put, List.setIfInBounds_toArray, List.set_cons_zero, List.set_cons_succ]; rfl)
                    refine take_ (i := 6) (N := (some 107)) (v := ?_) (a' := ?_) (lb 34 0x3ff) rfl rfl (by kernel_rfl) (fun _ _ _ h => h) (Or.inl ⟨by rfl, ?_⟩) hHeld ?_ ?_
                    rotate_left
                    · (rintro w' hS; have d2 := cell_at hS P2Q.out; have d0 := cell_at hS Q0.out; have d1 := cell_at hS Q1.out; go_simp; with_reducible rfl)
                    rotate_left
                    · (simp only [Act.put, List.setIfInBounds_toArray, List.set_cons_zero, List.set_cons_succ]; rfl)
                    refine pure_ (i := 10) (N := (some 111)) (v := ?_) (a' := ?_) (lb 34 0x7ff) rfl rfl (by kernel_rfl) (fun _ _ _ h => h) (Or.inl ⟨by rfl, ?_⟩) ?_ ?_
                    rotate_left
                    · (intro w'; go_simp; with_reducible rfl)
                    rotate_left
                    · (simp only [Act.put, List.setIfInBounds_toArray, List.set_cons_zero, List.set_cons_succ]; rfl)
                    refine pure_ (i := 11) (N := (some 112)) (v := ?_) (a' := ?_) (lb 34 0xfff) rfl rfl (by kernel_rfl) (fun _ _ _ h => h) (Or.inl ⟨by rfl, ?_⟩) ?_ ?_
                    rotate_left
                    · (intro w'; go_simp; with_reducible rfl)
                    rotate_left
                    · (simp only [Act.put, List.setIfInBounds_toArray, List.set_cons_zero, List.set_cons_succ]; rfl)
                    refine pure_ (i := 12) (N := (some 113)) (v := ?_) (a' := ?_) (lb 34 0x1fff) rfl rfl (by kernel_rfl) (fun _ _ _ h => h) (Or.inl ⟨by rfl, ?_⟩) ?_ ?_
                    rotate_left
                    · (intro w'; go_simp; with_reducible rfl)
                    rotate_left
                    · (simp only [Act.put, List.setIfInBounds_toArray, List.set_cons_zero, List.set_cons_succ]; rfl)
                    refine pure_ (i := 13) (N := (some 114)) (v := undef) (a' := ?_) (lb 34 0x3fff) rfl rfl (by kernel_rfl) (fun _ _ _ h => h) (Or.inr ⟨by rfl, rfl⟩) ?_ ?_
                    rotate_left
                    · (simp only [Act.put, List.setIfInBounds_toArray, List.set_cons_zero, List.set_cons_succ]; rfl)
                    refine pure_ (i := 15) (N := (some 116)) (v := undef) (a' := ?_) (lb 34 0xbfff) rfl rfl (by kernel_rfl) (fun _ _ _ h => h) (Or.inr ⟨by rfl, rfl⟩) ?_ ?_
                    rotate_left
                    · (simp only [Act.put, List.setIfInBounds_toArray, List.set_cons_zero, List.set_cons_succ]; rfl)
                    refine pure_ (i := 16) (N := (some 117)) (v := undef) (a' := ?_) (lb 34 0x1bfff) rfl rfl (by kernel_rfl) (fun _ _ _ h => h) (Or.inr ⟨by rfl, rfl⟩) ?_ ?_
                    rotate_left
                    · (simp only [Act.put, List.setIfInBounds_toArray, List.set_cons_zero, List.set_cons_succ]; rfl)
                    refine pure_ (i := 17) (N := (some 118)) (v := undef) (a' := ?_) (lb 34 0x3bfff) rfl rfl (by kernel_rfl) (fun _ _ _ h => h) (Or.inr ⟨by rfl, rfl⟩) ?_ ?_
                    rotate_left
                    · (simp only [Act.put, List.setIfInBounds_toArray, List.set_cons_zero, List.set_cons_succ]; rfl)
                    refine pure_ (i := 14) (N := (some 115)) (v := undef) (a' := ?_) (lb 34 0x3ffff) rfl rfl (by kernel_rfl) (fun _ _ _ h => h) (Or.inr ⟨by rfl, rfl⟩) ?_ ?_
                    rotate_left
                    · (simp only [Act.put, List.setIfInBounds_toArray, List.set_cons_zero, List.set_cons_succ]; rfl)
                    refine pure_ (i := 18) (N := (some 119)) (v := undef) (a' := ?_) (lb 34 0x7ffff) rfl rfl (by kernel_rfl) (fun _ _ _ h => h) (Or.inr ⟨by rfl, rfl⟩) ?_ ?_
                    rotate_left
                    · (simp only [Act.put, List.setIfInBounds_toArray, List.set_cons_zero, List.set_cons_succ]; rfl)
                    refine pure_ (i := 19) (N := (some 120)) (v := ?_) (a' := ?_) (lb 34 0xfffff) rfl rfl (by kernel_rfl) (fun _ _ _ h => h) (Or.inl ⟨by rfl, ?_⟩) ?_ ?_
                    rotate_left
                    · (intro w'; go_simp; with_reducible rfl)
                    rotate_left
                    · (simp only [Act.put, List.setIfInBounds_toArray, List.set_cons_zero, List.set_cons_succ]; rfl)
                    refine pure_ (i := 20) (N := (some 121)) (v := ?_) (a' := ?_) (lb 34 0x1fffff) rfl rfl (by kernel_rfl) (fun _ _ _ h => h) (Or.inl ⟨by rfl, ?_⟩) ?_ ?_
                    rotate_left
                    · (intro w'; go_simp; with_reducible rfl)
                    rotate_left
                    · (simp only [Act.put, List.setIfInBounds_toArray, List.set_cons_zero, List.set_cons_succ]; rfl)
                    refine pure_ (i := 21) (N := (some 122)) (v := undef) (a' := ?_) (lb 34 0x3fffff) rfl rfl (by kernel_rfl) (fun _ _ _ h => h) (Or.inr ⟨by rfl, rfl⟩) ?_ ?_
                    rotate_left
                    · (simp only [Act.put, List.setIfInBounds_toArray, List.set_cons_zero, List.set_cons_succ]; rfl)
                    refine pure_ (i := 22) (N := (some 123)) (v := undef) (a' := ?_) (lb 34 0x7fffff) rfl rfl (by kernel_rfl) (fun _ _ _ h => h) (Or.inr ⟨by rfl, rfl⟩) ?_ ?_
                    rotate_left
                    · (simp only [Act.put, List.setIfInBounds_toArray, List.set_cons_zero, List.set_cons_succ]; rfl)
                    refine pure_ (i := 23) (N := (some 124)) (v := undef) (a' := ?_) (lb 34 0xffffff) rfl rfl (by kernel_rfl) (fun _ _ _ h => h) (Or.inr ⟨by rfl, rfl⟩) ?_ ?_
                    rotate_left
                    · (simp only [Act.put, List.setIfInBounds_toArray, List.set_cons_zero, List.set_cons_succ]; rfl)
                    refine pure_ (i := 24) (N := (some 125)) (v := undef) (a' := ?_) (lb 34 0x1ffffff) rfl rfl (by kernel_rfl) (fun _ _ _ h => h) (Or.inr ⟨by rfl, rfl⟩) ?_ ?_
                    rotate_left
                    · (simp only [Act.put, List.setIfInBounds_toArray, List.set_cons_zero, List.set_cons_succ]; rfl)
                    refine pure_ (i := 25) (N := (some 126)) (v := ?_) (a' := ?_) (lb 34 0x3ffffff) rfl rfl (by kernel_rfl) (fun _ _ _ h => h) (Or.inl ⟨by rfl, ?_⟩) ?_ ?_
                    rotate_left
                    · (intro w'; go_simp; with_reducible rfl)
                    rotate_left
                    · (simp only [Act.put, List.setIfInBounds_toArray, List.set_cons_zero, List.set_cons_succ]; rfl)
                    refine pure_ (i := 26) (N := (some 127)) (v := ?_) (a' := ?_) (lb 34 0x7ffffff) rfl rfl (by kernel_rfl) (fun _ _ _ h => h) (Or.inl ⟨by rfl, ?_⟩) ?_ ?_
                    rotate_left
                    · (intro w'; go_simp; with_reducible rfl)
                    rotate_left
                    · (simp only [Act.put, List.setIfInBounds_toArray, List.set_cons_zero, List.set_cons_succ]; rfl)
                    refine pure_ (i := 27) (N := (some 128)) (v := undef) (a' := ?_) (lb 34 0xfffffff) rfl rfl (by kernel_rfl) (fun _ _ _ h => h) (Or.inr ⟨by rfl, rfl⟩) ?_ ?_
                    rotate_left
                    · (simp only [Act.put, List.setIfInBounds_toArray, List.set_cons_zero, List.set_cons_succ]; rfl)
                    refine pure_ (i := 29) (N := (some 130)) (v := undef) (a' := ?_) (lb 34 0x2fffffff) rfl rfl (by kernel_rfl) (fun _ _ _ h => h) (Or.inr ⟨by rfl, rfl⟩) ?_ ?_
                    rotate_left
                    · (simp only [Act.put, List.setIfInBounds_toArray, List.set_cons_zero, List.set_cons_succ]; rfl)
                    refine pure_ (i := 28) (N := (some 129)) (v := undef) (a' := ?_) (lb 34 0x3fffffff) rfl rfl (by kernel_rfl) (fun _ _ _ h => h) (Or.inr ⟨by rfl, rfl⟩) ?_ ?_
                    rotate_left
                    · (simp only [Act.put, List.setIfInBounds_toArray, List.set_cons_zero, List.set_cons_succ]; rfl)
                    refine pure_ (i := 30) (N := (some 131)) (v := undef) (a' := ?_) (lb 34 0x7fffffff) rfl rfl (by kernel_rfl) (fun _ _ _ h => h) (Or.inr ⟨by rfl, rfl⟩) ?_ ?_
                    rotate_left
                    · (simp only [Act.put, List.setIfInBounds_toArray, List.set_cons_zero, List.set_cons_succ]; rfl)
                    refine pure_ (i := 31) (N := (some 132)) (v := undef) (a' := ?_) (lb 34 0xffffffff) rfl rfl (by kernel_rfl) (fun _ _ _ h => h) (Or.inr ⟨by rfl, rfl⟩) ?_ ?_
                    rotate_left
                    · (simp only [Act.put, List.setIfInBounds_toArray, List.set_cons_zero, List.set_cons_succ]; rfl)
                    refine one_ (i := 32) (N := (some 133)) (lb 34 0x1ffffffff) rfl rfl (by kernel_rfl) (by decide) (fun K hK => ?_)
                    refine off_ (by rfl) ?_
                    refine hK.out _ _ hHeld (fun hHeld => ?_)
                    clear hK K
                    refine norm_ (a' := ?_) ?_ ?_
                    rotate_left
                    · (show Act.put _ (some 133) _ = _; simp only [Act.put, List.setIfInBounds_toArray, List.set_cons_zero, List.set_cons_succ]; rfl)
                    refine pure_ (i := 33) (N := (some 134)) (v := ?_) (a' := ?_) (lb 34 0x3ffffffff) rfl rfl (by kernel_rfl) (fun _ _ _ h => h) (Or.inl ⟨by rfl, ?_⟩) ?_ ?_
                    rotate_left
                    · (intro w'; go_simp; with_reducible rfl)
                    rotate_left
                    · (simp only [Act.put, List.setIfInBounds_toArray, List.set_cons_zero, List.set_cons_succ]; rfl)
                    refine done_ (by kernel_rfl) ?_
                    go_wp2
                    go_ret
                    exact ⟨ret_bool (good_not (fun h => by have := GS.left_ h HGS.out hlt; rw [← HX.out] at this; exact absurd this.2.1 (by omega))).symm, below_then HB1.out HB1.out.size (below_then HBQ.out HBQ.out.size (below_drew1 (Below.refl _ _)))⟩
                  · have e2 : decide ((g.terms.length : Int) + (nm : Int) < x.left) = false := decide_eq_false h2
                    by_cases h3 : (g.terms.length : Int) + (g.names.length : Int) ≤ x.left
                    · have e3 : decide ((g.terms.length : Int) + (g.names.length : Int) ≤ x.left) = true := decide_eq_true h3
                      go_wp2
                      simp only [← hwq]
                      refine start_ (n := 34) (S := fun w' => Below wq.heap.size wq w') (ds := []) (lb 34 0x0) (by kernel_rfl) rfl (by kernel_rfl) (below_drew1 (Below.refl _ _)) (fun hHeld => ?_)
                      refine pure_ (i := 0) (N := (some 101)) (v := ?_) (a' := ?_) (lb 34 0x1) rfl rfl (by kernel_rfl) (fun _ _ _ h => h) (Or.inl ⟨by rfl, ?_⟩) ?_ ?_
                      rotate_left
                      · (intro w'; go_simp; with_reducible rfl)
                      rotate_left
                      · (simp only [Act.put, List.setIfInBounds_toArray, List.set_cons_zero, List.set_cons_succ]; rfl)
                      refine pure_ (i := 2) (N := (some 103)) (v := ?_) (a' := ?_) (lb 34 0x5) rfl rfl (by kernel_rfl) (fun _ _ _ h => h) (Or.inl ⟨by rfl, ?_⟩) ?_ ?_
                      rotate_left
                      · (intro w'; go_simp; with_reducible rfl)
                      rotate_left
                      · (simp only [Act.put, List.setIfInBounds_toArray, List.set_cons_zero, List.set_cons_succ]; rfl)
                      refine take_ (i := 1) (N := (some 102)) (v := ?_) (a' := ?_) (lb 34 0x7) rfl rfl (by kernel_rfl) (fun _ _ _ h => h) (Or.inl ⟨by rfl, ?_⟩) hHeld ?_ ?_
                      rotate_left
                      · (rintro w' hS; have d2 := cell_at hS P2Q.out; have d0 := cell_at hS Q0.out; have d1 := cell_at hS Q1.out; go_simp; with_reducible rfl)
                      rotate_left
                      · (simp only [Act.put, List.setIfInBounds_toArray, List.set_cons_zero, List.set_cons_succ]; rfl)
                      refine pure_ (i := 3) (N := (some 104)) (v := ?_) (a' := ?_) (lb 34 0xf) rfl rfl (by kernel_rfl) (fun _ _ _ h => h) (Or.inl ⟨by rfl, ?_⟩) ?_ ?_
                      rotate_left
                      · (intro w'; go_simp; with_reducible rfl)
                      rotate_left
                      · (simp only [Act.put, List.setIfInBounds_toArray, List.set_cons_zero, List.set_cons_succ]; rfl)
                      refine pure_ (i := 4) (N := (some 105)) (v := ?_) (a' := ?_) (lb 34 0x1f) rfl rfl (by kernel_rfl) (fun _ _ _ h => h) (Or.inl ⟨by rfl, ?_⟩) ?_ ?_
                      rotate_left
                      · (intro w'; go_simp; with_reducible rfl)
                      rotate_left
                      · (simp only [Act.put, List.setIfInBounds_toArray, List.set_cons_zero, List.set_cons_succ]; rfl)
                      refine pure_ (i := 5) (N := (some 106)) (v := ?_) (a' := ?_) (lb 34 0x3f) rfl rfl (by kernel_rfl) (fun _ _ _ h => h) (Or.inl ⟨by rfl, ?_⟩) ?_ ?_
                      rotate_left
                      · (intro w'; go_simp; with_reducible rfl)
                      rotate_left
                      · (simp only [Act.put, List.setIfInBounds_toArray, List.set_cons_zero, List.set_cons_succ]; rfl)
                      refine pure_ (i := 7) (N := (some 108)) (v := ?_) (a' := ?_) (lb 34 0xbf) rfl rfl (by kernel_rfl) (fun _ _ _ h => h) (Or.inl ⟨by rfl, ?_⟩) ?_ ?_
                      rotate_left
                      · (intro w'; go_simp; with_reducible rfl)
                      rotate_left
                      · (simp only [Act.put, List.setIfInBounds_toArray, List.set_cons_zero, List.set_cons_succ]; rfl)
                      refine pure_ (i := 8) (N := (some 109)) (v := ?_) (a' := ?_) (lb 34 0x1bf) rfl rfl (by kernel_rfl) (fun _ _ _ h => h) (Or.inl ⟨by rfl, ?_⟩) ?_ ?_
                      rotate_left
                      · (intro w'; go_simp; with_reducible rfl)
                      rotate_left
                      · (simp only [Act.put, List.setIfInBounds_toArray, List.set_cons_zero, List.set_cons_succ]; rfl)
                      refine pure_ (i := 9) (N := (some 110)) (v := ?_) (a' := ?_) (lb 34 0x3bf) rfl rfl (by kernel_rfl) (fun _ _ _ h => h) (Or.inl ⟨by rfl, ?_⟩) ?_ ?_
                      rotate_left
                      · (intro w'; go_simp; with_reducible rfl)
                      rotate_left
                      · (simp only [Act.put, List.setIfInBounds_toArray, List.set_cons_zero, List.set_cons_succ]; rfl)
                      refine take_ (i := 6) (N := (some 107)) (v := ?_) (a' := ?_) (lb 34 0x3ff) rfl rfl (by kernel_rfl) (fun _ _ _ h => h) (Or.inl ⟨by rfl, ?_⟩) hHeld ?_ ?_
                      rotate_left
                      · (rintro w' hS; have d2 := cell_at hS P2Q.out; have d0 := cell_at hS Q0.out; have d1 := cell_at hS Q1.out; go_simp; with_reducible rfl)
                      rotate_left
                      · (simp only [Act.put, List.setIfInBounds_toArray, List.set_cons_zero, List.set_cons_succ]; rfl)
                      refine pure_ (i := 10) (N := (some 111)) (v := ?_) (a' := ?_) (lb 34 0x7ff) rfl rfl (by kernel_rfl) (fun _ _ _ h => h) (Or.inl ⟨by rfl, ?_⟩) ?_ ?_
                      rotate_left
                      · (intro w'; go_simp; with_reducible rfl)
                      rotate_left
                      · (simp only [Act.put, List.setIfInBounds_toArray, List.set_cons_zero, List.set_cons_succ]; rfl)
                      refine pure_ (i := 11) (N := (some 112)) (v := ?_) (a' := ?_) (lb 34 0xfff) rfl rfl (by kernel_rfl) (fun _ _ _ h => h) (Or.inl ⟨by rfl, ?_⟩) ?_ ?_
                      rotate_left
                      · (intro w'; go_simp; with_reducible rfl)
                      rotate_left
                      · (simp only [Act.put, List.setIfInBounds_toArray, List.set_cons_zero, List.set_cons_succ]; rfl)
                      refine pure_ (i := 12) (N := (some 113)) (v := ?_) (a' := ?_) (lb 34 0x1fff) rfl rfl (by kernel_rfl) (fun _ _ _ h => h) (Or.inl ⟨by rfl, ?_⟩) ?_ ?_
                      rotate_left
                      · (intro w'; go_simp; with_reducible rfl)
                      rotate_left
                      · (simp only [Act.put, List.setIfInBounds_toArray, List.set_cons_zero, List.set_cons_succ]; rfl)
                      refine pure_ (i := 13) (N := (some 114)) (v := ?_) (a' := ?_) (lb 34 0x3fff) rfl rfl (by kernel_rfl) (fun _ _ _ h => h) (Or.inl ⟨by rfl, ?_⟩) ?_ ?_
                      rotate_left
                      · (intro w'; go_simp; with_reducible rfl)
                      rotate_left
                      · (simp only [Act.put, List.setIfInBounds_toArray, List.set_cons_zero, List.set_cons_succ]; rfl)
                      refine pure_ (i := 15) (N := (some 116)) (v := ?_) (a' := ?_) (lb 34 0xbfff) rfl rfl (by kernel_rfl) (fun _ _ _ h => h) (Or.inl ⟨by rfl, ?_⟩) ?_ ?_
                      rotate_left
                      · (intro w'; go_simp; with_reducible rfl)
                      rotate_left
                      · (simp only [Act.put, List.setIfInBounds_toArray, List.set_cons_zero, List.set_cons_succ]; rfl)
                      refine pure_ (i := 16) (N := (some 117)) (v := ?_) (a' := ?_) (lb 34 0x1bfff) rfl rfl (by kernel_rfl) (fun _ _ _ h => h) (Or.inl ⟨by rfl, ?_⟩) ?_ ?_
                      rotate_left
                      · (intro w'; go_simp; with_reducible rfl)
                      rotate_left
                      · (simp only [Act.put, List.setIfInBounds_toArray, List.set_cons_zero, List.set_cons_succ]; rfl)
                      refine pure_ (i := 17) (N := (some 118)) (v := ?_) (a' := ?_) (lb 34 0x3bfff) rfl rfl (by kernel_rfl) (fun _ _ _ h => h) (Or.inl ⟨by rfl, ?_⟩) ?_ ?_
                      rotate_left
                      · (intro w'; go_simp; with_reducible rfl)
                      rotate_left
                      · (simp only [Act.put, List.setIfInBounds_toArray, List.set_cons_zero, List.set_cons_succ]; rfl)
                      refine take_ (i := 14) (N := (some 115)) (v := ?_) (a' := ?_) (lb 34 0x3ffff) rfl rfl (by kernel_rfl) (fun _ _ _ h => h) (Or.inl ⟨by rfl, ?_⟩) hHeld ?_ ?_
                      rotate_left
                      · (rintro w' hS; have d2 := cell_at hS P2Q.out; have d0 := cell_at hS Q0.out; have d1 := cell_at hS Q1.out; go_simp; with_reducible rfl)
                      rotate_left
                      · (simp only [Act.put, List.setIfInBounds_toArray, List.set_cons_zero, List.set_cons_succ]; rfl)
                      refine pure_ (i := 18) (N := (some 119)) (v := ?_) (a' := ?_) (lb 34 0x7ffff) rfl rfl (by kernel_rfl) (fun _ _ _ h => h) (Or.inl ⟨by rfl, ?_⟩) ?_ ?_
                      rotate_left
                      · (intro w'; go_simp; with_reducible rfl)
                      rotate_left
                      · (simp only [Act.put, List.setIfInBounds_toArray, List.set_cons_zero, List.set_cons_succ]; rfl)
                      refine pure_ (i := 19) (N := (some 120)) (v := ?_) (a' := ?_) (lb 34 0xfffff) rfl rfl (by kernel_rfl) (fun _ _ _ h => h) (Or.inl ⟨by rfl, ?_⟩) ?_ ?_
                      rotate_left
                      · (intro w'; go_simp; with_reducible rfl)
                      rotate_left
                      · (simp only [Act.put, List.setIfInBounds_toArray, List.set_cons_zero, List.set_cons_succ]; rfl)
                      refine pure_ (i := 20) (N := (some 121)) (v := ?_) (a' := ?_) (lb 34 0x1fffff) rfl rfl (by kernel_rfl) (fun _ _ _ h => h) (Or.inl ⟨by rfl, ?_⟩) ?_ ?_
                      rotate_left
                      · (intro w'; go_simp; with_reducible rfl)
                      rotate_left
                      · (simp only [Act.put, List.setIfInBounds_toArray, List.set_cons_zero, List.set_cons_succ]; rfl)
                      refine pure_ (i := 21) (N := (some 122)) (v := undef) (a' := ?_) (lb 34 0x3fffff) rfl rfl (by kernel_rfl) (fun _ _ _ h => h) (Or.inr ⟨by rfl, rfl⟩) ?_ ?_
                      rotate_left
                      · (simp only [Act.put, List.setIfInBounds_toArray, List.set_cons_zero, List.set_cons_succ]; rfl)
                      refine pure_ (i := 22) (N := (some 123)) (v := undef) (a' := ?_) (lb 34 0x7fffff) rfl rfl (by kernel_rfl) (fun _ _ _ h => h) (Or.inr ⟨by rfl, rfl⟩) ?_ ?_
                      rotate_left
                      · (simp only [Act.put, List.setIfInBounds_toArray, List.set_cons_zero, List.set_cons_succ]; rfl)
                      refine pure_ (i := 23) (N := (some 124)) (v := undef) (a' := ?_) (lb 34 0xffffff) rfl rfl (by kernel_rfl) (fun _ _ _ h => h) (Or.inr ⟨by rfl, rfl⟩) ?_ ?_
                      rotate_left
                      · (simp only [Act.put, List.setIfInBounds_toArray, List.set_cons_zero, List.set_cons_succ]; rfl)
                      refine pure_ (i := 24) (N := (some 125)) (v := undef) (a' := ?_) (lb 34 0x1ffffff) rfl rfl (by kernel_rfl) (fun _ _ _ h => h) (Or.inr ⟨by rfl, rfl⟩) ?_ ?_
                      rotate_left
                      · (simp only [Act.put, List.setIfInBounds_toArray, List.set_cons_zero, List.set_cons_succ]; rfl)
                      refine pure_ (i := 25) (N := (some 126)) (v := ?_) (a' := ?_) (lb 34 0x3ffffff) rfl rfl (by kernel_rfl) (fun _ _ _ h => h) (Or.inl ⟨by rfl, ?_⟩) ?_ ?_
                      rotate_left
                      · (intro w'; go_simp; with_reducible rfl)
                      rotate_left
                      · (simp only [Act.put, List.setIfInBounds_toArray, List.set_cons_zero, List.set_cons_succ]; rfl)
                      refine pure_ (i := 26) (N := (some 127)) (v := ?_) (a' := ?_) (lb 34 0x7ffffff) rfl rfl (by kernel_rfl) (fun _ _ _ h => h) (Or.inl ⟨by rfl, ?_⟩) ?_ ?_
                      rotate_left
                      · (intro w'; go_simp; with_reducible rfl)
                      rotate_left
                      · (simp only [Act.put, List.setIfInBounds_toArray, List.set_cons_zero, List.set_cons_succ]; rfl)
                      refine pure_ (i := 27) (N := (some 128)) (v := undef) (a' := ?_) (lb 34 0xfffffff) rfl rfl (by kernel_rfl) (fun _ _ _ h => h) (Or.inr ⟨by rfl, rfl⟩) ?_ ?_
                      rotate_left
                      · (simp only [Act.put, List.setIfInBounds_toArray, List.set_cons_zero, List.set_cons_succ]; rfl)
                      refine pure_ (i := 29) (N := (some 130)) (v := undef) (a' := ?_) (lb 34 0x2fffffff) rfl rfl (by kernel_rfl) (fun _ _ _ h => h) (Or.inr ⟨by rfl, rfl⟩) ?_ ?_
                      rotate_left
                      · (simp only [Act.put, List.setIfInBounds_toArray, List.set_cons_zero, List.set_cons_succ]; rfl)
                      refine pure_ (i := 28) (N := (some 129)) (v := undef) (a' := ?_) (lb 34 0x3fffffff) rfl rfl (by kernel_rfl) (fun _ _ _ h => h) (Or.inr ⟨by rfl, rfl⟩) ?_ ?_
                      rotate_left
                      · (simp only [Act.put, List.setIfInBounds_toArray, List.set_cons_zero, List.set_cons_succ]; rfl)
                      refine pure_ (i := 30) (N := (some 131)) (v := undef) (a' := ?_) (lb 34 0x7fffffff) rfl rfl (by kernel_rfl) (fun _ _ _ h => h) (Or.inr ⟨by rfl, rfl⟩) ?_ ?_
                      rotate_left
                      · (simp only [Act.put, List.setIfInBounds_toArray, List.set_cons_zero, List.set_cons_succ]; rfl)
                      refine pure_ (i := 31) (N := (some 132)) (v := undef) (a' := ?_) (lb 34 0xffffffff) rfl rfl (by kernel_rfl) (fun _ _ _ h => h) (Or.inr ⟨by rfl, rfl⟩) ?_ ?_
                      rotate_left
                      · (simp only [Act.put, List.setIfInBounds_toArray, List.set_cons_zero, List.set_cons_succ]; rfl)
                      refine one_ (i := 32) (N := (some 133)) (lb 34 0x1ffffffff) rfl rfl (by kernel_rfl) (by decide) (fun K hK => ?_)
                      refine off_ (by rfl) ?_
                      refine hK.out _ _ hHeld (fun hHeld => ?_)
                      clear hK K
                      refine norm_ (a' := ?_) ?_ ?_
                      rotate_left
                      · (show Act.put _ (some 133) _ = _; simp only [Act.put, List.setIfInBounds_toArray, List.set_cons_zero, List.set_cons_succ]; rfl)
                      refine pure_ (i := 33) (N := (some 134)) (v := ?_) (a' := ?_) (lb 34 0x3ffffffff) rfl rfl (by kernel_rfl) (fun _ _ _ h => h) (Or.inl ⟨by rfl, ?_⟩) ?_ ?_
                      rotate_left
                      · (intro w'; go_simp; with_reducible rfl)
                      rotate_left
                      · (simp only [Act.put, List.setIfInBounds_toArray, List.set_cons_zero, List.set_cons_succ]; rfl)
                      refine done_ (by kernel_rfl) ?_
                      go_wp2
                      go_ret
                      exact ⟨ret_bool (good_not (fun h => by have := GS.left_ h HGS.out hlt; rw [← HX.out] at this; exact absurd this.2.2.1 (by omega))).symm, below_then HB1.out HB1.out.size (below_then HBQ.out HBQ.out.size (below_drew1 (Below.refl _ _)))⟩
                    · have e3 : decide ((g.terms.length : Int) + (g.names.length : Int) ≤ x.left) = false := decide_eq_false h3
                      by_cases h4 : (8 : Int) < (x.right.length : Int)
                      · have e4 : decide ((8 : Int) < (x.right.length : Int)) = true := decide_eq_true h4
                        go_wp2
                        simp only [← hwq]
                        refine start_ (n := 34) (S := fun w' => Below wq.heap.size wq w') (ds := []) (lb 34 0x0) (by kernel_rfl) rfl (by kernel_rfl) (below_drew1 (Below.refl _ _)) (fun hHeld => ?_)
                        refine pure_ (i := 0) (N := (some 101)) (v := ?_) (a' := ?_) (lb 34 0x1) rfl rfl (by kernel_rfl) (fun _ _ _ h => h) (Or.inl ⟨by rfl, ?_⟩) ?_ ?_
                        rotate_left
                        · (intro w'; go_simp; with_reducible rfl)
                        rotate_left
                        · (simp only [Act.put, List.setIfInBounds_toArray, List.set_cons_zero, List.set_cons_succ]; rfl)
                        refine pure_ (i := 2) (N := (some 103)) (v := ?_) (a' := ?_) (lb 34 0x5) rfl rfl (by kernel_rfl) (fun _ _ _ h => h) (Or.inl ⟨by rfl, ?_⟩) ?_ ?_
                        rotate_left
                        · (intro w'; go_simp; with_reducible rfl)
                        rotate_left
                        · (simp only [Act.put, List.setIfInBounds_toArray, List.set_cons_zero, List.set_cons_succ]; rfl)
                        refine take_ (i := 1) (N := (some 102)) (v := ?_) (a' := ?_) (lb 34 0x7) rfl rfl (by kernel_rfl) (fun _ _ _ h => h) (Or.inl ⟨by rfl, ?_⟩) hHeld ?_ ?_
                        rotate_left
                        · (rintro w' hS; have d2 := cell_at hS P2Q.out; have d0 := cell_at hS Q0.out; have d1 := cell_at hS Q1.out; go_simp; with_reducible rfl)
                        rotate_left
                        · (simp only [Act.put, List.setIfInBounds_toArray, List.set_cons_zero, List.set_cons_succ]; rfl)
                        refine pure_ (i := 3) (N := (some 104)) (v := ?_) (a' := ?_) (lb 34 0xf) rfl rfl (by kernel_rfl) (fun _ _ _ h => h) (Or.inl ⟨by rfl, ?_⟩) ?_ ?_
                        rotate_left
                        · (intro w'; go_simp; with_reducible rfl)
                        rotate_left
                        · (simp only [Act.put, List.setIfInBounds_toArray, List.set_cons_zero, List.set_cons_succ]; rfl)
                        refine pure_ (i := 4) (N := (some 105)) (v := ?_) (a' := ?_) (lb 34 0x1f) rfl rfl (by kernel_rfl) (fun _ _ _ h => h) (Or.inl ⟨by rfl, ?_⟩) ?_ ?_
                        rotate_left
                        · (intro w'; go_simp; with_reducible rfl)
                        rotate_left
                        · (simp only [Act.put, List.setIfInBounds_toArray, List.set_cons_zero, List.set_cons_succ]; rfl)
                        refine pure_ (i := 5) (N := (some 106)) (v := ?_) (a' := ?_) (lb 34 0x3f) rfl rfl (by kernel_rfl) (fun _ _ _ h => h) (Or.inl ⟨by rfl, ?_⟩) ?_ ?_
                        rotate_left
                        · (intro w'; go_simp; with_reducible rfl)
                        rotate_left
                        · (simp only [Act.put, List.setIfInBounds_toArray, List.set_cons_zero, List.set_cons_succ]; rfl)
                        refine pure_ (i := 7) (N := (some 108)) (v := ?_) (a' := ?_) (lb 34 0xbf) rfl rfl (by kernel_rfl) (fun _ _ _ h => h) (Or.inl ⟨by rfl, ?_⟩) ?_ ?_
                        rotate_left
                        · (intro w'; go_simp; with_reducible rfl)
                        rotate_left
                        · (simp only [Act.put, List.setIfInBounds_toArray, List.set_cons_zero, List.set_cons_succ]; rfl)
                        refine pure_ (i := 8) (N := (some 109)) (v := ?_) (a' := ?_) (lb 34 0x1bf) rfl rfl (by kernel_rfl) (fun _ _ _ h => h) (Or.inl ⟨by rfl, ?_⟩) ?_ ?_
                        rotate_left
                        · (intro w'; go_simp; with_reducible rfl)
                        rotate_left
                        · (simp only [Act.put, List.setIfInBounds_toArray, List.set_cons_zero, List.set_cons_succ]; rfl)
                        refine pure_ (i := 9) (N := (some 110)) (v := ?_) (a' := ?_) (lb 34 0x3bf) rfl rfl (by kernel_rfl) (fun _ _ _ h => h) (Or.inl ⟨by rfl, ?_⟩) ?_ ?_
                        rotate_left
                        · (intro w'; go_simp; with_reducible rfl)
                        rotate_left
                        · (simp only [Act.put, List.setIfInBounds_toArray, List.set_cons_zero, List.set_cons_succ]; rfl)
                        refine take_ (i := 6) (N := (some 107)) (v := ?_) (a' := ?_) (lb 34 0x3ff) rfl rfl (by kernel_rfl) (fun _ _ _ h => h) (Or.inl ⟨by rfl, ?_⟩) hHeld ?_ ?_
                        rotate_left
                        · (rintro w' hS; have d2 := cell_at hS P2Q.out; have d0 := cell_at hS Q0.out; have d1 := cell_at hS Q1.out; go_simp; with_reducible rfl)
                        rotate_left
                        · (simp only [Act.put, List.setIfInBounds_toArray, List.set_cons_zero, List.set_cons_succ]; rfl)
                        refine pure_ (i := 10) (N := (some 111)) (v := ?_) (a' := ?_) (lb 34 0x7ff) rfl rfl (by kernel_rfl) (fun _ _ _ h => h) (Or.inl ⟨by rfl, ?_⟩) ?_ ?_
                        rotate_left
                        · (intro w'; go_simp; with_reducible rfl)
                        rotate_left
                        · (simp only [Act.put, List.setIfInBounds_toArray, List.set_cons_zero, List.set_cons_succ]; rfl)
                        refine pure_ (i := 11) (N := (some 112)) (v := ?_) (a' := ?_) (lb 34 0xfff) rfl rfl (by kernel_rfl) (fun _ _ _ h => h) (Or.inl ⟨by rfl, ?_⟩) ?_ ?_
                        rotate_left
                        · (intro w'; go_simp; with_reducible rfl)
                        rotate_left
                        · (simp only [Act.put, List.setIfInBounds_toArray, List.set_cons_zero, List.set_cons_succ]; rfl)
                        refine pure_ (i := 12) (N := (some 113)) (v := ?_) (a' := ?_) (lb 34 0x1fff) rfl rfl (by kernel_rfl) (fun _ _ _ h => h) (Or.inl ⟨by rfl, ?_⟩) ?_ ?_
                        rotate_left
                        · (intro w'; go_simp; with_reducible rfl)
                        rotate_left
                        · (simp only [Act.put, List.setIfInBounds_toArray, List.set_cons_zero, List.set_cons_succ]; rfl)
                        refine pure_ (i := 13) (N := (some 114)) (v := ?_) (a' := ?_) (lb 34 0x3fff) rfl rfl (by kernel_rfl) (fun _ _ _ h => h) (Or.inl ⟨by rfl, ?_⟩) ?_ ?_
                        rotate_left
                        · (intro w'; go_simp; with_reducible rfl)
                        rotate_left
                        · (simp only [Act.put, List.setIfInBounds_toArray, List.set_cons_zero, List.set_cons_succ]; rfl)
                        refine pure_ (i := 15) (N := (some 116)) (v := ?_) (a' := ?_) (lb 34 0xbfff) rfl rfl (by kernel_rfl) (fun _ _ _ h => h) (Or.inl ⟨by rfl, ?_⟩) ?_ ?_
                        rotate_left
                        · (intro w'; go_simp; with_reducible rfl)
                        rotate_left
                        · (simp only [Act.put, List.setIfInBounds_toArray, List.set_cons_zero, List.set_cons_succ]; rfl)
                        refine pure_ (i := 16) (N := (some 117)) (v := ?_) (a' := ?_) (lb 34 0x1bfff) rfl rfl (by kernel_rfl) (fun _ _ _ h => h) (Or.inl ⟨by rfl, ?_⟩) ?_ ?_
                        rotate_left
                        · (intro w'; go_simp; with_reducible rfl)
                        rotate_left
                        · (simp only [Act.put, List.setIfInBounds_toArray, List.set_cons_zero, List.set_cons_succ]; rfl)
                        refine pure_ (i := 17) (N := (some 118)) (v := ?_) (a' := ?_) (lb 34 0x3bfff) rfl rfl (by kernel_rfl) (fun _ _ _ h => h) (Or.inl ⟨by rfl, ?_⟩) ?_ ?_
                        rotate_left
                        · (intro w'; go_simp; with_reducible rfl)
                        rotate_left
                        · (simp only [Act.put, List.setIfInBounds_toArray, List.set_cons_zero, List.set_cons_succ]; rfl)
                        refine take_ (i := 14) (N := (some 115)) (v := ?_) (a' := ?_) (lb 34 0x3ffff) rfl rfl (by kernel_rfl) (fun _ _ _ h => h) (Or.inl ⟨by rfl, ?_⟩) hHeld ?_ ?_
                        rotate_left
                        · (rintro w' hS; have d2 := cell_at hS P2Q.out; have d0 := cell_at hS Q0.out; have d1 := cell_at hS Q1.out; go_simp; with_reducible rfl)
                        rotate_left
                        · (simp only [Act.put, List.setIfInBounds_toArray, List.set_cons_zero, List.set_cons_succ]; rfl)
                        refine pure_ (i := 18) (N := (some 119)) (v := ?_) (a' := ?_) (lb 34 0x7ffff) rfl rfl (by kernel_rfl) (fun _ _ _ h => h) (Or.inl ⟨by rfl, ?_⟩) ?_ ?_
                        rotate_left
                        · (intro w'; go_simp; with_reducible rfl)
                        rotate_left
                        · (simp only [Act.put, List.setIfInBounds_toArray, List.set_cons_zero, List.set_cons_succ]; rfl)
                        refine pure_ (i := 19) (N := (some 120)) (v := ?_) (a' := ?_) (lb 34 0xfffff) rfl rfl (by kernel_rfl) (fun _ _ _ h => h) (Or.inl ⟨by rfl, ?_⟩) ?_ ?_
                        rotate_left
                        · (intro w'; go_simp; with_reducible rfl)
                        rotate_left
                        · (simp only [Act.put, List.setIfInBounds_toArray, List.set_cons_zero, List.set_cons_succ]; rfl)
                        refine pure_ (i := 20) (N := (some 121)) (v := ?_) (a' := ?_) (lb 34 0x1fffff) rfl rfl (by kernel_rfl) (fun _ _ _ h => h) (Or.inl ⟨by rfl, ?_⟩) ?_ ?_
                        rotate_left
                        · (intro w'; go_simp; with_reducible rfl)
                        rotate_left
                        · (simp only [Act.put, List.setIfInBounds_toArray, List.set_cons_zero, List.set_cons_succ]; rfl)
                        refine pure_ (i := 21) (N := (some 122)) (v := ?_) (a' := ?_) (lb 34 0x3fffff) rfl rfl (by kernel_rfl) (fun _ _ _ h => h) (Or.inl ⟨by rfl, ?_⟩) ?_ ?_
                        rotate_left
                        · (intro w'; go_simp; with_reducible rfl)
                        rotate_left
                        · (simp only [Act.put, List.setIfInBounds_toArray, List.set_cons_zero, List.set_cons_succ]; rfl)
                        refine take_ (i := 22) (N := (some 123)) (v := ?_) (a' := ?_) (lb 34 0x7fffff) rfl rfl (by kernel_rfl) (fun _ _ _ h => h) (Or.inl ⟨by rfl, ?_⟩) hHeld ?_ ?_
                        rotate_left
                        · (rintro w' hS; have d2 := cell_at hS P2Q.out; have d0 := cell_at hS Q0.out; have d1 := cell_at hS Q1.out; go_simp; with_reducible rfl)
                        rotate_left
                        · (simp only [Act.put, List.setIfInBounds_toArray, List.set_cons_zero, List.set_cons_succ]; rfl)
                        refine pure_ (i := 23) (N := (some 124)) (v := ?_) (a' := ?_) (lb 34 0xffffff) rfl rfl (by kernel_rfl) (fun _ _ _ h => h) (Or.inl ⟨by rfl, ?_⟩) ?_ ?_
                        rotate_left
                        · (intro w'; go_simp; with_reducible rfl)
                        rotate_left
                        · (simp only [Act.put, List.setIfInBounds_toArray, List.set_cons_zero, List.set_cons_succ]; rfl)
                        refine pure_ (i := 24) (N := (some 125)) (v := ?_) (a' := ?_) (lb 34 0x1ffffff) rfl rfl (by kernel_rfl) (fun _ _ _ h => h) (Or.inl ⟨by rfl, ?_⟩) ?_ ?_
                        rotate_left
                        · (intro w'; go_simp; with_reducible rfl)
                        rotate_left
                        · (simp only [Act.put, List.setIfInBounds_toArray, List.set_cons_zero, List.set_cons_succ]; rfl)
                        refine pure_ (i := 25) (N := (some 126)) (v := ?_) (a' := ?_) (lb 34 0x3ffffff) rfl rfl (by kernel_rfl) (fun _ _ _ h => h) (Or.inl ⟨by rfl, ?_⟩) ?_ ?_
                        rotate_left
                        · (intro w'; go_simp; with_reducible rfl)
                        rotate_left
                        · (simp only [Act.put, List.setIfInBounds_toArray, List.set_cons_zero, List.set_cons_succ]; rfl)
                        refine pure_ (i := 26) (N := (some 127)) (v := ?_) (a' := ?_) (lb 34 0x7ffffff) rfl rfl (by kernel_rfl) (fun _ _ _ h => h) (Or.inl ⟨by rfl, ?_⟩) ?_ ?_
                        rotate_left
                        · (intro w'; go_simp; with_reducible rfl)
                        rotate_left
                        · (simp only [Act.put, List.setIfInBounds_toArray, List.set_cons_zero, List.set_cons_succ]; rfl)
                        refine pure_ (i := 27) (N := (some 128)) (v := undef) (a' := ?_) (lb 34 0xfffffff) rfl rfl (by kernel_rfl) (fun _ _ _ h => h) (Or.inr ⟨by rfl, rfl⟩) ?_ ?_
                        rotate_left
                        · (simp only [Act.put, List.setIfInBounds_toArray, List.set_cons_zero, List.set_cons_succ]; rfl)
                        refine pure_ (i := 29) (N := (some 130)) (v := undef) (a' := ?_) (lb 34 0x2fffffff) rfl rfl (by kernel_rfl) (fun _ _ _ h => h) (Or.inr ⟨by rfl, rfl⟩) ?_ ?_
                        rotate_left
                        · (simp only [Act.put, List.setIfInBounds_toArray, List.set_cons_zero, List.set_cons_succ]; rfl)
                        refine pure_ (i := 28) (N := (some 129)) (v := undef) (a' := ?_) (lb 34 0x3fffffff) rfl rfl (by kernel_rfl) (fun _ _ _ h => h) (Or.inr ⟨by rfl, rfl⟩) ?_ ?_
                        rotate_left
                        · (simp only [Act.put, List.setIfInBounds_toArray, List.set_cons_zero, List.set_cons_succ]; rfl)
                        refine pure_ (i := 30) (N := (some 131)) (v := undef) (a' := ?_) (lb 34 0x7fffffff) rfl rfl (by kernel_rfl) (fun _ _ _ h => h) (Or.inr ⟨by rfl, rfl⟩) ?_ ?_
                        rotate_left
                        · (simp only [Act.put, List.setIfInBounds_toArray, List.set_cons_zero, List.set_cons_succ]; rfl)
                        refine pure_ (i := 31) (N := (some 132)) (v := undef) (a' := ?_) (lb 34 0xffffffff) rfl rfl (by kernel_rfl) (fun _ _ _ h => h) (Or.inr ⟨by rfl, rfl⟩) ?_ ?_
                        rotate_left
                        · (simp only [Act.put, List.setIfInBounds_toArray, List.set_cons_zero, List.set_cons_succ]; rfl)
                        refine one_ (i := 32) (N := (some 133)) (lb 34 0x1ffffffff) rfl rfl (by kernel_rfl) (by decide) (fun K hK => ?_)
                        refine off_ (by rfl) ?_
                        refine hK.out _ _ hHeld (fun hHeld => ?_)
                        clear hK K
                        refine norm_ (a' := ?_) ?_ ?_
                        rotate_left
                        · (show Act.put _ (some 133) _ = _; simp only [Act.put, List.setIfInBounds_toArray, List.set_cons_zero, List.set_cons_succ]; rfl)
                        refine pure_ (i := 33) (N := (some 134)) (v := ?_) (a' := ?_) (lb 34 0x3ffffffff) rfl rfl (by kernel_rfl) (fun _ _ _ h => h) (Or.inl ⟨by rfl, ?_⟩) ?_ ?_
                        rotate_left
                        · (intro w'; go_simp; with_reducible rfl)
                        rotate_left
                        · (simp only [Act.put, List.setIfInBounds_toArray, List.set_cons_zero, List.set_cons_succ]; rfl)
                        refine done_ (by kernel_rfl) ?_
                        go_wp2
                        go_ret
                        exact ⟨ret_bool (good_not (fun h => by have := GS.left_ h HGS.out hlt; rw [← HX.out] at this; exact absurd this.2.2.2.1 (by omega))).symm, below_then HB1.out HB1.out.size (below_then HBQ.out HBQ.out.size (below_drew1 (Below.refl _ _)))⟩
                      · have e4 : decide ((8 : Int) < (x.right.length : Int)) = false := decide_eq_false h4
                        cases hh : (g.rules.take i).any fun y => decide (y = x) with
                        | true =>
                          have HHAS := Aside0.mk hh
                          clear hh
                          go_wp2
                          simp only [← hwq]
                          refine start_ (n := 34) (S := fun w' => Below wq.heap.size wq w') (ds := []) (lb 34 0x0) (by kernel_rfl) rfl (by kernel_rfl) (below_drew1 (Below.refl _ _)) (fun hHeld => ?_)
                          refine pure_ (i := 0) (N := (some 101)) (v := ?_) (a' := ?_) (lb 34 0x1) rfl rfl (by kernel_rfl) (fun _ _ _ h => h) (Or.inl ⟨by rfl, ?_⟩) ?_ ?_
                          rotate_left
                          · (intro w'; go_simp; with_reducible rfl)
                          rotate_left
                          · (simp only [Act.put, List.setIfInBounds_toArray, List.set_cons_zero, List.set_cons_succ]; rfl)
                          refine pure_ (i := 2) (N := (some 103)) (v := ?_) (a' := ?_) (lb 34 0x5) rfl rfl (by kernel_rfl) (fun _ _ _ h => h) (Or.inl ⟨by rfl, ?_⟩) ?_ ?_
                          rotate_left
                          · (intro w'; go_simp; with_reducible rfl)
                          rotate_left
                          · (simp only [Act.put, List.setIfInBounds_toArray, List.set_cons_zero, List.set_cons_succ]; rfl)
                          refine take_ (i := 1) (N := (some 102)) (v := ?_) (a' := ?_) (lb 34 0x7) rfl rfl (by kernel_rfl) (fun _ _ _ h => h) (Or.inl ⟨by rfl, ?_⟩) hHeld ?_ ?_
                          rotate_left
                          · (rintro w' hS; have d2 := cell_at hS P2Q.out; have d0 := cell_at hS Q0.out; have d1 := cell_at hS Q1.out; go_simp; with_reducible rfl)
                          rotate_left
                          · (simp only [Act.put, List.setIfInBounds_toArray, List.set_cons_zero, List.set_cons_succ]; rfl)
                          refine pure_ (i := 3) (N := (some 104)) (v := ?_) (a' := ?_) (lb 34 0xf) rfl rfl (by kernel_rfl) (fun _ _ _ h => h) (Or.inl ⟨by rfl, ?_⟩) ?_ ?_
                          rotate_left
                          · (intro w'; go_simp; with_reducible rfl)
                          rotate_left
                          · (simp only [Act.put, List.setIfInBounds_toArray, List.set_cons_zero, List.set_cons_succ]; rfl)
                          refine pure_ (i := 4) (N := (some 105)) (v := ?_) (a' := ?_) (lb 34 0x1f) rfl rfl (by kernel_rfl) (fun _ _ _ h => h) (Or.inl ⟨by rfl, ?_⟩) ?_ ?_
                          rotate_left
                          · (intro w'; go_simp; with_reducible rfl)
                          rotate_left
                          · (simp only [Act.put, List.setIfInBounds_toArray, List.set_cons_zero, List.set_cons_succ]; rfl)
                          refine pure_ (i := 5) (N := (some 106)) (v := ?_) (a' := ?_) (lb 34 0x3f) rfl rfl (by kernel_rfl) (fun _ _ _ h => h) (Or.inl ⟨by rfl, ?_⟩) ?_ ?_
                          rotate_left
                          · (intro w'; go_simp; with_reducible rfl)
                          rotate_left
                          · (simp only [Act.put, List.setIfInBounds_toArray, List.set_cons_zero, List.set_cons_succ]; rfl)
                          refine pure_ (i := 7) (N := (some 108)) (v := ?_) (a' := ?_) (lb 34 0xbf) rfl rfl (by kernel_rfl) (fun _ _ _ h => h) (Or.inl ⟨by rfl, ?_⟩) ?_ ?_
                          rotate_left
                          · (intro w'; go_simp; with_reducible rfl)
                          rotate_left
                          · (simp only [Act.put, List.setIfInBounds_toArray, List.set_cons_zero, List.set_cons_succ]; rfl)
                          refine pure_ (i := 8) (N := (some 109)) (v := ?_) (a' := ?_) (lb 34 0x1bf) rfl rfl (by kernel_rfl) (fun _ _ _ h => h) (Or.inl ⟨by rfl, ?_⟩) ?_ ?_
                          rotate_left
                          · (intro w'; go_simp; with_reducible rfl)
                          rotate_left
                          · (simp only [Act.put, List.setIfInBounds_toArray, List.set_cons_zero, List.set_cons_succ]; rfl)
                          refine pure_ (i := 9) (N := (some 110)) (v := ?_) (a' := ?_) (lb 34 0x3bf) rfl rfl (by kernel_rfl) (fun _ _ _ h => h) (Or.inl ⟨by rfl, ?_⟩) ?_ ?_
                          rotate_left
                          · (intro w'; go_simp; with_reducible rfl)
                          rotate_left
                          · (simp only [Act.put, List.setIfInBounds_toArray, List.set_cons_zero, List.set_cons_succ]; rfl)
                          refine take_ (i := 6) (N := (some 107)) (v := ?_) (a' := ?_) (lb 34 0x3ff) rfl rfl (by kernel_rfl) (fun _ _ _ h => h) (Or.inl ⟨by rfl, ?_⟩) hHeld ?_ ?_
                          rotate_left
                          · (rintro w' hS; have d2 := cell_at hS P2Q.out; have d0 := cell_at hS Q0.out; have d1 := cell_at hS Q1.out; go_simp; with_reducible rfl)
                          rotate_left
                          · (simp only [Act.put, List.setIfInBounds_toArray, List.set_cons_zero, List.set_cons_succ]; rfl)
                          refine pure_ (i := 10) (N := (some 111)) (v := ?_) (a' := ?_) (lb 34 0x7ff) rfl rfl (by kernel_rfl) (fun _ _ _ h => h) (Or.inl ⟨by rfl, ?_⟩) ?_ ?_
                          rotate_left
                          · (intro w'; go_simp; with_reducible rfl)
                          rotate_left
                          · (simp only [Act.put, List.setIfInBounds_toArray, List.set_cons_zero, List.set_cons_succ]; rfl)
                          refine pure_ (i := 11) (N := (some 112)) (v := ?_) (a' := ?_) (lb 34 0xfff) rfl rfl (by kernel_rfl) (fun _ _ _ h => h) (Or.inl ⟨by rfl, ?_⟩) ?_ ?_
                          rotate_left
                          · (intro w'; go_simp; with_reducible rfl)
                          rotate_left
                          · (simp only [Act.put, List.setIfInBounds_toArray, List.set_cons_zero, List.set_cons_succ]; rfl)
                          refine pure_ (i := 12) (N := (some 113)) (v := ?_) (a' := ?_) (lb 34 0x1fff) rfl rfl (by kernel_rfl) (fun _ _ _ h => h) (Or.inl ⟨by rfl, ?_⟩) ?_ ?_
                          rotate_left
                          · (intro w'; go_simp; with_reducible rfl)
                          rotate_left
                          · (simp only [Act.put, List.setIfInBounds_toArray, List.set_cons_zero, List.set_cons_succ]; rfl)
                          refine pure_ (i := 13) (N := (some 114)) (v := ?_) (a' := ?_) (lb 34 0x3fff) rfl rfl (by kernel_rfl) (fun _ _ _ h => h) (Or.inl ⟨by rfl, ?_⟩) ?_ ?_
                          rotate_left
                          · (intro w'; go_simp; with_reducible rfl)
                          rotate_left
                          · (simp only [Act.put, List.setIfInBounds_toArray, List.set_cons_zero, List.set_cons_succ]; rfl)
                          refine pure_ (i := 15) (N := (some 116)) (v := ?_) (a' := ?_) (lb 34 0xbfff) rfl rfl (by kernel_rfl) (fun _ _ _ h => h) (Or.inl ⟨by rfl, ?_⟩) ?_ ?_
                          rotate_left
                          · (intro w'; go_simp; with_reducible rfl)
                          rotate_left
                          · (simp only [Act.put, List.setIfInBounds_toArray, List.set_cons_zero, List.set_cons_succ]; rfl)
                          refine pure_ (i := 16) (N := (some 117)) (v := ?_) (a' := ?_) (lb 34 0x1bfff) rfl rfl (by kernel_rfl) (fun _ _ _ h => h) (Or.inl ⟨by rfl, ?_⟩) ?_ ?_
                          rotate_left
                          · (intro w'; go_simp; with_reducible rfl)
                          rotate_left
                          · (simp only [Act.put, List.setIfInBounds_toArray, List.set_cons_zero, List.set_cons_succ]; rfl)
                          refine pure_ (i := 17) (N := (some 118)) (v := ?_) (a' := ?_) (lb 34 0x3bfff) rfl rfl (by kernel_rfl) (fun _ _ _ h => h) (Or.inl ⟨by rfl, ?_⟩) ?_ ?_
                          rotate_left
                          · (intro w'; go_simp; with_reducible rfl)
                          rotate_left
                          · (simp only [Act.put, List.setIfInBounds_toArray, List.set_cons_zero, List.set_cons_succ]; rfl)
                          refine take_ (i := 14) (N := (some 115)) (v := ?_) (a' := ?_) (lb 34 0x3ffff) rfl rfl (by kernel_rfl) (fun _ _ _ h => h) (Or.inl ⟨by rfl, ?_⟩) hHeld ?_ ?_
                          rotate_left
                          · (rintro w' hS; have d2 := cell_at hS P2Q.out; have d0 := cell_at hS Q0.out; have d1 := cell_at hS Q1.out; go_simp; with_reducible rfl)
                          rotate_left
                          · (simp only [Act.put, List.setIfInBounds_toArray, List.set_cons_zero, List.set_cons_succ]; rfl)
                          refine pure_ (i := 18) (N := (some 119)) (v := ?_) (a' := ?_) (lb 34 0x7ffff) rfl rfl (by kernel_rfl) (fun _ _ _ h => h) (Or.inl ⟨by rfl, ?_⟩) ?_ ?_
                          rotate_left
                          · (intro w'; go_simp; with_reducible rfl)
                          rotate_left
                          · (simp only [Act.put, List.setIfInBounds_toArray, List.set_cons_zero, List.set_cons_succ]; rfl)
                          refine pure_ (i := 19) (N := (some 120)) (v := ?_) (a' := ?_) (lb 34 0xfffff) rfl rfl (by kernel_rfl) (fun _ _ _ h => h) (Or.inl ⟨by rfl, ?_⟩) ?_ ?_
                          rotate_left
                          · (intro w'; go_simp; with_reducible rfl)
                          rotate_left
                          · (simp only [Act.put, List.setIfInBounds_toArray, List.set_cons_zero, List.set_cons_succ]; rfl)
                          refine pure_ (i := 20) (N := (some 121)) (v := ?_) (a' := ?_) (lb 34 0x1fffff) rfl rfl (by kernel_rfl) (fun _ _ _ h => h) (Or.inl ⟨by rfl, ?_⟩) ?_ ?_
                          rotate_left
                          · (intro w'; go_simp; with_reducible rfl)
                          rotate_left
                          · (simp only [Act.put, List.setIfInBounds_toArray, List.set_cons_zero, List.set_cons_succ]; rfl)
                          refine pure_ (i := 21) (N := (some 122)) (v := ?_) (a' := ?_) (lb 34 0x3fffff) rfl rfl (by kernel_rfl) (fun _ _ _ h => h) (Or.inl ⟨by rfl, ?_⟩) ?_ ?_
                          rotate_left
                          · (intro w'; go_simp; with_reducible rfl)
                          rotate_left
                          · (simp only [Act.put, List.setIfInBounds_toArray, List.set_cons_zero, List.set_cons_succ]; rfl)
                          refine take_ (i := 22) (N := (some 123)) (v := ?_) (a' := ?_) (lb 34 0x7fffff) rfl rfl (by kernel_rfl) (fun _ _ _ h => h) (Or.inl ⟨by rfl, ?_⟩) hHeld ?_ ?_
                          rotate_left
                          · (rintro w' hS; have d2 := cell_at hS P2Q.out; have d0 := cell_at hS Q0.out; have d1 := cell_at hS Q1.out; go_simp; with_reducible rfl)
                          rotate_left
                          · (simp only [Act.put, List.setIfInBounds_toArray, List.set_cons_zero, List.set_cons_succ]; rfl)
                          refine pure_ (i := 23) (N := (some 124)) (v := ?_) (a' := ?_) (lb 34 0xffffff) rfl rfl (by kernel_rfl) (fun _ _ _ h => h) (Or.inl ⟨by rfl, ?_⟩) ?_ ?_
                          rotate_left
                          · (intro w'; go_simp; with_reducible rfl)
                          rotate_left
                          · (simp only [Act.put, List.setIfInBounds_toArray, List.set_cons_zero, List.set_cons_succ]; rfl)
                          refine pure_ (i := 24) (N := (some 125)) (v := ?_) (a' := ?_) (lb 34 0x1ffffff) rfl rfl (by kernel_rfl) (fun _ _ _ h => h) (Or.inl ⟨by rfl, ?_⟩) ?_ ?_
                          rotate_left
                          · (intro w'; go_simp; with_reducible rfl)
                          rotate_left
                          · (simp only [Act.put, List.setIfInBounds_toArray, List.set_cons_zero, List.set_cons_succ]; rfl)
                          refine pure_ (i := 25) (N := (some 126)) (v := ?_) (a' := ?_) (lb 34 0x3ffffff) rfl rfl (by kernel_rfl) (fun _ _ _ h => h) (Or.inl ⟨by rfl, ?_⟩) ?_ ?_
                          rotate_left
                          · (intro w'; go_simp; with_reducible rfl)
                          rotate_left
                          · (simp only [Act.put, List.setIfInBounds_toArray, List.set_cons_zero, List.set_cons_succ]; rfl)
                          refine pure_ (i := 26) (N := (some 127)) (v := ?_) (a' := ?_) (lb 34 0x7ffffff) rfl rfl (by kernel_rfl) (fun _ _ _ h => h) (Or.inl ⟨by rfl, ?_⟩) ?_ ?_
                          rotate_left
                          · (intro w'; go_simp; with_reducible rfl)
                          rotate_left
                          · (simp only [Act.put, List.setIfInBounds_toArray, List.set_cons_zero, List.set_cons_succ]; rfl)
                          refine pure_ (i := 27) (N := (some 128)) (v := ?_) (a' := ?_) (lb 34 0xfffffff) rfl rfl (by kernel_rfl) (fun _ _ _ h => h) (Or.inl ⟨by rfl, ?_⟩) ?_ ?_
                          rotate_left
                          · (intro w'; go_simp; with_reducible rfl)
                          rotate_left
                          · (simp only [Act.put, List.setIfInBounds_toArray, List.set_cons_zero, List.set_cons_succ]; rfl)
                          refine pure_ (i := 29) (N := (some 130)) (v := ?_) (a' := ?_) (lb 34 0x2fffffff) rfl rfl (by kernel_rfl) (fun _ _ _ h => h) (Or.inl ⟨by rfl, ?_⟩) ?_ ?_
                          rotate_left
                          · (intro w'; go_simp; with_reducible rfl)
                          rotate_left
                          · (simp only [Act.put, List.setIfInBounds_toArray, List.set_cons_zero, List.set_cons_succ]; rfl)
                          refine take_ (i := 28) (N := (some 129)) (v := ?_) (a' := ?_) (lb 34 0x3fffffff) rfl rfl (by kernel_rfl) (fun _ _ _ h => h) (Or.inl ⟨by rfl, ?_⟩) hHeld ?_ ?_
                          rotate_left
                          · (rintro w' hS; have d2 := cell_at hS P2Q.out; have d0 := cell_at hS Q0.out; have d1 := cell_at hS Q1.out; go_simp; with_reducible rfl)
                          rotate_left
                          · (simp only [Act.put, List.setIfInBounds_toArray, List.set_cons_zero, List.set_cons_succ]; rfl)
                          refine pure_ (i := 30) (N := (some 131)) (v := ?_) (a' := ?_) (lb 34 0x7fffffff) rfl rfl (by kernel_rfl) (fun _ _ _ h => h) (Or.inl ⟨by rfl, ?_⟩) ?_ ?_
                          rotate_left
                          · (intro w'; go_simp; with_reducible rfl)
                          rotate_left
                          · (simp only [Act.put, List.setIfInBounds_toArray, List.set_cons_zero, List.set_cons_succ]; rfl)
                          refine take_ (i := 31) (N := (some 132)) (v := ?_) (a' := ?_) (lb 34 0xffffffff) rfl rfl (by kernel_rfl) (fun _ _ _ h => h) (Or.inl ⟨by rfl, ?_⟩) hHeld ?_ ?_
                          rotate_left
                          · (rintro w' hS; have d2 := cell_at hS P2Q.out; have d0 := cell_at hS Q0.out; have d1 := cell_at hS Q1.out; go_simp; with_reducible rfl)
                          rotate_left
                          · (simp only [Act.put, List.setIfInBounds_toArray, List.set_cons_zero, List.set_cons_succ]; rfl)
                          refine one_ (i := 32) (N := (some 133)) (lb 34 0x1ffffffff) rfl rfl (by kernel_rfl) (by decide) (fun K hK => ?_)
                          (refine goes_ Try.func53 (by kernel_rfl) rfl #[.slice (some a3) i c3, .agg #[.int .i64 x.left, .slice R x.right.length cr]] (by rfl) rfl rfl (by simp [Act.eval]) ?_; refine (has1_c (some a3) R c3 cr i (g.rules.take i) x _ (C_take' (Kd.C_below HG.out.rules (below_then HBQ.out HBQ.out.size hHeld)) (Nat.le_of_lt hlt)) (Kd.C_below KXR.out (below_then HBQ.out HBQ.out.size hHeld))).mono ?_; rw [HHAS.out]; rintro e w5 ⟨rfl, hb5⟩; refine ⟨_, rfl, ?_⟩; have HB5 := Aside0.mk (below_then HBQ.out HBQ.out.size (below_then hHeld hHeld.size hb5)); have HQ5 := Aside0.mk (below_then hHeld hHeld.size hb5); clear hb5; refine hK.out _ _ HQ5.out (fun hHeld => ?_))
                          skip
                          clear hK K
                          refine norm_ (a' := ?_) ?_ ?_
                          rotate_left
                          · (show Act.put _ (some 133) _ = _; simp only [Act.put, List.setIfInBounds_toArray, List.set_cons_zero, List.set_cons_succ]; rfl)
                          refine pure_ (i := 33) (N := (some 134)) (v := ?_) (a' := ?_) (lb 34 0x3ffffffff) rfl rfl (by kernel_rfl) (fun _ _ _ h => h) (Or.inl ⟨by rfl, ?_⟩) ?_ ?_
                          rotate_left
                          · (intro w'; go_simp; with_reducible rfl)
                          rotate_left
                          · (simp only [Act.put, List.setIfInBounds_toArray, List.set_cons_zero, List.set_cons_succ]; rfl)
                          refine done_ (by kernel_rfl) ?_
                          go_wp2
                          go_ret
                          exact ⟨ret_bool (good_not (fun h => by have := GS.left_ h HGS.out hlt; rw [← HX.out] at this; exact absurd this.2.2.2.2.1 (by rw [HHAS.out]; decide))).symm, below_then HB1.out HB1.out.size (HB5.out)⟩
                        | false =>
                          have HHAS := Aside0.mk hh
                          clear hh
                          go_wp2
                          simp only [← hwq]
                          refine start_ (n := 34) (S := fun w' => Below wq.heap.size wq w') (ds := []) (lb 34 0x0) (by kernel_rfl) rfl (by kernel_rfl) (below_drew1 (Below.refl _ _)) (fun hHeld => ?_)
                          refine pure_ (i := 0) (N := (some 101)) (v := ?_) (a' := ?_) (lb 34 0x1) rfl rfl (by kernel_rfl) (fun _ _ _ h => h) (Or.inl ⟨by rfl, ?_⟩) ?_ ?_
                          rotate_left
                          · (intro w'; go_simp; with_reducible rfl)
                          rotate_left
                          · (simp only [Act.put, List.setIfInBounds_toArray, List.set_cons_zero, List.set_cons_succ]; rfl)
                          refine pure_ (i := 2) (N := (some 103)) (v := ?_) (a' := ?_) (lb 34 0x5) rfl rfl (by kernel_rfl) (fun _ _ _ h => h) (Or.inl ⟨by rfl, ?_⟩) ?_ ?_
                          rotate_left
                          · (intro w'; go_simp; with_reducible rfl)
                          rotate_left
                          · (simp only [Act.put, List.setIfInBounds_toArray, List.set_cons_zero, List.set_cons_succ]; rfl)
                          refine take_ (i := 1) (N := (some 102)) (v := ?_) (a' := ?_) (lb 34 0x7) rfl rfl (by kernel_rfl) (fun _ _ _ h => h) (Or.inl ⟨by rfl, ?_⟩) hHeld ?_ ?_
                          rotate_left
                          · (rintro w' hS; have d2 := cell_at hS P2Q.out; have d0 := cell_at hS Q0.out; have d1 := cell_at hS Q1.out; go_simp; with_reducible rfl)
                          rotate_left
                          · (simp only [Act.put, List.setIfInBounds_toArray, List.set_cons_zero, List.set_cons_succ]; rfl)
                          refine pure_ (i := 3) (N := (some 104)) (v := ?_) (a' := ?_) (lb 34 0xf) rfl rfl (by kernel_rfl) (fun _ _ _ h => h) (Or.inl ⟨by rfl, ?_⟩) ?_ ?_
                          rotate_left
                          · (intro w'; go_simp; with_reducible rfl)
                          rotate_left
                          · (simp only [Act.put, List.setIfInBounds_toArray, List.set_cons_zero, List.set_cons_succ]; rfl)
                          refine pure_ (i := 4) (N := (some 105)) (v := ?_) (a' := ?_) (lb 34 0x1f) rfl rfl (by kernel_rfl) (fun _ _ _ h => h) (Or.inl ⟨by rfl, ?_⟩) ?_ ?_
                          rotate_left
                          · (intro w'; go_simp; with_reducible rfl)
                          rotate_left
                          · (simp only [Act.put, List.setIfInBounds_toArray, List.set_cons_zero, List.set_cons_succ]; rfl)
                          refine pure_ (i := 5) (N := (some 106)) (v := ?_) (a' := ?_) (lb 34 0x3f) rfl rfl (by kernel_rfl) (fun _ _ _ h => h) (Or.inl ⟨by rfl, ?_⟩) ?_ ?_
                          rotate_left
                          · (intro w'; go_simp; with_reducible rfl)
                          rotate_left
                          · (simp only [Act.put, List.setIfInBounds_toArray, List.set_cons_zero, List.set_cons_succ]; rfl)
                          refine pure_ (i := 7) (N := (some 108)) (v := ?_) (a' := ?_) (lb 34 0xbf) rfl rfl (by kernel_rfl) (fun _ _ _ h => h) (Or.inl ⟨by rfl, ?_⟩) ?_ ?_
                          rotate_left
                          · (intro w'; go_simp; with_reducible rfl)
                          rotate_left
                          · (simp only [Act.put, List.setIfInBounds_toArray, List.set_cons_zero, List.set_cons_succ]; rfl)
                          refine pure_ (i := 8) (N := (some 109)) (v := ?_) (a' := ?_) (lb 34 0x1bf) rfl rfl (by kernel_rfl) (fun _ _ _ h => h) (Or.inl ⟨by rfl, ?_⟩) ?_ ?_
                          rotate_left
                          · (intro w'; go_simp; with_reducible rfl)
                          rotate_left
                          · (simp only [Act.put, List.setIfInBounds_toArray, List.set_cons_zero, List.set_cons_succ]; rfl)
                          refine pure_ (i := 9) (N := (some 110)) (v := ?_) (a' := ?_) (lb 34 0x3bf) rfl rfl (by kernel_rfl) (fun _ _ _ h => h) (Or.inl ⟨by rfl, ?_⟩) ?_ ?_
                          rotate_left
                          · (intro w'; go_simp; with_reducible rfl)
                          rotate_left
                          · (simp only [Act.put, List.setIfInBounds_toArray, List.set_cons_zero, List.set_cons_succ]; rfl)
                          refine take_ (i := 6) (N := (some 107)) (v := ?_) (a' := ?_) (lb 34 0x3ff) rfl rfl (by kernel_rfl) (fun _ _ _ h => h) (Or.inl ⟨by rfl, ?_⟩) hHeld ?_ ?_
                          rotate_left
                          · (rintro w' hS; have d2 := cell_at hS P2Q.out; have d0 := cell_at hS Q0.out; have d1 := cell_at hS Q1.out; go_simp; with_reducible rfl)
                          rotate_left
                          · (simp only [Act.put, List.setIfInBounds_toArray, List.set_cons_zero, List.set_cons_succ]; rfl)
                          refine pure_ (i := 10) (N := (some 111)) (v := ?_) (a' := ?_) (lb 34 0x7ff) rfl rfl (by kernel_rfl) (fun _ _ _ h => h) (Or.inl ⟨by rfl, ?_⟩) ?_ ?_
                          rotate_left
                          · (intro w'; go_simp; with_reducible rfl)
                          rotate_left
                          · (simp only [Act.put, List.setIfInBounds_toArray, List.set_cons_zero, List.set_cons_succ]; rfl)
                          refine pure_ (i := 11) (N := (some 112)) (v := ?_) (a' := ?_) (lb 34 0xfff) rfl rfl (by kernel_rfl) (fun _ _ _ h => h) (Or.inl ⟨by rfl, ?_⟩) ?_ ?_
                          rotate_left
                          · (intro w'; go_simp; with_reducible rfl)
                          rotate_left
                          · (simp only [Act.put, List.setIfInBounds_toArray, List.set_cons_zero, List.set_cons_succ]; rfl)
                          refine pure_ (i := 12) (N := (some 113)) (v := ?_) (a' := ?_) (lb 34 0x1fff) rfl rfl (by kernel_rfl) (fun _ _ _ h => h) (Or.inl ⟨by rfl, ?_⟩) ?_ ?_
                          rotate_left
                          · (intro w'; go_simp; with_reducible rfl)
                          rotate_left
                          · (simp only [Act.put, List.setIfInBounds_toArray, List.set_cons_zero, List.set_cons_succ]; rfl)
                          refine pure_ (i := 13) (N := (some 114)) (v := ?_) (a' := ?_) (lb 34 0x3fff) rfl rfl (by kernel_rfl) (fun _ _ _ h => h) (Or.inl ⟨by rfl, ?_⟩) ?_ ?_
                          rotate_left
                          · (intro w'; go_simp; with_reducible rfl)
                          rotate_left
                          · (simp only [Act.put, List.setIfInBounds_toArray, List.set_cons_zero, List.set_cons_succ]; rfl)
                          refine pure_ (i := 15) (N := (some 116)) (v := ?_) (a' := ?_) (lb 34 0xbfff) rfl rfl (by kernel_rfl) (fun _ _ _ h => h) (Or.inl ⟨by rfl, ?_⟩) ?_ ?_
                          rotate_left
                          · (intro w'; go_simp; with_reducible rfl)
                          rotate_left
                          · (simp only [Act.put, List.setIfInBounds_toArray, List.set_cons_zero, List.set_cons_succ]; rfl)
                          refine pure_ (i := 16) (N := (some 117)) (v := ?_) (a' := ?_) (lb 34 0x1bfff) rfl rfl (by kernel_rfl) (fun _ _ _ h => h) (Or.inl ⟨by rfl, ?_⟩) ?_ ?_
                          rotate_left
                          · (intro w'; go_simp; with_reducible rfl)
                          rotate_left
                          · (simp only [Act.put, List.setIfInBounds_toArray, List.set_cons_zero, List.set_cons_succ]; rfl)
                          refine pure_ (i := 17) (N := (some 118)) (v := ?_) (a' := ?_) (lb 34 0x3bfff) rfl rfl (by kernel_rfl) (fun _ _ _ h => h) (Or.inl ⟨by rfl, ?_⟩) ?_ ?_
                          rotate_left
                          · (intro w'; go_simp; with_reducible rfl)
                          rotate_left
                          · (simp only [Act.put, List.setIfInBounds_toArray, List.set_cons_zero, List.set_cons_succ]; rfl)
                          refine take_ (i := 14) (N := (some 115)) (v := ?_) (a' := ?_) (lb 34 0x3ffff) rfl rfl (by kernel_rfl) (fun _ _ _ h => h) (Or.inl ⟨by rfl, ?_⟩) hHeld ?_ ?_
                          rotate_left
                          · (rintro w' hS; have d2 := cell_at hS P2Q.out; have d0 := cell_at hS Q0.out; have d1 := cell_at hS Q1.out; go_simp; with_reducible rfl)
                          rotate_left
                          · (simp only [Act.put, List.setIfInBounds_toArray, List.set_cons_zero, List.set_cons_succ]; rfl)
                          refine pure_ (i := 18) (N := (some 119)) (v := ?_) (a' := ?_) (lb 34 0x7ffff) rfl rfl (by kernel_rfl) (fun _ _ _ h => h) (Or.inl ⟨by rfl, ?_⟩) ?_ ?_
                          rotate_left
                          · (intro w'; go_simp; with_reducible rfl)
                          rotate_left
                          · (simp only [Act.put, List.setIfInBounds_toArray, List.set_cons_zero, List.set_cons_succ]; rfl)
                          refine pure_ (i := 19) (N := (some 120)) (v := ?_) (a' := ?_) (lb 34 0xfffff) rfl rfl (by kernel_rfl) (fun _ _ _ h => h) (Or.inl ⟨by rfl, ?_⟩) ?_ ?_
                          rotate_left
                          · (intro w'; go_simp; with_reducible rfl)
                          rotate_left
                          · (simp only [Act.put, List.setIfInBounds_toArray, List.set_cons_zero, List.set_cons_succ]; rfl)
                          refine pure_ (i := 20) (N := (some 121)) (v := ?_) (a' := ?_) (lb 34 0x1fffff) rfl rfl (by kernel_rfl) (fun _ _ _ h => h) (Or.inl ⟨by rfl, ?_⟩) ?_ ?_
                          rotate_left
                          · (intro w'; go_simp; with_reducible rfl)
                          rotate_left
                          · (simp only [Act.put, List.setIfInBounds_toArray, List.set_cons_zero, List.set_cons_succ]; rfl)
                          refine pure_ (i := 21) (N := (some 122)) (v := ?_) (a' := ?_) (lb 34 0x3fffff) rfl rfl (by kernel_rfl) (fun _ _ _ h => h) (Or.inl ⟨by rfl, ?_⟩) ?_ ?_
                          rotate_left
                          · (intro w'; go_simp; with_reducible rfl)
                          rotate_left
                          · (simp only [Act.put, List.setIfInBounds_toArray, List.set_cons_zero, List.set_cons_succ]; rfl)
                          refine take_ (i := 22) (N := (some 123)) (v := ?_) (a' := ?_) (lb 34 0x7fffff) rfl rfl (by kernel_rfl) (fun _ _ _ h => h) (Or.inl ⟨by rfl, ?_⟩) hHeld ?_ ?_
                          rotate_left
                          · (rintro w' hS; have d2 := cell_at hS P2Q.out; have d0 := cell_at hS Q0.out; have d1 := cell_at hS Q1.out; go_simp; with_reducible rfl)
                          rotate_left
                          · (simp only [Act.put, List.setIfInBounds_toArray, List.set_cons_zero, List.set_cons_succ]; rfl)
                          refine pure_ (i := 23) (N := (some 124)) (v := ?_) (a' := ?_) (lb 34 0xffffff) rfl rfl (by kernel_rfl) (fun _ _ _ h => h) (Or.inl ⟨by rfl, ?_⟩) ?_ ?_
                          rotate_left
                          · (intro w'; go_simp; with_reducible rfl)
                          rotate_left
                          · (simp only [Act.put, List.setIfInBounds_toArray, List.set_cons_zero, List.set_cons_succ]; rfl)
                          refine pure_ (i := 24) (N := (some 125)) (v := ?_) (a' := ?_) (lb 34 0x1ffffff) rfl rfl (by kernel_rfl) (fun _ _ _ h => h) (Or.inl ⟨by rfl, ?_⟩) ?_ ?_
                          rotate_left
                          · (intro w'; go_simp; with_reducible rfl)
                          rotate_left
                          · (simp only [Act.put, List.setIfInBounds_toArray, List.set_cons_zero, List.set_cons_succ]; rfl)
                          refine pure_ (i := 25) (N := (some 126)) (v := ?_) (a' := ?_) (lb 34 0x3ffffff) rfl rfl (by kernel_rfl) (fun _ _ _ h => h) (Or.inl ⟨by rfl, ?_⟩) ?_ ?_
                          rotate_left
                          · (intro w'; go_simp; with_reducible rfl)
                          rotate_left
                          · (simp only [Act.put, List.setIfInBounds_toArray, List.set_cons_zero, List.set_cons_succ]; rfl)
                          refine pure_ (i := 26) (N := (some 127)) (v := ?_) (a' := ?_) (lb 34 0x7ffffff) rfl rfl (by kernel_rfl) (fun _ _ _ h => h) (Or.inl ⟨by rfl, ?_⟩) ?_ ?_
                          rotate_left
                          · (intro w'; go_simp; with_reducible rfl)
                          rotate_left
                          · (simp only [Act.put, List.setIfInBounds_toArray, List.set_cons_zero, List.set_cons_succ]; rfl)
                          refine pure_ (i := 27) (N := (some 128)) (v := ?_) (a' := ?_) (lb 34 0xfffffff) rfl rfl (by kernel_rfl) (fun _ _ _ h => h) (Or.inl ⟨by rfl, ?_⟩) ?_ ?_
                          rotate_left
                          · (intro w'; go_simp; with_reducible rfl)
                          rotate_left
                          · (simp only [Act.put, List.setIfInBounds_toArray, List.set_cons_zero, List.set_cons_succ]; rfl)
                          refine pure_ (i := 29) (N := (some 130)) (v := ?_) (a' := ?_) (lb 34 0x2fffffff) rfl rfl (by kernel_rfl) (fun _ _ _ h => h) (Or.inl ⟨by rfl, ?_⟩) ?_ ?_
                          rotate_left
                          · (intro w'; go_simp; with_reducible rfl)
                          rotate_left
                          · (simp only [Act.put, List.setIfInBounds_toArray, List.set_cons_zero, List.set_cons_succ]; rfl)
                          refine take_ (i := 28) (N := (some 129)) (v := ?_) (a' := ?_) (lb 34 0x3fffffff) rfl rfl (by kernel_rfl) (fun _ _ _ h => h) (Or.inl ⟨by rfl, ?_⟩) hHeld ?_ ?_
                          rotate_left
                          · (rintro w' hS; have d2 := cell_at hS P2Q.out; have d0 := cell_at hS Q0.out; have d1 := cell_at hS Q1.out; go_simp; with_reducible rfl)
                          rotate_left
                          · (simp only [Act.put, List.setIfInBounds_toArray, List.set_cons_zero, List.set_cons_succ]; rfl)
                          refine pure_ (i := 30) (N := (some 131)) (v := ?_) (a' := ?_) (lb 34 0x7fffffff) rfl rfl (by kernel_rfl) (fun _ _ _ h => h) (Or.inl ⟨by rfl, ?_⟩) ?_ ?_
                          rotate_left
                          · (intro w'; go_simp; with_reducible rfl)
                          rotate_left
                          · (simp only [Act.put, List.setIfInBounds_toArray, List.set_cons_zero, List.set_cons_succ]; rfl)
                          refine take_ (i := 31) (N := (some 132)) (v := ?_) (a' := ?_) (lb 34 0xffffffff) rfl rfl (by kernel_rfl) (fun _ _ _ h => h) (Or.inl ⟨by rfl, ?_⟩) hHeld ?_ ?_
                          rotate_left
                          · (rintro w' hS; have d2 := cell_at hS P2Q.out; have d0 := cell_at hS Q0.out; have d1 := cell_at hS Q1.out; go_simp; with_reducible rfl)
                          rotate_left
                          · (simp only [Act.put, List.setIfInBounds_toArray, List.set_cons_zero, List.set_cons_succ]; rfl)
                          refine one_ (i := 32) (N := (some 133)) (lb 34 0x1ffffffff) rfl rfl (by kernel_rfl) (by decide) (fun K hK => ?_)
                          (refine goes_ Try.func53 (by kernel_rfl) rfl #[.slice (some a3) i c3, .agg #[.int .i64 x.left, .slice R x.right.length cr]] (by rfl) rfl rfl (by simp [Act.eval]) ?_; refine (has1_c (some a3) R c3 cr i (g.rules.take i) x _ (C_take' (Kd.C_below HG.out.rules (below_then HBQ.out HBQ.out.size hHeld)) (Nat.le_of_lt hlt)) (Kd.C_below KXR.out (below_then HBQ.out HBQ.out.size hHeld))).mono ?_; rw [HHAS.out]; rintro e w5 ⟨rfl, hb5⟩; refine ⟨_, rfl, ?_⟩; have HB5 := Aside0.mk (below_then HBQ.out HBQ.out.size (below_then hHeld hHeld.size hb5)); have HQ5 := Aside0.mk (below_then hHeld hHeld.size hb5); clear hb5; refine hK.out _ _ HQ5.out (fun hHeld => ?_))
                          skip
                          clear hK K
                          refine norm_ (a' := ?_) ?_ ?_
                          rotate_left
                          · (show Act.put _ (some 133) _ = _; simp only [Act.put, List.setIfInBounds_toArray, List.set_cons_zero, List.set_cons_succ]; rfl)
                          refine pure_ (i := 33) (N := (some 134)) (v := ?_) (a' := ?_) (lb 34 0x3ffffffff) rfl rfl (by kernel_rfl) (fun _ _ _ h => h) (Or.inl ⟨by rfl, ?_⟩) ?_ ?_
                          rotate_left
                          · (intro w'; go_simp; with_reducible rfl)
                          rotate_left
                          · (simp only [Act.put, List.setIfInBounds_toArray, List.set_cons_zero, List.set_cons_succ]; rfl)
                          refine done_ (by kernel_rfl) ?_
                          have y0 := cell_at HQ5.out Q0.out
                          have y3 := cell_at HQ5.out Q1.out
                          by_cases h5 : x.left = (g.terms.length : Int) + (nm : Int)
                          · have b5 : (x.left == (g.terms.length : Int) + (nm : Int)) = true := by rw [h5]; simp
                            have H5 := Aside0.mk h5
                            clear h5 y1 y2 z2
                            go_wp2
                            have z1 := cell_at HQ5.out Q1.out
                            go_loop [11, 8] (fun kv tv => ∃ k tm' : Nat, k ≤ x.right.length ∧ kv = .int .i64 k ∧ tv = .int .i64 tm' ∧ tm' ≤ tm + k ∧ Aside0 (risS ((x.right.take k).filter (termF g)) tm = some (tm' : Int)) ∧ Aside0 (∀ s ∈ x.right.take k, 0 ≤ s ∧ s < (g.terms.length : Int) + g.names.length)) (fun kv _ => x.right.length - (intOf kv).toNat)
                            case atStart => exact ⟨0, tm, Nat.zero_le _, rfl, rfl, by omega, ⟨rfl⟩, ⟨fun s hs => by simp at hs⟩⟩
                            case round =>
                              obtain ⟨k, tm', hk, rfl, rfl, htm', HT, HM⟩ := hrel
                              by_cases hkl : k < x.right.length
                              · obtain ⟨xd, eX, hxv⟩ := at_int KXR.out k hkl
                                subst eX
                                have hxv5 := cell_at HB5.out hxv
                                obtain ⟨s, hs⟩ : ∃ s, s = x.right[k]'hkl := ⟨_, rfl⟩
                                rw [← hs] at hxv5
                                have HSS := Aside0.mk hs
                                have j3 : (0 : Int) ≤ (k : Int) := by omega
                                have j4 : (k : Int) < (x.right.length : Int) := by omega
                                have HC : Aside0 (GoodP g → 0 ≤ s ∧ s < (g.terms.length : Int) + g.names.length ∧ (s < (g.terms.length : Int) → s ≤ (tm' : Int))) := ⟨fun h => by
                                  have := (GS.left_ h HGS.out hlt).2.2.2.2.2
                                  rw [← HX.out] at this
                                  have := this k hkl tm' HT.out
                                  rw [← HSS.out] at this
                                  exact this⟩
                                clear hs hxv
                                by_cases g1 : s < 0
                                · go_wp2
                                  go_ret
                                  exact ⟨ret_bool (good_not (fun h => by have := HC.out h; omega)).symm, below_then HB1.out HB1.out.size HB5.out⟩
                                · by_cases g2 : (g.terms.length : Int) + (g.names.length : Int) ≤ s
                                  · go_wp2
                                    go_ret
                                    exact ⟨ret_bool (good_not (fun h => by have := HC.out h; omega)).symm, below_then HB1.out HB1.out.size HB5.out⟩
                                  · by_cases g3 : s < (g.terms.length : Int)
                                    · by_cases g4 : (tm' : Int) < s
                                      · go_wp2
                                        go_ret
                                        exact ⟨ret_bool (good_not (fun h => by have := HC.out h; omega)).symm, below_then HB1.out HB1.out.size HB5.out⟩
                                      · have hf := filter_succ (p := termF g) hkl
                                        rw [← HSS.out, if_pos (show termF g s = true from decide_eq_true ⟨by omega, g3⟩)] at hf
                                        have HF := Aside0.mk hf
                                        clear hf
                                        by_cases g5 : s = (tm' : Int)
                                        · have b5 : (s == (tm' : Int)) = true := by rw [g5]; simp
                                          have H5 := Aside0.mk g5
                                          clear g5
                                          go_wp2
                                          go_round
                                          case rel => exact ⟨k + 1, tm' + 1, by omega, by go_num, by go_num, by omega, ⟨by rw [HF.out, risS_append, HT.out]; show risS [s] _ = _; rw [risS_one (by have := H5.out; omega), if_pos H5.out]; congr 1⟩, ⟨fun y hy => by
                                            rw [List.take_succ_eq_append_getElem hkl] at hy
                                            rcases List.mem_append.1 hy with hy | hy
                                            · exact HM.out y hy
                                            · rw [List.mem_singleton.1 hy, ← HSS.out]; omega⟩⟩
                                          case measure => simp [intOf]; omega
                                        · have b5 : (s == (tm' : Int)) = false := by rw [beq_eq_false_iff_ne]; exact g5
                                          have H5 := Aside0.mk g5
                                          clear g5
                                          go_wp2
                                          go_round
                                          case rel => exact ⟨k + 1, tm', by omega, by go_num, rfl, by omega, ⟨by rw [HF.out, risS_append, HT.out]; show risS [s] _ = _; rw [risS_one (by omega), if_neg H5.out]⟩, ⟨fun y hy => by
                                            rw [List.take_succ_eq_append_getElem hkl] at hy
                                            rcases List.mem_append.1 hy with hy | hy
                                            · exact HM.out y hy
                                            · rw [List.mem_singleton.1 hy, ← HSS.out]; omega⟩⟩
                                          case measure => simp [intOf]; omega
                                    · have hf := filter_succ (p := termF g) hkl
                                      rw [← HSS.out, if_neg (show ¬ termF g s = true by rw [show termF g s = false from decide_eq_false (by omega)]; decide), List.append_nil] at hf
                                      have HF := Aside0.mk hf
                                      clear hf
                                      go_wp2
                                      all_goals
                                        go_round
                                        case rel => exact ⟨k + 1, tm', by omega, by go_num, rfl, by omega, ⟨by rw [HF.out]; exact HT.out⟩, ⟨fun y hy => by
                                          rw [List.take_succ_eq_append_getElem hkl] at hy
                                          rcases List.mem_append.1 hy with hy | hy
                                          · exact HM.out y hy
                                          · rw [List.mem_singleton.1 hy, ← HSS.out]; omega⟩⟩
                                        case measure => simp [intOf]; omega
                              · obtain rfl : k = x.right.length := by omega
                                rw [List.take_length] at HT HM
                                have hnx := GS.next (tm' := tm') HGS.out hlt (by rw [← HX.out]; omega) (by rw [← HX.out]; omega) (by rw [← HX.out]; omega) (by rw [← HX.out]; omega) (by rw [← HX.out]; exact HHAS.out) (by rw [← HX.out]; exact HM.out) (by rw [← HX.out]; exact HT.out)
                                rw [← HX.out, if_pos H5.out] at hnx
                                have HNX := Aside0.mk hnx
                                clear hnx
                                go_wp2
                                go_roundw
                                case rel => exact ⟨i + 1, nm + 1, tm', by omega, by go_num, by go_num, rfl, by omega, by omega, HB5, HNX⟩
                                case measure => simp [intOf]; omega
                          · have b5 : (x.left == (g.terms.length : Int) + (nm : Int)) = false := by rw [beq_eq_false_iff_ne]; exact h5
                            have H5 := Aside0.mk h5
                            clear h5 y1 y2 z2
                            go_wp2
                            have z1 := cell_at HQ5.out Q1.out
                            go_loop [11, 8] (fun kv tv => ∃ k tm' : Nat, k ≤ x.right.length ∧ kv = .int .i64 k ∧ tv = .int .i64 tm' ∧ tm' ≤ tm + k ∧ Aside0 (risS ((x.right.take k).filter (termF g)) tm = some (tm' : Int)) ∧ Aside0 (∀ s ∈ x.right.take k, 0 ≤ s ∧ s < (g.terms.length : Int) + g.names.length)) (fun kv _ => x.right.length - (intOf kv).toNat)
                            case atStart => exact ⟨0, tm, Nat.zero_le _, rfl, rfl, by omega, ⟨rfl⟩, ⟨fun s hs => by simp at hs⟩⟩
                            case round =>
                              obtain ⟨k, tm', hk, rfl, rfl, htm', HT, HM⟩ := hrel
                              by_cases hkl : k < x.right.length
                              · obtain ⟨xd, eX, hxv⟩ := at_int KXR.out k hkl
                                subst eX
                                have hxv5 := cell_at HB5.out hxv
                                obtain ⟨s, hs⟩ : ∃ s, s = x.right[k]'hkl := ⟨_, rfl⟩
                                rw [← hs] at hxv5
                                have HSS := Aside0.mk hs
                                have j3 : (0 : Int) ≤ (k : Int) := by omega
                                have j4 : (k : Int) < (x.right.length : Int) := by omega
                                have HC : Aside0 (GoodP g → 0 ≤ s ∧ s < (g.terms.length : Int) + g.names.length ∧ (s < (g.terms.length : Int) → s ≤ (tm' : Int))) := ⟨fun h => by
                                  have := (GS.left_ h HGS.out hlt).2.2.2.2.2
                                  rw [← HX.out] at this
                                  have := this k hkl tm' HT.out
                                  rw [← HSS.out] at this
                                  exact this⟩
                                clear hs hxv
                                by_cases g1 : s < 0
                                · go_wp2
                                  go_ret
                                  exact ⟨ret_bool (good_not (fun h => by have := HC.out h; omega)).symm, below_then HB1.out HB1.out.size HB5.out⟩
                                · by_cases g2 : (g.terms.length : Int) + (g.names.length : Int) ≤ s
                                  · go_wp2
                                    go_ret
                                    exact ⟨ret_bool (good_not (fun h => by have := HC.out h; omega)).symm, below_then HB1.out HB1.out.size HB5.out⟩
                                  · by_cases g3 : s < (g.terms.length : Int)
                                    · by_cases g4 : (tm' : Int) < s
                                      · go_wp2
                                        go_ret
                                        exact ⟨ret_bool (good_not (fun h => by have := HC.out h; omega)).symm, below_then HB1.out HB1.out.size HB5.out⟩
                                      · have hf := filter_succ (p := termF g) hkl
                                        rw [← HSS.out, if_pos (show termF g s = true from decide_eq_true ⟨by omega, g3⟩)] at hf
                                        have HF := Aside0.mk hf
                                        clear hf
                                        by_cases g5 : s = (tm' : Int)
                                        · have b5 : (s == (tm' : Int)) = true := by rw [g5]; simp
                                          have H5 := Aside0.mk g5
                                          clear g5
                                          go_wp2
                                          go_round
                                          case rel => exact ⟨k + 1, tm' + 1, by omega, by go_num, by go_num, by omega, ⟨by rw [HF.out, risS_append, HT.out]; show risS [s] _ = _; rw [risS_one (by have := H5.out; omega), if_pos H5.out]; congr 1⟩, ⟨fun y hy => by
                                            rw [List.take_succ_eq_append_getElem hkl] at hy
                                            rcases List.mem_append.1 hy with hy | hy
                                            · exact HM.out y hy
                                            · rw [List.mem_singleton.1 hy, ← HSS.out]; omega⟩⟩
                                          case measure => simp [intOf]; omega
                                        · have b5 : (s == (tm' : Int)) = false := by rw [beq_eq_false_iff_ne]; exact g5
                                          have H5 := Aside0.mk g5
                                          clear g5
                                          go_wp2
                                          go_round
                                          case rel => exact ⟨k + 1, tm', by omega, by go_num, rfl, by omega, ⟨by rw [HF.out, risS_append, HT.out]; show risS [s] _ = _; rw [risS_one (by omega), if_neg H5.out]⟩, ⟨fun y hy => by
                                            rw [List.take_succ_eq_append_getElem hkl] at hy
                                            rcases List.mem_append.1 hy with hy | hy
                                            · exact HM.out y hy
                                            · rw [List.mem_singleton.1 hy, ← HSS.out]; omega⟩⟩
                                          case measure => simp [intOf]; omega
                                    · have hf := filter_succ (p := termF g) hkl
                                      rw [← HSS.out, if_neg (show ¬ termF g s = true by rw [show termF g s = false from decide_eq_false (by omega)]; decide), List.append_nil] at hf
                                      have HF := Aside0.mk hf
                                      clear hf
                                      go_wp2
                                      all_goals
                                        go_round
                                        case rel => exact ⟨k + 1, tm', by omega, by go_num, rfl, by omega, ⟨by rw [HF.out]; exact HT.out⟩, ⟨fun y hy => by
                                          rw [List.take_succ_eq_append_getElem hkl] at hy
                                          rcases List.mem_append.1 hy with hy | hy
                                          · exact HM.out y hy
                                          · rw [List.mem_singleton.1 hy, ← HSS.out]; omega⟩⟩
                                        case measure => simp [intOf]; omega
                              · obtain rfl : k = x.right.length := by omega
                                rw [List.take_length] at HT HM
                                have hnx := GS.next (tm' := tm') HGS.out hlt (by rw [← HX.out]; omega) (by rw [← HX.out]; omega) (by rw [← HX.out]; omega) (by rw [← HX.out]; omega) (by rw [← HX.out]; exact HHAS.out) (by rw [← HX.out]; exact HM.out) (by rw [← HX.out]; exact HT.out)
                                rw [← HX.out, if_neg H5.out] at hnx
                                have HNX := Aside0.mk hnx
                                clear hnx
                                go_wp2
                                go_roundw
                                case rel => exact ⟨i + 1, nm, tm', by omega, by go_num, by go_num, rfl, by omega, by omega, HB5, HNX⟩
                                case measure => simp [intOf]; omega
              · obtain rfl : i = g.rules.length := by omega
                have HE := Aside0.mk (good_end HGS.out HNO.out HTO.out n4 n5)
                by_cases e1 : nm = g.names.length
                · have b1 : ((nm : Int) == (g.names.length : Int)) = true := by rw [e1]; simp
                  by_cases e2 : tm = g.terms.length
                  · have b2 : ((tm : Int) == (g.terms.length : Int)) = true := by rw [e2]; simp
                    have HE1 := Aside0.mk e1
                    have HE2 := Aside0.mk e2
                    clear e1 e2
                    go_wp2
                    go_ret
                    exact ⟨ret_bool (by rw [HE.out, decide_eq_true HE1.out, decide_eq_true HE2.out]; rfl), below_then HB1.out HB1.out.size HB.out⟩
                  · have b2 : ((tm : Int) == (g.terms.length : Int)) = false := by rw [beq_eq_false_iff_ne]; omega
                    have HE2 := Aside0.mk e2
                    have HE1 := Aside0.mk e1
                    clear e1 e2
                    go_wp2
                    go_ret
                    exact ⟨ret_bool (by rw [HE.out, decide_eq_false HE2.out, Bool.and_false]), below_then HB1.out HB1.out.size HB.out⟩
                · have b1 : ((nm : Int) == (g.names.length : Int)) = false := by rw [beq_eq_false_iff_ne]; omega
                  have HE1 := Aside0.mk e1
                  clear e1
                  go_wp2
                  go_ret
                  exact ⟨ret_bool (by rw [HE.out, decide_eq_false HE1.out, Bool.false_and]), below_then HB1.out HB1.out.size HB.out⟩
  · have HF : Aside0 (goodF g = false) := ⟨good_not (fun h => hok ⟨((names_iff g).1 h.names).2, ((terms_iff g).1 h.terms).2, h.one, h.most⟩)⟩
    by_cases m1 : (g.names.length : Int) < 1
    · go_wp2
      go_ret
      exact ⟨ret_bool HF.out.symm, below_then HB1.out HB1.out.size (below_drew1 (Below.refl _ _))⟩
    · by_cases m2 : (40 : Int) < (g.names.length : Int)
      · go_wp2
        go_ret
        exact ⟨ret_bool HF.out.symm, below_then HB1.out HB1.out.size (below_drew1 (Below.refl _ _))⟩
      · by_cases m3 : (40 : Int) < (g.terms.length : Int)
        · go_wp2
          go_ret
          exact ⟨ret_bool HF.out.symm, below_then HB1.out HB1.out.size (below_drew1 (Below.refl _ _))⟩
        · by_cases m4 : (g.rules.length : Int) < 1
          · go_wp2
            go_ret
            exact ⟨ret_bool HF.out.symm, below_then HB1.out HB1.out.size (below_drew1 (Below.refl _ _))⟩
          · have m5 : (60 : Int) < (g.rules.length : Int) := by omega
            go_wp2
            go_ret
            exact ⟨ret_bool HF.out.symm, below_then HB1.out HB1.out.size (below_drew1 (Below.refl _ _))⟩
end Go.Proofs.Ytphmmppmhphgeaa

/- A grammar that is read of the laws' arguments: its texts are no longer than texts may be. -/
set_option linter.unusedVariables false
set_option linter.unusedSimpArgs false
namespace Go.Proofs.Ytphmmppmhphgeaa
open Go.RowKit Go.Proofs.YtphmmppmhphgeaaW.PrintWords Go.Deep

section
variable {H : Type} {enc : TypeId × Value → H} {w : World} {base : Nat} {spare : Nat → Bool} {held : Bool} {fuel : Nat}
set_option maxRecDepth 100000 in
/-- A row that is read, whatever its elements, with what holds of each. -/
theorem C_openP {α : Type} [Inhabited α] {d : Kd α} (P : α → Prop) {t e : TypeId} {v : Value} {x : DataW H × List MemPlace} (ht : Try.prog.underlying t = some (.slice e)) (hsz : Try.prog.cellsOf e = d.sz)
    (elem : ∀ n cs y, DataW.trod enc Try.prog w base spare held n e cs = some y → ∃ x, d.K w x cs ∧ P x) (h : DataW.trod enc Try.prog w base spare held fuel t [v] = some x) :
    ∃ A n c xs, v = .slice A n c ∧ n = xs.length ∧ n ≤ c ∧ d.C w A n xs ∧ ∀ x ∈ xs, P x := by
  rcases open_slice ht h with ⟨hcs, _⟩ | ⟨a, len, cap, m, n, D, Pl, hcs, _, hl, hcap, hm, _, hx⟩
  · injection hcs with hcs _
    exact ⟨none, 0, 0, [], hcs, rfl, Nat.le_refl _, ⟨rfl, by omega, fun h => by omega⟩, fun x hx => by cases hx⟩
  · injection hcs with hcs _
    have hlm : len ≤ m := by rw [hm]; split <;> omega
    obtain ⟨X, hX⟩ := choose_lt (α := α) (n := len) (p := fun i x => (∃ cs, w.cells? base (a.add (i * Try.prog.cellsOf e)) (Try.prog.cellsOf e) = some cs ∧ d.K w x cs) ∧ P x) (fun i hi => by
      obtain ⟨cs, h1, h2⟩ := hx i (by omega)
      obtain ⟨x, h3, h4⟩ := elem _ _ _ h2
      exact ⟨x, ⟨cs, h1, h3⟩, h4⟩)
    have hmax : len ≤ 9223372036854775807 := by simp only [maxLen] at hcap; omega
    refine ⟨some a, len, cap, (List.range len).map X, hcs, by simp, hl, ⟨by simp, hmax, fun _ => ⟨a, rfl, fun j p hj => ?_⟩⟩, fun x hx => ?_⟩
    · have hjl : j < len := by
        have := (List.getElem?_eq_some_iff.1 hj).1
        simpa using this
      have hp : p = X j := by
        rw [List.getElem?_map, List.getElem?_range hjl] at hj
        injection hj with hj
        exact hj.symm
      subst hp
      obtain ⟨⟨cs, h1, h2⟩, _⟩ := hX j hjl
      rw [hsz] at h1
      obtain ⟨_, hlen, hc⟩ := World.cells?_some h1
      refine ⟨cs, hlen, h2, fun i u hu => ?_⟩
      have hi : i < d.sz := by rw [← hlen]; exact (List.getElem?_eq_some_iff.1 hu).1
      rw [← Addr.add_add, hc i hi]
      exact hu
    · obtain ⟨j, hj, rfl⟩ := List.mem_map.1 hx
      exact (hX j (List.mem_range.1 hj)).2
theorem strs_openS {v : Value} {x : DataW H × List MemPlace} (h : DataW.trod enc Try.prog w base spare held fuel 22 [v] = some x) : ∃ A n c xs, v = .slice A n c ∧ n = xs.length ∧ n ≤ c ∧ kStr.C w A n xs ∧ ∀ s ∈ xs, s.size ≤ maxLen :=
  C_openP (fun s : ByteArray => s.size ≤ maxLen) Try.underlying22 (by kernel_rfl) (fun n cs y hy => by
    obtain ⟨s, rfl, _, hs⟩ := DataW.trod_string Try.underlying9 hy
    exact ⟨s, rfl, hs⟩) h
set_option maxRecDepth 100000 in
theorem gram_openS {v : Value} {dd : DataW H} {p : List MemPlace} {r : Reach} {b0 : Nat} (hv : Value.okWide Try.prog w r b0 25 v) (h : DataW.Trod enc Try.prog w base spare held 25 v dd p) :
    ∃ g A1 A2 A3 c1 c2 c3, v = .agg #[.slice A1 g.terms.length c1, .slice A2 g.names.length c2, .slice A3 g.rules.length c3] ∧ RepG w g A1 A2 A3 c1 c2 c3 ∧ Sized g := by
  obtain ⟨v0, v1, v2, y0, y1, y2, n, rfl, _, _, h0, h1, h2⟩ := Go.Joins.open_agg3 Try.underlying25 (by kernel_rfl) (by kernel_rfl) hv h
  obtain ⟨A1, n1, c1, ts, rfl, rfl, hc1, hC1, hz1⟩ := strs_openS h0
  obtain ⟨A2, n2, c2, ns, rfl, rfl, hc2, hC2, hz2⟩ := strs_openS h1
  obtain ⟨A3, n3, c3, rs, rfl, rfl, hc3, hC3⟩ := rules_open h2
  exact ⟨⟨ts, ns, rs⟩, A1, A2, A3, c1, c2, c3, rfl, ⟨hC1, hC2, hC3, hc1, hc2, hc3⟩, ⟨hz2, hz1⟩⟩
end
end Go.Proofs.Ytphmmppmhphgeaa

/- Closures of rules, in plain Lean: what rules with bodies lead to, rounds, when they stand still. -/
set_option linter.unusedVariables false
set_option linter.unusedSimpArgs false
namespace Go.Proofs.Ytphmmppmhphgeaa

/-! ### sets of symbols as rows of truth values -/
def getB (m : List Bool) (i : Int) : Bool := decide (0 ≤ i) && m.getD i.toNat false
def setB (m : List Bool) (i : Int) : List Bool := m.set i.toNat true
def allF (m : List Bool) (l : List Int) : Bool := l.all (getB m)
def cnt (m : List Bool) : Nat := m.countP id
theorem getB_nat (m : List Bool) (i : Nat) : getB m (i : Int) = m.getD i false := by simp [getB]
theorem getB_at {m : List Bool} {i : Nat} (h : i < m.length) : getB m (i : Int) = m[i] := by rw [getB_nat, List.getD_eq_getElem?_getD, List.getElem?_eq_getElem h]; rfl
theorem getB_out {m : List Bool} {i : Int} (h : i < 0 ∨ (m.length : Int) ≤ i) : getB m i = false := by
  unfold getB
  by_cases h0 : 0 ≤ i
  · rw [List.getD_eq_getElem?_getD, List.getElem?_eq_none (by omega)]; simp
  · simp [h0]
theorem getB_in {m : List Bool} {i : Int} (h : getB m i = true) : 0 ≤ i ∧ i < m.length := by
  by_cases h0 : i < 0 ∨ (m.length : Int) ≤ i
  · rw [getB_out h0] at h; cases h
  · omega
theorem setB_len (m : List Bool) (i : Int) : (setB m i).length = m.length := by simp [setB]
theorem getB_set {m : List Bool} {i j : Int} (hi : 0 ≤ i) (hi2 : i < m.length) : getB (setB m i) j = (decide (j = i) || getB m j) := by
  by_cases hj : 0 ≤ j
  · obtain ⟨a, rfl⟩ := Int.eq_ofNat_of_zero_le hi
    obtain ⟨b, rfl⟩ := Int.eq_ofNat_of_zero_le hj
    rw [getB_nat, getB_nat, setB, Int.toNat_natCast, List.getD_eq_getElem?_getD, List.getD_eq_getElem?_getD, List.getElem?_set]
    have ha : a < m.length := by omega
    by_cases hab : a = b
    · subst hab; simp [ha]
    · simp [hab, show ¬ (b : Int) = (a : Int) by omega]
  · rw [getB_out (Or.inl (by omega)), getB_out (Or.inl (by omega))]
    simp; omega
theorem cnt_le (m : List Bool) : cnt m ≤ m.length := List.countP_le_length
/-- One row lies within another one. -/
def LeB (m m' : List Bool) : Prop := m.length = m'.length ∧ ∀ i, getB m i = true → getB m' i = true
theorem LeB.refl (m : List Bool) : LeB m m := ⟨rfl, fun _ h => h⟩
theorem LeB.trans {a b c : List Bool} (h : LeB a b) (k : LeB b c) : LeB a c := ⟨h.1.trans k.1, fun i x => k.2 i (h.2 i x)⟩
theorem LeB.set (m : List Bool) {i : Int} (hi : 0 ≤ i) (hi2 : i < m.length) : LeB m (setB m i) := ⟨(setB_len m i).symm, fun j h => by rw [getB_set hi hi2, h]; simp⟩
theorem LeB.all {m m' : List Bool} (h : LeB m m') {l : List Int} (k : allF m l = true) : allF m' l = true := by
  rw [allF, List.all_eq_true] at *
  exact fun x hx => h.2 x (k x hx)
theorem getB_ext {m m' : List Bool} (hl : m.length = m'.length) (h : ∀ i : Nat, i < m.length → (getB m i = true ↔ getB m' i = true)) : m = m' := by
  refine List.ext_getElem hl (fun i h1 h2 => ?_)
  have := h i h1
  rw [getB_at h1, getB_at h2] at this
  exact Bool.eq_iff_iff.2 this
theorem LeB.tail {a b : Bool} {m m' : List Bool} (h : LeB (a :: m) (b :: m')) : LeB m m' := by
  refine ⟨by simpa using h.1, fun i hi => ?_⟩
  have h0 := (getB_in hi).1
  obtain ⟨k, rfl⟩ := Int.eq_ofNat_of_zero_le h0
  have := h.2 ((k + 1 : Nat) : Int)
  rw [getB_nat, getB_nat, List.getD_cons_succ, List.getD_cons_succ] at this
  rw [getB_nat] at hi ⊢
  exact this hi
theorem LeB.cnt_le : ∀ {m m' : List Bool}, LeB m m' → cnt m ≤ cnt m'
  | [], [], _ => Nat.le_refl _
  | [], _ :: _, h => by have := h.1; simp at this
  | _ :: _, [], h => by have := h.1; simp at this
  | a :: m, b :: m', h => by
    have h1 := (LeB.tail h).cnt_le
    have h0 := h.2 0
    simp [getB] at h0
    unfold cnt at *
    rw [List.countP_cons, List.countP_cons]
    cases a <;> cases b <;> simp_all <;> omega
theorem LeB.cnt_eq : ∀ {m m' : List Bool}, LeB m m' → cnt m' ≤ cnt m → m = m'
  | [], [], _, _ => rfl
  | [], _ :: _, h, _ => by have := h.1; simp at this
  | _ :: _, [], h, _ => by have := h.1; simp at this
  | a :: m, b :: m', h, hc => by
    have h1 := (LeB.tail h).cnt_le
    have h0 := h.2 0
    simp [getB] at h0
    unfold cnt at hc h1
    rw [List.countP_cons, List.countP_cons] at hc
    have hab : a = b := by cases a <;> cases b <;> simp_all <;> omega
    subst hab
    rw [(LeB.tail h).cnt_eq (by unfold cnt; omega)]
theorem cnt_set {m : List Bool} {i : Int} (hi : 0 ≤ i) (hi2 : i < m.length) (h : getB m i = false) : cnt (setB m i) = cnt m + 1 := by
  obtain ⟨k, rfl⟩ := Int.eq_ofNat_of_zero_le hi
  have hk : k < m.length := by omega
  rw [getB_at hk] at h
  unfold cnt setB
  rw [Int.toNat_natCast]
  clear hi hi2
  induction m generalizing k with
  | nil => simp at hk
  | cons a m ih =>
    cases k with
    | zero =>
      have ha : a = false := h
      subst ha
      simp
    | succ k =>
      rw [List.set_cons_succ, List.countP_cons, List.countP_cons, ih k (by simpa using hk) (by simpa using h)]
      omega
/-! ### what rules lead to -/
abbrev Horn := List (List Int × Int)
inductive Der (R : Horn) (I : Int → Prop) : Int → Prop
  | init {s : Int} : I s → Der R I s
  | step {b : List Int} {h : Int} : (b, h) ∈ R → (∀ x ∈ b, Der R I x) → Der R I h
theorem Der.mono {R R' : Horn} {I I' : Int → Prop} (hR : ∀ x ∈ R, x ∈ R') (hI : ∀ s, I s → I' s) {s : Int} (h : Der R I s) : Der R' I' s := by
  induction h with
  | init h => exact .init (hI _ h)
  | step hm _ ih => exact .step (hR _ hm) ih
theorem Der.cases_ {R : Horn} {I : Int → Prop} {s : Int} (h : Der R I s) : I s ∨ ∃ b, (b, s) ∈ R ∧ ∀ x ∈ b, Der R I x := by
  cases h with
  | init h => exact Or.inl h
  | step hm hb => exact Or.inr ⟨_, hm, hb⟩
/-- A row that has what is given, what rules lead to, and nothing else. -/
structure Closed (R : Horn) (I : Int → Prop) (m : List Bool) : Prop where
  init : ∀ s, I s → getB m s = true
  step : ∀ x ∈ R, allF m x.1 = true → getB m x.2 = true
def Sound (R : Horn) (I : Int → Prop) (m : List Bool) : Prop := ∀ s, getB m s = true → Der R I s
theorem Closed.of_der {R : Horn} {I : Int → Prop} {m : List Bool} (h : Closed R I m) {s : Int} (d : Der R I s) : getB m s = true := by
  induction d with
  | init h' => exact h.init _ h'
  | step hm _ ih => exact h.step _ hm (by rw [allF, List.all_eq_true]; exact ih)
/-- A row is what rules lead to. -/
def IsDer (R : Horn) (I : Int → Prop) (n : Nat) (m : List Bool) : Prop := m.length = n ∧ ∀ s, getB m s = true ↔ Der R I s
theorem IsDer.mk' {R : Horn} {I : Int → Prop} {n : Nat} {m : List Bool} (hl : m.length = n) (hs : Sound R I m) (hc : Closed R I m) : IsDer R I n m := ⟨hl, fun s => ⟨hs s, hc.of_der⟩⟩
theorem IsDer.unique {R : Horn} {I : Int → Prop} {n : Nat} {m m' : List Bool} (h : IsDer R I n m) (h' : IsDer R I n m') : m = m' :=
  getB_ext (h.1.trans h'.1.symm) (fun i _ => (h.2 i).trans (h'.2 i).symm)
theorem IsDer.all {R : Horn} {I : Int → Prop} {n : Nat} {m : List Bool} (h : IsDer R I n m) (l : List Int) : allF m l = true ↔ ∀ x ∈ l, Der R I x := by
  rw [allF, List.all_eq_true]
  exact ⟨fun k x hx => (h.2 x).1 (k x hx), fun k x hx => (h.2 x).2 (k x hx)⟩
theorem Sound.set {R : Horn} {I : Int → Prop} {m : List Bool} (h : Sound R I m) {b : List Int} {s : Int} (hm : (b, s) ∈ R) (ha : allF m b = true) (hs : 0 ≤ s ∧ s < m.length) : Sound R I (setB m s) := by
  intro j hj
  rw [getB_set hs.1 hs.2, Bool.or_eq_true] at hj
  rcases hj with hj | hj
  · rw [of_decide_eq_true hj]
    rw [allF, List.all_eq_true] at ha
    exact .step hm (fun x hx => h x (ha x hx))
  · exact h j hj
/-! ### rounds -/
def iter (f : List Bool → List Bool) : Nat → List Bool → List Bool
  | 0, m => m
  | k + 1, m => iter f k (f m)
theorem iter_succ (f : List Bool → List Bool) : ∀ (k : Nat) (m : List Bool), iter f (k + 1) m = f (iter f k m)
  | 0, m => rfl
  | k + 1, m => iter_succ f k (f m)
/-- Rounds that only add come to stand, behind as many as may be added. -/
theorem iter_fix {f : List Bool → List Bool} {K : Nat} {m : List Bool} (hle : ∀ k, LeB (iter f k m) (f (iter f k m))) (hb : ∀ k, cnt (iter f k m) ≤ cnt m + K) : f (iter f K m) = iter f K m := by
  have key : ∀ k, f (iter f k m) = iter f k m ∨ cnt m + k + 1 ≤ cnt (f (iter f k m)) := by
    intro k
    induction k with
    | zero =>
      by_cases h : cnt (f m) ≤ cnt m
      · exact Or.inl ((hle 0).cnt_eq h).symm
      · exact Or.inr (by show cnt m + 0 + 1 ≤ cnt (f m); omega)
    | succ k ih =>
      rw [iter_succ]
      rcases ih with ih | ih
      · rw [ih]; exact Or.inl ih
      · by_cases h : cnt (f (f (iter f k m))) ≤ cnt (f (iter f k m))
        · have h2 := hle (k + 1)
          rw [iter_succ] at h2
          exact Or.inl (h2.cnt_eq h).symm
        · exact Or.inr (by omega)
  rcases key K with h | h
  · exact h
  · have := hb (K + 1)
    rw [iter_succ] at this
    omega
theorem cnt_replicate (n : Nat) : cnt (List.replicate n false) = 0 := by
  unfold cnt
  rw [List.countP_eq_zero]
  intro a ha
  rw [List.eq_of_mem_replicate ha]
  simp
theorem getB_replicate (n : Nat) (s : Int) : getB (List.replicate n false) s = false := by
  unfold getB
  rw [List.getD_eq_getElem?_getD, List.getElem?_replicate]
  split <;> simp
/-! ### a round of rules, in place: what is led to is set at once -/
def roundF : Horn → List Bool → List Bool
  | [], m => m
  | x :: R, m => roundF R (if allF m x.1 = true then setB m x.2 else m)
theorem roundF_len : ∀ (R : Horn) (m : List Bool), (roundF R m).length = m.length
  | [], m => rfl
  | x :: R, m => by
    rw [roundF, roundF_len R]
    split
    · exact setB_len _ _
    · rfl
def InR (n : Nat) (R : Horn) : Prop := ∀ x ∈ R, 0 ≤ x.2 ∧ x.2 < n
theorem roundF_le {n : Nat} : ∀ {R : Horn} {m : List Bool}, InR n R → m.length = n → LeB m (roundF R m)
  | [], m, _, _ => LeB.refl m
  | x :: R, m, hR, hl => by
    rw [roundF]
    have hx := hR x List.mem_cons_self
    split
    · exact (LeB.set m hx.1 (by omega)).trans (roundF_le (fun y hy => hR y (List.mem_cons_of_mem _ hy)) (by rw [setB_len]; exact hl))
    · exact roundF_le (fun y hy => hR y (List.mem_cons_of_mem _ hy)) hl
theorem roundF_sound {n : Nat} {R0 : Horn} {I : Int → Prop} : ∀ {R : Horn} {m : List Bool}, (∀ x ∈ R, x ∈ R0) → InR n R → m.length = n → Sound R0 I m → Sound R0 I (roundF R m)
  | [], m, _, _, _, h => h
  | x :: R, m, hs, hR, hl, h => by
    rw [roundF]
    have hx := hR x List.mem_cons_self
    split
    · rename_i ha
      exact roundF_sound (fun y hy => hs y (List.mem_cons_of_mem _ hy)) (fun y hy => hR y (List.mem_cons_of_mem _ hy)) (by rw [setB_len]; exact hl) (h.set (hs x List.mem_cons_self) ha ⟨hx.1, by omega⟩)
    · exact roundF_sound (fun y hy => hs y (List.mem_cons_of_mem _ hy)) (fun y hy => hR y (List.mem_cons_of_mem _ hy)) hl h
theorem roundF_fix {n : Nat} : ∀ {R : Horn} {m : List Bool}, InR n R → m.length = n → roundF R m = m → ∀ x ∈ R, allF m x.1 = true → getB m x.2 = true
  | [], m, _, _, _ => fun x hx => by cases hx
  | x :: R, m, hR, hl, h => by
    rw [roundF] at h
    have hx := hR x List.mem_cons_self
    have hR' : InR n R := fun y hy => hR y (List.mem_cons_of_mem _ hy)
    by_cases ha : allF m x.1 = true
    · rw [if_pos ha] at h
      have h1 := roundF_le (m := setB m x.2) hR' (by rw [setB_len]; exact hl)
      rw [h] at h1
      have hg : getB m x.2 = true := h1.2 _ (by rw [getB_set hx.1 (by omega)]; simp)
      have hm : setB m x.2 = m := h1.cnt_eq (LeB.set m hx.1 (by omega)).cnt_le
      rw [hm] at h
      intro y hy
      rcases List.mem_cons.1 hy with rfl | hy
      · exact fun _ => hg
      · exact roundF_fix hR' hl h y hy
    · rw [if_neg ha] at h
      intro y hy
      rcases List.mem_cons.1 hy with rfl | hy
      · exact fun k => absurd k ha
      · exact roundF_fix hR' hl h y hy
/-- As many rounds as symbols: what rules lead to. -/
theorem rounds_is {n : Nat} {R : Horn} {I : Int → Prop} {m : List Bool} (hR : InR n R) (hl : m.length = n) (hI : ∀ s, getB m s = true ↔ I s) : IsDer R I n (iter (roundF R) n m) := by
  have hlen : ∀ k, (iter (roundF R) k m).length = n := by
    intro k
    induction k with
    | zero => exact hl
    | succ k ih => rw [iter_succ, roundF_len]; exact ih
  have hle : ∀ k, LeB m (iter (roundF R) k m) := by
    intro k
    induction k with
    | zero => exact LeB.refl m
    | succ k ih => rw [iter_succ]; exact ih.trans (roundF_le hR (hlen k))
  have hso : ∀ k, Sound R I (iter (roundF R) k m) := by
    intro k
    induction k with
    | zero => exact fun s hs => .init ((hI s).1 hs)
    | succ k ih => rw [iter_succ]; exact roundF_sound (fun _ h => h) hR (hlen k) ih
  have hfix := iter_fix (f := roundF R) (K := n) (m := m) (fun k => roundF_le hR (hlen k)) (fun k => by have := cnt_le (iter (roundF R) k m); rw [hlen k] at this; omega)
  exact IsDer.mk' (hlen n) (hso n) ⟨fun s hs => (hle n).2 s ((hI s).2 hs), roundF_fix hR (hlen n) hfix⟩
end Go.Proofs.Ytphmmppmhphgeaa

/- The state of grammar.Of, and what its steps leave. -/
set_option linter.unusedVariables false
set_option linter.unusedSimpArgs false
namespace Go.Proofs.Ytphmmppmhphgeaa
open Go.RowKit Go.Proofs.YtphmmppmhphgeaaW.PrintWords

theorem M_alt_inv {w : World} {base : Nat} {ok : Nat → Prop} {x : Alt} {cs : List Value} (h : kAlt.M w base ok x cs) : ∃ u, cs = [.int .i64 x.left.kind, .string x.left.text, .int .i64 x.left.pos, u] ∧ kTok.R 49 w base ok u x.right := by
  obtain ⟨a, b, rfl, h1, ⟨u, rfl, h2⟩⟩ := h
  have h3 := K_tok (Kd.K_of_M _ h1)
  subst h3
  exact ⟨u, rfl, h2⟩
theorem at_altR {W : World} {base : Nat} {ok : Nat → Prop} {A : Option Addr} {n c : Nat} {xs : List Alt} (h : kAlt.R 74 W base ok (.slice A n c) xs) (i : Nat) (hi : i < xs.length) :
    ∃ ad A1 c1, A = some ad ∧ W.cell? (ad.add (i * 4)) = some (.int .i64 (xs[i]'hi).left.kind) ∧ W.cell? ⟨(ad.add (i * 4)).block, (ad.add (i * 4)).off + 1, none⟩ = some (.string (xs[i]'hi).left.text) ∧ W.cell? ⟨(ad.add (i * 4)).block, (ad.add (i * 4)).off + 2, none⟩ = some (.int .i64 (xs[i]'hi).left.pos) ∧ W.cell? ⟨(ad.add (i * 4)).block, (ad.add (i * 4)).off + 3, none⟩ = some (.slice A1 (xs[i]'hi).right.length c1) ∧ kTok.R 49 W base ok (.slice A1 (xs[i]'hi).right.length c1) (xs[i]'hi).right := by
  obtain ⟨hn, hc, hC⟩ := Kd.R_reads' h
  obtain ⟨ad, A1, c1, rfl, h1, h2, h3, h4, _, _⟩ := at_alt hC i hi
  obtain ⟨g, cap, he, _⟩ := Kd.R_form h (by omega)
  injection he with e1 e2 e3
  injection e1 with e1
  subst e1
  obtain ⟨cs, hl, hM, hcell, _⟩ := Kd.R_elem h (xs[i]'hi) i (by omega) (by omega)
  rw [show (i : Int).toNat = i by omega, List.getD_eq_getElem?_getD, List.getElem?_eq_getElem hi] at hM
  obtain ⟨u, rfl, hu⟩ := M_alt_inv hM
  have hc3 := hcell 3 u rfl
  have h5 : W.cell? ⟨g, i * 4 + 3, none⟩ = some (.slice A1 (xs[i]'hi).right.length c1) := by
    have h5 := h4
    rw [add_plain] at h5
    exact h5
  have hsz : kAlt.sz = 4 := rfl
  rw [hsz, show (i : Int).toNat = i by omega, h5] at hc3
  injection hc3 with hc3
  subst hc3
  exact ⟨_, A1, c1, rfl, h1, h2, h3, h4, Kd.R_mono hu (fun _ hk => hk.1)⟩

/-- The state of the making of a grammar, entered in w: the results' two cells, the three rows, the alternatives. -/
structure OfSt (w W : World) (ts ns : List ByteArray) (rs : List Rule) (v1 v2 v3 : Value) (va : Value) (alts : List Alt) : Prop where
  cellG : W.heap[w.heap.size]? = some (.cells #[v1, v2, v3] 25 (0, 0))
  cellF : W.heap[w.heap.size + 1]? = some (.cells #[.int .i64 0, .int .i64 0] 30 (0, 0))
  terms : kStr.R 9 W w.heap.size (fun k => some k ≠ v2.ownBlock) v1 ts
  names : kStr.R 9 W w.heap.size (fun k => some k ≠ v1.ownBlock) v2 ns
  rules : kRule.R 56 W w.heap.size (fun _ => True) v3 rs
  alts : kAlt.R 74 W w.heap.size (fun _ => True) va alts
  below : Below w.heap.size w W
section
variable {w W W1 : World} {ts ns xs1 : List ByteArray} {rs rs1 : List Rule} {v1 v2 v3 va v' : Value} {alts : List Alt}
theorem OfSt.step_ (h : OfSt w W ts ns rs v1 v2 v3 va alts) (hb : Below W.heap.size W W1) : OfSt w W1 ts ns rs v1 v2 v3 va alts :=
  ⟨blk_below h.cellG hb, blk_below h.cellF hb, Kd.R_below h.terms hb, Kd.R_below h.names hb, Kd.R_below h.rules hb, Kd.R_below h.alts hb, below_then h.below h.below.size hb⟩
theorem OfSt.addName (h : OfSt w W ts ns rs v1 v2 v3 va alts) (a : Appd kStr 9 w W w.heap.size (fun k => some k ≠ v1.ownBlock) v2 xs1 v' W1) : OfSt w (W1.setCell ⟨w.heap.size, 1, none⟩ v') ts xs1 rs v1 v' v3 va alts := by
  have g1 := blk_grown h.cellG a.grown (Kd.R_ne h.names h.cellG (by decide))
  have f1 := blk_grown h.cellF a.grown (Kd.R_ne h.names h.cellF (by decide))
  exact ⟨blk_set g1 1 _, blk_far (p := ⟨w.heap.size, 1, none⟩) f1 (by show w.heap.size + 1 ≠ w.heap.size; omega) _, Kd.R_set (two_append h.terms a) g1 (by decide) 1 _, Kd.R_set a.row g1 (by decide) 1 _, Kd.R_set (Kd.R_over h.rules h.names (by decide) a.grown) g1 (by decide) 1 _, Kd.R_set (Kd.R_over h.alts h.names (by decide) a.grown) g1 (by decide) 1 _, below_set a.below (Nat.le_refl _) 1 _⟩
theorem OfSt.addTerm (h : OfSt w W ts ns rs v1 v2 v3 va alts) (a : Appd kStr 9 w W w.heap.size (fun k => some k ≠ v2.ownBlock) v1 xs1 v' W1) : OfSt w (W1.setCell ⟨w.heap.size, 0, none⟩ v') xs1 ns rs v' v2 v3 va alts := by
  have g1 := blk_grown h.cellG a.grown (Kd.R_ne h.terms h.cellG (by decide))
  have f1 := blk_grown h.cellF a.grown (Kd.R_ne h.terms h.cellF (by decide))
  exact ⟨blk_set g1 0 _, blk_far (p := ⟨w.heap.size, 0, none⟩) f1 (by show w.heap.size + 1 ≠ w.heap.size; omega) _, Kd.R_set a.row g1 (by decide) 0 _, Kd.R_set (two_append h.names a) g1 (by decide) 0 _, Kd.R_set (Kd.R_over h.rules h.terms (by decide) a.grown) g1 (by decide) 0 _, Kd.R_set (Kd.R_over h.alts h.terms (by decide) a.grown) g1 (by decide) 0 _, below_set a.below (Nat.le_refl _) 0 _⟩
theorem OfSt.addRule (h : OfSt w W ts ns rs v1 v2 v3 va alts) (a : Appd kRule 56 w W w.heap.size (fun _ => True) v3 rs1 v' W1) : OfSt w (W1.setCell ⟨w.heap.size, 2, none⟩ v') ts ns rs1 v1 v2 v' va alts := by
  have g1 := blk_grown h.cellG a.grown (Kd.R_ne h.rules h.cellG (by decide))
  have f1 := blk_grown h.cellF a.grown (Kd.R_ne h.rules h.cellF (by decide))
  exact ⟨blk_set g1 2 _, blk_far (p := ⟨w.heap.size, 2, none⟩) f1 (by show w.heap.size + 1 ≠ w.heap.size; omega) _, Kd.R_set (Kd.R_over h.terms h.rules (by decide) a.grown) g1 (by decide) 2 _, Kd.R_set (Kd.R_over h.names h.rules (by decide) a.grown) g1 (by decide) 2 _, Kd.R_set a.row g1 (by decide) 2 _, Kd.R_set (Kd.R_over h.alts h.rules (by decide) a.grown) g1 (by decide) 2 _, below_set a.below (Nat.le_refl _) 2 _⟩
/-- The tokens of an alternative, behind an append onto a row of texts and its store. -/
theorem OfSt.toks (h : OfSt w W ts ns rs v1 v2 v3 va alts) {ok ok' : Nat → Prop} {u : Value} {xs : List Tok} {us : List ByteArray} {y : Value} (hr : kStr.R 9 W w.heap.size ok' y us) (ht : kTok.R 49 W w.heap.size ok u xs) (hg : W.grownBy W1 y.ownBlock) (j : Nat) : kTok.R 49 (W1.setCell ⟨w.heap.size, j, none⟩ v') w.heap.size ok u xs :=
  Kd.R_set (Kd.R_over ht hr (by decide) hg) (blk_grown h.cellG hg (Kd.R_ne hr h.cellG (by decide))) (by decide) j _
theorem OfSt.rep {A1 A2 A3 : Option Addr} {n1 n2 n3 c1 c2 c3 : Nat} (h : OfSt w W ts ns rs (.slice A1 n1 c1) (.slice A2 n2 c2) (.slice A3 n3 c3) va alts) : n1 = ts.length ∧ n2 = ns.length ∧ n3 = rs.length ∧ RepG W ⟨ts, ns, rs⟩ A1 A2 A3 c1 c2 c3 := by
  obtain ⟨h1, k1, r1⟩ := Kd.R_reads' h.terms
  obtain ⟨h2, k2, r2⟩ := Kd.R_reads' h.names
  obtain ⟨h3, k3, r3⟩ := Kd.R_reads' h.rules
  exact ⟨h1, h2, h3, r1, r2, r3, by show ts.length ≤ c1; omega, by show ns.length ≤ c2; omega, by show rs.length ≤ c3; omega⟩
/-- The state is laid into its own cells anew. -/
theorem OfSt.final (h : OfSt w W ts ns rs v1 v2 v3 va alts) : OfSt w (((((W.setCell ⟨w.heap.size, 0, none⟩ v1).setCell ⟨w.heap.size, 1, none⟩ v2).setCell ⟨w.heap.size, 2, none⟩ v3).setCell ⟨w.heap.size + 1, 0, none⟩ (.int .i64 0)).setCell ⟨w.heap.size + 1, 1, none⟩ (.int .i64 0)) ts ns rs v1 v2 v3 va alts := by
  have hne : w.heap.size ≠ w.heap.size + 1 := by omega
  have g0 := h.cellG
  have g1 := blk_set g0 0 v1
  have g2 := blk_set g1 1 v2
  have g3 := blk_set g2 2 v3
  have f0 := h.cellF
  have f1 := blk_far (p := ⟨w.heap.size, 0, none⟩) f0 hne.symm v1
  have f2 := blk_far (p := ⟨w.heap.size, 1, none⟩) f1 hne.symm v2
  have f3 := blk_far (p := ⟨w.heap.size, 2, none⟩) f2 hne.symm v3
  have f4 := blk_set f3 0 (.int .i64 0)
  have f5 := blk_set f4 1 (.int .i64 0)
  exact ⟨blk_far (p := ⟨w.heap.size + 1, 1, none⟩) (blk_far (p := ⟨w.heap.size + 1, 0, none⟩) g3 hne _) hne _, f5,
    Kd.R_set (Kd.R_set (Kd.R_set (Kd.R_set (Kd.R_set h.terms g0 (by decide) 0 _) g1 (by decide) 1 _) g2 (by decide) 2 _) f3 (by decide) 0 _) f4 (by decide) 1 _,
    Kd.R_set (Kd.R_set (Kd.R_set (Kd.R_set (Kd.R_set h.names g0 (by decide) 0 _) g1 (by decide) 1 _) g2 (by decide) 2 _) f3 (by decide) 0 _) f4 (by decide) 1 _,
    Kd.R_set (Kd.R_set (Kd.R_set (Kd.R_set (Kd.R_set h.rules g0 (by decide) 0 _) g1 (by decide) 1 _) g2 (by decide) 2 _) f3 (by decide) 0 _) f4 (by decide) 1 _,
    Kd.R_set (Kd.R_set (Kd.R_set (Kd.R_set (Kd.R_set h.alts g0 (by decide) 0 _) g1 (by decide) 1 _) g2 (by decide) 2 _) f3 (by decide) 0 _) f4 (by decide) 1 _,
    below_set (below_set (below_set (below_set (below_set h.below (Nat.le_refl _) _ _) (Nat.le_refl _) _ _) (Nat.le_refl _) _ _) (by omega) _ _) (by omega) _ _⟩
end
theorem app_rule {ops : Array Oper} {rest : List Oper} {o : Oper} {a : Act} {Q : Exit → Act → World → Prop} {w0 W : World} {base : Nat} {v : Value} {s x : Operand} {xs : List Rule} {p : Rule} {u : Value} {ok : Nat → Prop} (hgd : o.guard = none) (ho : o.op = .call { callee := .builtin .append, args := #[s, x], argTypes := #[23, 23] })
    (HO : kRule.R 56 W base (fun _ => True) v xs) (HU : kInt.R 3 W base (fun q => some q ≠ v.ownBlock) u p.right) (HB : Below base w0 W) (hbase : base ≤ W.heap.size) (hl : xs.length + 1 ≤ 2000000000000) (hs : a.eval s = v) (hx : a.eval x = .slice (some ⟨W.heap.size, 0, none⟩) 1 1)
    (h : ∀ v1 w1, Appd kRule 56 w0 W base (fun _ => True) v (xs ++ [p]) v1 w1 → wpList Try.prog ops Q rest (a.put o.dst v1) w1) :
    wpList Try.prog ops Q (o :: rest) a (W.alloc (.cells #[.int .i64 p.left, u] 56)) :=
  Kd.R_append kRule base hgd s x 23 56 _ 32 ho Try.underlying23 infoRule rfl (by decide) (by decide) v xs p [.int .i64 p.left, u] (fun _ => True) (fun q => some q ≠ v.ownBlock) hs hx (M_rule HU) (fun _ h => ⟨trivial, h⟩) (fun _ _ => trivial) HO HB hbase (by omega) (fun v1 w1 h1 h2 h3 h4 => h v1 w1 ⟨h1, h2, h3, h4⟩)
end Go.Proofs.Ytphmmppmhphgeaa
