/- The contract of keep.Grammar: two grammars are the same. -/
import Derived.Test.YtphmmppmhphgeaaE2
import Derived.Test.YtphmmppmhphgeaaE4
import Derived.Test.YtphmmppmhphgeaaWLast
set_option linter.unusedVariables false
set_option linter.unusedSimpArgs false
namespace Go.Proofs.Ytphmmppmhphgeaa
open Go.RowKit Go.Proofs.YtphmmppmhphgeaaW.PrintWords Go.Proofs.YtphmmppmhphgeaaW.PrintLast

def sameF (g h : Gram) : Bool := decide (g.terms = h.terms) && decide (g.names = h.names) && decide (g.rules = h.rules)
structure GK (w W : World) (g h : Gram) (A1 A2 A3 B1 B2 B3 : Option Addr) (c1 c2 c3 d1 d2 d3 : Nat) : Prop where
  rg : RepG W g A1 A2 A3 c1 c2 c3
  rh : RepG W h B1 B2 B3 d1 d2 d3
  p : W.heap[w.heap.size]? = some (.cells #[.slice A1 g.terms.length c1, .slice A2 g.names.length c2, .slice A3 g.rules.length c3] 25 (0, 0))
  q : W.heap[w.heap.size + 1]? = some (.cells #[.slice B1 h.terms.length d1, .slice B2 h.names.length d2, .slice B3 h.rules.length d3] 25 (0, 0))
  b : Below w.heap.size w W
theorem GK.below_ {w W W1 : World} {g h : Gram} {A1 A2 A3 B1 B2 B3 : Option Addr} {c1 c2 c3 d1 d2 d3 : Nat} (k : GK w W g h A1 A2 A3 B1 B2 B3 c1 c2 c3 d1 d2 d3) (hb : Below W.heap.size W W1) : GK w W1 g h A1 A2 A3 B1 B2 B3 c1 c2 c3 d1 d2 d3 :=
  ⟨k.rg.below_ hb, k.rh.below_ hb, blk_below k.p hb, blk_below k.q hb, below_then k.b k.b.size hb⟩

set_option maxRecDepth 100000 in
set_option maxHeartbeats 4000000 in
theorem keepGrammar_c (g h : Gram) (A1 A2 A3 B1 B2 B3 : Option Addr) (c1 c2 c3 d1 d2 d3 : Nat) (w : World) (hg : RepG w g A1 A2 A3 c1 c2 c3) (hh : RepG w h B1 B2 B3 d1 d2 d3) :
    Calls Try.prog 22 #[.agg #[.slice A1 g.terms.length c1, .slice A2 g.names.length c2, .slice A3 g.rules.length c3], .agg #[.slice B1 h.terms.length d1, .slice B2 h.names.length d2, .slice B3 h.rules.length d3]] w fun e w' => e = .returned (.bool (sameF g h)) ∧ Below w.heap.size w w' := by
  have HK0 : Aside0 (GK w ((w.alloc (.cells #[.slice A1 g.terms.length c1, .slice A2 g.names.length c2, .slice A3 g.rules.length c3] 25 (0, 0))).alloc (.cells #[.slice B1 h.terms.length d1, .slice B2 h.names.length d2, .slice B3 h.rules.length d3] 25 (0, 0))) g h A1 A2 A3 B1 B2 B3 c1 c2 c3 d1 d2 d3) := ⟨by
    have hW : Below w.heap.size w ((w.alloc (.cells #[.slice A1 g.terms.length c1, .slice A2 g.names.length c2, .slice A3 g.rules.length c3] 25 (0, 0))).alloc (.cells #[.slice B1 h.terms.length d1, .slice B2 h.names.length d2, .slice B3 h.rules.length d3] 25 (0, 0))) := ((Below.refl w.heap.size w).alloc (Nat.le_refl _) _).alloc (by simp) _
    exact ⟨hg.below_ hW, hh.below_ hW, blk_alloc (blk_new w _) _, blk_two w _ _, hW⟩⟩
  have hm1 := C_max hg.rules
  have hm2 := C_max hh.rules
  clear hg hh
  cases ht : decide (g.terms = h.terms) with
  | false =>
    have HT := Lib.hid ht
    clear ht
    go_enter Try.func22, Try.ntmps22
    go_wp2_with (go_at_call 54; go_loud (refine (keepTexts_c _ _ _ _ _ _ _ _ _ HK0.out.rg.terms HK0.out.rh.terms).mono ?_; rw [HT.out]; rintro e w1 ⟨rfl, hb1⟩; have HK1 := Aside0.mk (HK0.out.below_ hb1); clear hb1; have a1 := blk_cell HK1.out.p 1; have a2 := blk_cell HK1.out.q 1; simp only [List.getElem?_toArray, List.getElem?_cons_zero, List.getElem?_cons_succ] at a1 a2))
    go_ret
    exact ⟨ret_bool (by unfold sameF; rw [HT.out]; rfl), HK1.out.b⟩
  | true =>
    have HT := Lib.hid ht
    clear ht
    cases hn : decide (g.names = h.names) with
    | false =>
      have HN := Lib.hid hn
      clear hn
      go_enter Try.func22, Try.ntmps22
      go_wp2_with (first | (have hx := HK1.out; go_at_call 54; go_loud (refine (keepTexts_c _ _ _ _ _ _ _ _ _ HK1.out.rg.names HK1.out.rh.names).mono ?_; rw [HN.out]; rintro e w2 ⟨rfl, hb2⟩; have HK2 := Aside0.mk (HK1.out.below_ hb2); clear hb2; have b1 := blk_cell HK2.out.p 2; have b2 := blk_cell HK2.out.q 2; simp only [List.getElem?_toArray, List.getElem?_cons_zero, List.getElem?_cons_succ] at b1 b2)) | (go_at_call 54; go_loud (refine (keepTexts_c _ _ _ _ _ _ _ _ _ HK0.out.rg.terms HK0.out.rh.terms).mono ?_; rw [HT.out]; rintro e w1 ⟨rfl, hb1⟩; have HK1 := Aside0.mk (HK0.out.below_ hb1); clear hb1; have a1 := blk_cell HK1.out.p 1; have a2 := blk_cell HK1.out.q 1; simp only [List.getElem?_toArray, List.getElem?_cons_zero, List.getElem?_cons_succ] at a1 a2)))
      go_ret
      exact ⟨ret_bool (by unfold sameF; rw [HT.out, HN.out]; rfl), HK2.out.b⟩
    | true =>
      have HN := Lib.hid hn
      clear hn
      by_cases hl : g.rules.length = h.rules.length
      · have HL := Lib.hid hl
        have hlb : ((g.rules.length : Int) != (h.rules.length : Int)) = false := by rw [hl]; simp
        clear hl
        go_enter Try.func22, Try.ntmps22
        go_wp2_with (first | (have hx := HK1.out; go_at_call 54; go_loud (refine (keepTexts_c _ _ _ _ _ _ _ _ _ HK1.out.rg.names HK1.out.rh.names).mono ?_; rw [HN.out]; rintro e w2 ⟨rfl, hb2⟩; have HK2 := Aside0.mk (HK1.out.below_ hb2); clear hb2; have b1 := blk_cell HK2.out.p 2; have b2 := blk_cell HK2.out.q 2; simp only [List.getElem?_toArray, List.getElem?_cons_zero, List.getElem?_cons_succ] at b1 b2)) | (go_at_call 54; go_loud (refine (keepTexts_c _ _ _ _ _ _ _ _ _ HK0.out.rg.terms HK0.out.rh.terms).mono ?_; rw [HT.out]; rintro e w1 ⟨rfl, hb1⟩; have HK1 := Aside0.mk (HK0.out.below_ hb1); clear hb1; have a1 := blk_cell HK1.out.p 1; have a2 := blk_cell HK1.out.q 1; simp only [List.getElem?_toArray, List.getElem?_cons_zero, List.getElem?_cons_succ] at a1 a2)))
        clear HK0 HK1 a1 a2 b1 b2
        go_loopw [5] (fun i wr => ∃ k : Nat, k ≤ g.rules.length ∧ i = .int .i64 k ∧ Aside0 (∀ j (hj : j < g.rules.length), j < k → g.rules[j] = h.rules[j]'(by have := HL.out; omega)) ∧ Aside0 (GK w wr g h A1 A2 A3 B1 B2 B3 c1 c2 c3 d1 d2 d3)) (fun i _ => g.rules.length - (intOf i).toNat)
        case atStart => exact ⟨0, Nat.zero_le _, rfl, ⟨fun j hj hjk => by omega⟩, HK2⟩
        case round =>
          clear HK2
          obtain ⟨k, hk, rfl, HJ, HK⟩ := hrel
          have q1 := blk_cell HK.out.p 2
          have q2 := blk_cell HK.out.q 2
          simp only [List.getElem?_toArray, List.getElem?_cons_zero, List.getElem?_cons_succ] at q1 q2
          by_cases hlt : k < g.rules.length
          · have hlt2 : k < h.rules.length := by have := HL.out; omega
            obtain ⟨ad, E1, e1, ead, hx1, hx2, _, hE1⟩ := at_rule HK.out.rg.rules k hlt
            obtain ⟨bd, F1, f1, ebd, hy1, hy2, _, hF1⟩ := at_rule HK.out.rh.rules k hlt2
            cases ead
            cases ebd
            obtain ⟨a, ha⟩ : ∃ a, a = g.rules[k]'hlt := ⟨_, rfl⟩
            obtain ⟨b, hb⟩ : ∃ b, b = h.rules[k]'hlt2 := ⟨_, rfl⟩
            rw [← ha] at hx1 hx2 hE1
            rw [← hb] at hy1 hy2 hF1
            have HAB := Aside0.mk (And.intro ha hb)
            clear ha hb
            obtain ⟨al, ar⟩ := a
            obtain ⟨bl, br⟩ := b
            dsimp only at hx1 hx2 hE1 hy1 hy2 hF1
            have HE1 := Aside0.mk hE1
            have HF1 := Aside0.mk hF1
            clear hE1 hF1
            have i1 : (0 : Int) ≤ (k : Int) := by omega
            have i2 : (k : Int) < (g.rules.length : Int) := by omega
            have i3 : (k : Int) < (h.rules.length : Int) := by omega
            by_cases hab : al = bl
            · have dab : (al != bl) = false := by simp [hab]
              cases hi : decide (ar = br) with
              | true =>
                have HI := Lib.hid hi
                have HAL := Aside0.mk hab
                clear hab hi
                go_wp2
                refine start_ (n := 29) (S := fun w' => w'.heap[w.heap.size]? = some (.cells #[.slice A1 g.terms.length c1, .slice A2 g.names.length c2, .slice (some ad) g.rules.length c3] 25 (0, 0)) ∧ w'.heap[w.heap.size + 1]? = some (.cells #[.slice B1 h.terms.length d1, .slice B2 h.names.length d2, .slice (some bd) h.rules.length d3] 25 (0, 0)) ∧ w'.cell? (ad.add (k * 2)) = some (.int .i64 al) ∧ w'.cell? ⟨(ad.add (k * 2)).block, (ad.add (k * 2)).off + 1, none⟩ = some (.slice E1 ar.length e1) ∧ w'.cell? (bd.add (k * 2)) = some (.int .i64 bl) ∧ w'.cell? ⟨(bd.add (k * 2)).block, (bd.add (k * 2)).off + 1, none⟩ = some (.slice F1 br.length f1)) (ds := [26]) #[false, false, false, false, false, false, false, false, false, false, false, false, false, false, false, false, false, false, false, false, false, false, false, false, false, false, false, false, false] (by kernel_rfl) rfl rfl (⟨blk_drew HK.out.p, blk_drew HK.out.q, hx1, hx2, hy1, hy2⟩) (fun hHeld => ?_)
                refine pure_ (i := 0) (N := (some 36)) (v := ?_) (a' := ?_) #[true, false, false, false, false, false, false, false, false, false, false, false, false, false, false, false, false, false, false, false, false, false, false, false, false, false, false, false, false] rfl rfl (by kernel_rfl) (fun _ _ _ h => h) (Or.inl ⟨by rfl, ?_⟩) ?_ ?_
                rotate_left
                · (intro w'; go_simp; with_reducible rfl)
                rotate_left
                · (simp only [Act.put, List.setIfInBounds_toArray, List.set_cons_zero, List.set_cons_succ]; rfl)
                refine pure_ (i := 2) (N := (some 38)) (v := ?_) (a' := ?_) #[true, false, true, false, false, false, false, false, false, false, false, false, false, false, false, false, false, false, false, false, false, false, false, false, false, false, false, false, false] rfl rfl (by kernel_rfl) (fun _ _ _ h => h) (Or.inl ⟨by rfl, ?_⟩) ?_ ?_
                rotate_left
                · (intro w'; go_simp; with_reducible rfl)
                rotate_left
                · (simp only [Act.put, List.setIfInBounds_toArray, List.set_cons_zero, List.set_cons_succ]; rfl)
                refine pure_ (i := 6) (N := (some 42)) (v := ?_) (a' := ?_) #[true, false, true, false, false, false, true, false, false, false, false, false, false, false, false, false, false, false, false, false, false, false, false, false, false, false, false, false, false] rfl rfl (by kernel_rfl) (fun _ _ _ h => h) (Or.inl ⟨by rfl, ?_⟩) ?_ ?_
                rotate_left
                · (intro w'; go_simp; with_reducible rfl)
                rotate_left
                · (simp only [Act.put, List.setIfInBounds_toArray, List.set_cons_zero, List.set_cons_succ]; rfl)
                refine pure_ (i := 8) (N := (some 44)) (v := ?_) (a' := ?_) #[true, false, true, false, false, false, true, false, true, false, false, false, false, false, false, false, false, false, false, false, false, false, false, false, false, false, false, false, false] rfl rfl (by kernel_rfl) (fun _ _ _ h => h) (Or.inl ⟨by rfl, ?_⟩) ?_ ?_
                rotate_left
                · (intro w'; go_simp; with_reducible rfl)
                rotate_left
                · (simp only [Act.put, List.setIfInBounds_toArray, List.set_cons_zero, List.set_cons_succ]; rfl)
                refine take_ (i := 1) (N := (some 37)) (v := ?_) (a' := ?_) #[true, true, true, false, false, false, true, false, true, false, false, false, false, false, false, false, false, false, false, false, false, false, false, false, false, false, false, false, false] rfl rfl (by kernel_rfl) (fun _ _ _ h => h) (Or.inl ⟨by rfl, ?_⟩) hHeld ?_ ?_
                rotate_left
                · (rintro w' ⟨s0, s1, s2, s3, s4, s5⟩; have z0 := blk_cell s0 2; have z1 := blk_cell s1 2; simp only [List.getElem?_toArray, List.getElem?_cons_zero, List.getElem?_cons_succ] at z0 z1; go_simp; with_reducible rfl)
                rotate_left
                · (simp only [Act.put, List.setIfInBounds_toArray, List.set_cons_zero, List.set_cons_succ]; rfl)
                refine pure_ (i := 3) (N := (some 39)) (v := ?_) (a' := ?_) #[true, true, true, true, false, false, true, false, true, false, false, false, false, false, false, false, false, false, false, false, false, false, false, false, false, false, false, false, false] rfl rfl (by kernel_rfl) (fun _ _ _ h => h) (Or.inl ⟨by rfl, ?_⟩) ?_ ?_
                rotate_left
                · (intro w'; go_simp; with_reducible rfl)
                rotate_left
                · (simp only [Act.put, List.setIfInBounds_toArray, List.set_cons_zero, List.set_cons_succ]; rfl)
                refine pure_ (i := 4) (N := (some 40)) (v := ?_) (a' := ?_) #[true, true, true, true, true, false, true, false, true, false, false, false, false, false, false, false, false, false, false, false, false, false, false, false, false, false, false, false, false] rfl rfl (by kernel_rfl) (fun _ _ _ h => h) (Or.inl ⟨by rfl, ?_⟩) ?_ ?_
                rotate_left
                · (intro w'; go_simp; with_reducible rfl)
                rotate_left
                · (simp only [Act.put, List.setIfInBounds_toArray, List.set_cons_zero, List.set_cons_succ]; rfl)
                refine take_ (i := 5) (N := (some 41)) (v := ?_) (a' := ?_) #[true, true, true, true, true, true, true, false, true, false, false, false, false, false, false, false, false, false, false, false, false, false, false, false, false, false, false, false, false] rfl rfl (by kernel_rfl) (fun _ _ _ h => h) (Or.inl ⟨by rfl, ?_⟩) hHeld ?_ ?_
                rotate_left
                · (rintro w' ⟨s0, s1, s2, s3, s4, s5⟩; have z0 := blk_cell s0 2; have z1 := blk_cell s1 2; simp only [List.getElem?_toArray, List.getElem?_cons_zero, List.getElem?_cons_succ] at z0 z1; go_simp; with_reducible rfl)
                rotate_left
                · (simp only [Act.put, List.setIfInBounds_toArray, List.set_cons_zero, List.set_cons_succ]; rfl)
                refine take_ (i := 7) (N := (some 43)) (v := ?_) (a' := ?_) #[true, true, true, true, true, true, true, true, true, false, false, false, false, false, false, false, false, false, false, false, false, false, false, false, false, false, false, false, false] rfl rfl (by kernel_rfl) (fun _ _ _ h => h) (Or.inl ⟨by rfl, ?_⟩) hHeld ?_ ?_
                rotate_left
                · (rintro w' ⟨s0, s1, s2, s3, s4, s5⟩; have z0 := blk_cell s0 2; have z1 := blk_cell s1 2; simp only [List.getElem?_toArray, List.getElem?_cons_zero, List.getElem?_cons_succ] at z0 z1; go_simp; with_reducible rfl)
                rotate_left
                · (simp only [Act.put, List.setIfInBounds_toArray, List.set_cons_zero, List.set_cons_succ]; rfl)
                refine pure_ (i := 9) (N := (some 45)) (v := ?_) (a' := ?_) #[true, true, true, true, true, true, true, true, true, true, false, false, false, false, false, false, false, false, false, false, false, false, false, false, false, false, false, false, false] rfl rfl (by kernel_rfl) (fun _ _ _ h => h) (Or.inl ⟨by rfl, ?_⟩) ?_ ?_
                rotate_left
                · (intro w'; go_simp; with_reducible rfl)
                rotate_left
                · (simp only [Act.put, List.setIfInBounds_toArray, List.set_cons_zero, List.set_cons_succ]; rfl)
                refine pure_ (i := 10) (N := (some 46)) (v := ?_) (a' := ?_) #[true, true, true, true, true, true, true, true, true, true, true, false, false, false, false, false, false, false, false, false, false, false, false, false, false, false, false, false, false] rfl rfl (by kernel_rfl) (fun _ _ _ h => h) (Or.inl ⟨by rfl, ?_⟩) ?_ ?_
                rotate_left
                · (intro w'; go_simp; with_reducible rfl)
                rotate_left
                · (simp only [Act.put, List.setIfInBounds_toArray, List.set_cons_zero, List.set_cons_succ]; rfl)
                refine take_ (i := 11) (N := (some 47)) (v := ?_) (a' := ?_) #[true, true, true, true, true, true, true, true, true, true, true, true, false, false, false, false, false, false, false, false, false, false, false, false, false, false, false, false, false] rfl rfl (by kernel_rfl) (fun _ _ _ h => h) (Or.inl ⟨by rfl, ?_⟩) hHeld ?_ ?_
                rotate_left
                · (rintro w' ⟨s0, s1, s2, s3, s4, s5⟩; have z0 := blk_cell s0 2; have z1 := blk_cell s1 2; simp only [List.getElem?_toArray, List.getElem?_cons_zero, List.getElem?_cons_succ] at z0 z1; go_simp; with_reducible rfl)
                rotate_left
                · (simp only [Act.put, List.setIfInBounds_toArray, List.set_cons_zero, List.set_cons_succ]; rfl)
                refine pure_ (i := 12) (N := (some 48)) (v := ?_) (a' := ?_) #[true, true, true, true, true, true, true, true, true, true, true, true, true, false, false, false, false, false, false, false, false, false, false, false, false, false, false, false, false] rfl rfl (by kernel_rfl) (fun _ _ _ h => h) (Or.inl ⟨by rfl, ?_⟩) ?_ ?_
                rotate_left
                · (intro w'; go_simp; with_reducible rfl)
                rotate_left
                · (simp only [Act.put, List.setIfInBounds_toArray, List.set_cons_zero, List.set_cons_succ]; rfl)
                refine pure_ (i := 13) (N := (some 49)) (v := ?_) (a' := ?_) #[true, true, true, true, true, true, true, true, true, true, true, true, true, true, false, false, false, false, false, false, false, false, false, false, false, false, false, false, false] rfl rfl (by kernel_rfl) (fun _ _ _ h => h) (Or.inl ⟨by rfl, ?_⟩) ?_ ?_
                rotate_left
                · (intro w'; go_simp; with_reducible rfl)
                rotate_left
                · (simp only [Act.put, List.setIfInBounds_toArray, List.set_cons_zero, List.set_cons_succ]; rfl)
                refine pure_ (i := 14) (N := (some 50)) (v := ?_) (a' := ?_) #[true, true, true, true, true, true, true, true, true, true, true, true, true, true, true, false, false, false, false, false, false, false, false, false, false, false, false, false, false] rfl rfl (by kernel_rfl) (fun _ _ _ h => h) (Or.inl ⟨by rfl, ?_⟩) ?_ ?_
                rotate_left
                · (intro w'; go_simp; with_reducible rfl)
                rotate_left
                · (simp only [Act.put, List.setIfInBounds_toArray, List.set_cons_zero, List.set_cons_succ]; rfl)
                refine pure_ (i := 16) (N := (some 52)) (v := ?_) (a' := ?_) #[true, true, true, true, true, true, true, true, true, true, true, true, true, true, true, false, true, false, false, false, false, false, false, false, false, false, false, false, false] rfl rfl (by kernel_rfl) (fun _ _ _ h => h) (Or.inl ⟨by rfl, ?_⟩) ?_ ?_
                rotate_left
                · (intro w'; go_simp; with_reducible rfl)
                rotate_left
                · (simp only [Act.put, List.setIfInBounds_toArray, List.set_cons_zero, List.set_cons_succ]; rfl)
                refine pure_ (i := 20) (N := (some 56)) (v := ?_) (a' := ?_) #[true, true, true, true, true, true, true, true, true, true, true, true, true, true, true, false, true, false, false, false, true, false, false, false, false, false, false, false, false] rfl rfl (by kernel_rfl) (fun _ _ _ h => h) (Or.inl ⟨by rfl, ?_⟩) ?_ ?_
                rotate_left
                · (intro w'; go_simp; with_reducible rfl)
                rotate_left
                · (simp only [Act.put, List.setIfInBounds_toArray, List.set_cons_zero, List.set_cons_succ]; rfl)
                refine pure_ (i := 22) (N := (some 58)) (v := ?_) (a' := ?_) #[true, true, true, true, true, true, true, true, true, true, true, true, true, true, true, false, true, false, false, false, true, false, true, false, false, false, false, false, false] rfl rfl (by kernel_rfl) (fun _ _ _ h => h) (Or.inl ⟨by rfl, ?_⟩) ?_ ?_
                rotate_left
                · (intro w'; go_simp; with_reducible rfl)
                rotate_left
                · (simp only [Act.put, List.setIfInBounds_toArray, List.set_cons_zero, List.set_cons_succ]; rfl)
                refine take_ (i := 15) (N := (some 51)) (v := ?_) (a' := ?_) #[true, true, true, true, true, true, true, true, true, true, true, true, true, true, true, true, true, false, false, false, true, false, true, false, false, false, false, false, false] rfl rfl (by kernel_rfl) (fun _ _ _ h => h) (Or.inl ⟨by rfl, ?_⟩) hHeld ?_ ?_
                rotate_left
                · (rintro w' ⟨s0, s1, s2, s3, s4, s5⟩; have z0 := blk_cell s0 2; have z1 := blk_cell s1 2; simp only [List.getElem?_toArray, List.getElem?_cons_zero, List.getElem?_cons_succ] at z0 z1; go_simp; with_reducible rfl)
                rotate_left
                · (simp only [Act.put, List.setIfInBounds_toArray, List.set_cons_zero, List.set_cons_succ]; rfl)
                refine pure_ (i := 17) (N := (some 53)) (v := ?_) (a' := ?_) #[true, true, true, true, true, true, true, true, true, true, true, true, true, true, true, true, true, true, false, false, true, false, true, false, false, false, false, false, false] rfl rfl (by kernel_rfl) (fun _ _ _ h => h) (Or.inl ⟨by rfl, ?_⟩) ?_ ?_
                rotate_left
                · (intro w'; go_simp; with_reducible rfl)
                rotate_left
                · (simp only [Act.put, List.setIfInBounds_toArray, List.set_cons_zero, List.set_cons_succ]; rfl)
                refine pure_ (i := 18) (N := (some 54)) (v := ?_) (a' := ?_) #[true, true, true, true, true, true, true, true, true, true, true, true, true, true, true, true, true, true, true, false, true, false, true, false, false, false, false, false, false] rfl rfl (by kernel_rfl) (fun _ _ _ h => h) (Or.inl ⟨by rfl, ?_⟩) ?_ ?_
                rotate_left
                · (intro w'; go_simp; with_reducible rfl)
                rotate_left
                · (simp only [Act.put, List.setIfInBounds_toArray, List.set_cons_zero, List.set_cons_succ]; rfl)
                refine take_ (i := 19) (N := (some 55)) (v := ?_) (a' := ?_) #[true, true, true, true, true, true, true, true, true, true, true, true, true, true, true, true, true, true, true, true, true, false, true, false, false, false, false, false, false] rfl rfl (by kernel_rfl) (fun _ _ _ h => h) (Or.inl ⟨by rfl, ?_⟩) hHeld ?_ ?_
                rotate_left
                · (rintro w' ⟨s0, s1, s2, s3, s4, s5⟩; have z0 := blk_cell s0 2; have z1 := blk_cell s1 2; simp only [List.getElem?_toArray, List.getElem?_cons_zero, List.getElem?_cons_succ] at z0 z1; go_simp; with_reducible rfl)
                rotate_left
                · (simp only [Act.put, List.setIfInBounds_toArray, List.set_cons_zero, List.set_cons_succ]; rfl)
                refine take_ (i := 21) (N := (some 57)) (v := ?_) (a' := ?_) #[true, true, true, true, true, true, true, true, true, true, true, true, true, true, true, true, true, true, true, true, true, true, true, false, false, false, false, false, false] rfl rfl (by kernel_rfl) (fun _ _ _ h => h) (Or.inl ⟨by rfl, ?_⟩) hHeld ?_ ?_
                rotate_left
                · (rintro w' ⟨s0, s1, s2, s3, s4, s5⟩; have z0 := blk_cell s0 2; have z1 := blk_cell s1 2; simp only [List.getElem?_toArray, List.getElem?_cons_zero, List.getElem?_cons_succ] at z0 z1; go_simp; with_reducible rfl)
                rotate_left
                · (simp only [Act.put, List.setIfInBounds_toArray, List.set_cons_zero, List.set_cons_succ]; rfl)
                refine pure_ (i := 23) (N := (some 59)) (v := ?_) (a' := ?_) #[true, true, true, true, true, true, true, true, true, true, true, true, true, true, true, true, true, true, true, true, true, true, true, true, false, false, false, false, false] rfl rfl (by kernel_rfl) (fun _ _ _ h => h) (Or.inl ⟨by rfl, ?_⟩) ?_ ?_
                rotate_left
                · (intro w'; go_simp; with_reducible rfl)
                rotate_left
                · (simp only [Act.put, List.setIfInBounds_toArray, List.set_cons_zero, List.set_cons_succ]; rfl)
                refine pure_ (i := 24) (N := (some 60)) (v := ?_) (a' := ?_) #[true, true, true, true, true, true, true, true, true, true, true, true, true, true, true, true, true, true, true, true, true, true, true, true, true, false, false, false, false] rfl rfl (by kernel_rfl) (fun _ _ _ h => h) (Or.inl ⟨by rfl, ?_⟩) ?_ ?_
                rotate_left
                · (intro w'; go_simp; with_reducible rfl)
                rotate_left
                · (simp only [Act.put, List.setIfInBounds_toArray, List.set_cons_zero, List.set_cons_succ]; rfl)
                refine take_ (i := 25) (N := (some 61)) (v := ?_) (a' := ?_) #[true, true, true, true, true, true, true, true, true, true, true, true, true, true, true, true, true, true, true, true, true, true, true, true, true, true, false, false, false] rfl rfl (by kernel_rfl) (fun _ _ _ h => h) (Or.inl ⟨by rfl, ?_⟩) hHeld ?_ ?_
                rotate_left
                · (rintro w' ⟨s0, s1, s2, s3, s4, s5⟩; have z0 := blk_cell s0 2; have z1 := blk_cell s1 2; simp only [List.getElem?_toArray, List.getElem?_cons_zero, List.getElem?_cons_succ] at z0 z1; go_simp; with_reducible rfl)
                rotate_left
                · (simp only [Act.put, List.setIfInBounds_toArray, List.set_cons_zero, List.set_cons_succ]; rfl)
                refine last_ (i := 26) (N := (some 62)) #[true, true, true, true, true, true, true, true, true, true, true, true, true, true, true, true, true, true, true, true, true, true, true, true, true, true, true, false, false] rfl rfl (by kernel_rfl) (by decide) (fun K hK => ?_)
                (refine goes_ Try.func36 (by kernel_rfl) rfl #[.slice E1 ar.length e1, .slice F1 br.length f1] (by rfl) rfl rfl (by simp [Act.eval]) ?_; refine (keepInts_c _ _ _ _ _ _ _ _ _ (Kd.C_below HE1.out (below_drew1 (Below.refl _ _))) (Kd.C_below HF1.out (below_drew1 (Below.refl _ _)))).mono ?_; rw [HI.out]; rintro e w5 ⟨rfl, hb5⟩; refine ⟨_, rfl, ?_⟩; have HK5 := Aside0.mk ((HK.out.below_ (below_drew1 (Below.refl _ _))).below_ hb5); clear hb5)
                refine hK.out _ _ ?_
                clear hK K
                refine norm_ (a' := ?_) ?_ ?_
                rotate_left
                · (show Act.put _ (some 62) _ = _; simp only [Act.put, List.setIfInBounds_toArray, List.set_cons_zero, List.set_cons_succ]; rfl)
                refine pure_ (i := 27) (N := (some 63)) (v := ?_) (a' := ?_) #[true, true, true, true, true, true, true, true, true, true, true, true, true, true, true, true, true, true, true, true, true, true, true, true, true, true, true, true, false] rfl rfl (by kernel_rfl) (fun _ _ _ h => h) (Or.inl ⟨by rfl, ?_⟩) ?_ ?_
                rotate_left
                · (intro w'; go_simp; with_reducible rfl)
                rotate_left
                · (simp only [Act.put, List.setIfInBounds_toArray, List.set_cons_zero, List.set_cons_succ]; rfl)
                refine pure_ (i := 28) (N := (some 64)) (v := ?_) (a' := ?_) #[true, true, true, true, true, true, true, true, true, true, true, true, true, true, true, true, true, true, true, true, true, true, true, true, true, true, true, true, true] rfl rfl (by kernel_rfl) (fun _ _ _ h => h) (Or.inl ⟨by rfl, ?_⟩) ?_ ?_
                rotate_left
                · (intro w'; go_simp; with_reducible rfl)
                rotate_left
                · (simp only [Act.put, List.setIfInBounds_toArray, List.set_cons_zero, List.set_cons_succ]; rfl)
                refine done_ (by kernel_rfl) ?_
                go_wp2
                go_roundw
                case rel => exact ⟨k + 1, by omega, by go_num, ⟨fun j hj hjk => by
                  rcases Nat.lt_or_ge j k with h2 | h2
                  · exact HJ.out j hj h2
                  · obtain rfl : j = k := by omega
                    rw [← HAB.out.1, ← HAB.out.2, HAL.out, of_decide_eq_true HI.out]⟩, HK5⟩
                case measure => simp [intOf]; omega
              | false =>
                have HI := Lib.hid hi
                have HAL := Aside0.mk hab
                clear hab hi
                go_wp2
                refine start_ (n := 29) (S := fun w' => w'.heap[w.heap.size]? = some (.cells #[.slice A1 g.terms.length c1, .slice A2 g.names.length c2, .slice (some ad) g.rules.length c3] 25 (0, 0)) ∧ w'.heap[w.heap.size + 1]? = some (.cells #[.slice B1 h.terms.length d1, .slice B2 h.names.length d2, .slice (some bd) h.rules.length d3] 25 (0, 0)) ∧ w'.cell? (ad.add (k * 2)) = some (.int .i64 al) ∧ w'.cell? ⟨(ad.add (k * 2)).block, (ad.add (k * 2)).off + 1, none⟩ = some (.slice E1 ar.length e1) ∧ w'.cell? (bd.add (k * 2)) = some (.int .i64 bl) ∧ w'.cell? ⟨(bd.add (k * 2)).block, (bd.add (k * 2)).off + 1, none⟩ = some (.slice F1 br.length f1)) (ds := [26]) #[false, false, false, false, false, false, false, false, false, false, false, false, false, false, false, false, false, false, false, false, false, false, false, false, false, false, false, false, false] (by kernel_rfl) rfl rfl (⟨blk_drew HK.out.p, blk_drew HK.out.q, hx1, hx2, hy1, hy2⟩) (fun hHeld => ?_)
                refine pure_ (i := 0) (N := (some 36)) (v := ?_) (a' := ?_) #[true, false, false, false, false, false, false, false, false, false, false, false, false, false, false, false, false, false, false, false, false, false, false, false, false, false, false, false, false] rfl rfl (by kernel_rfl) (fun _ _ _ h => h) (Or.inl ⟨by rfl, ?_⟩) ?_ ?_
                rotate_left
                · (intro w'; go_simp; with_reducible rfl)
                rotate_left
                · (simp only [Act.put, List.setIfInBounds_toArray, List.set_cons_zero, List.set_cons_succ]; rfl)
                refine pure_ (i := 2) (N := (some 38)) (v := ?_) (a' := ?_) #[true, false, true, false, false, false, false, false, false, false, false, false, false, false, false, false, false, false, false, false, false, false, false, false, false, false, false, false, false] rfl rfl (by kernel_rfl) (fun _ _ _ h => h) (Or.inl ⟨by rfl, ?_⟩) ?_ ?_
                rotate_left
                · (intro w'; go_simp; with_reducible rfl)
                rotate_left
                · (simp only [Act.put, List.setIfInBounds_toArray, List.set_cons_zero, List.set_cons_succ]; rfl)
                refine pure_ (i := 6) (N := (some 42)) (v := ?_) (a' := ?_) #[true, false, true, false, false, false, true, false, false, false, false, false, false, false, false, false, false, false, false, false, false, false, false, false, false, false, false, false, false] rfl rfl (by kernel_rfl) (fun _ _ _ h => h) (Or.inl ⟨by rfl, ?_⟩) ?_ ?_
                rotate_left
                · (intro w'; go_simp; with_reducible rfl)
                rotate_left
                · (simp only [Act.put, List.setIfInBounds_toArray, List.set_cons_zero, List.set_cons_succ]; rfl)
                refine pure_ (i := 8) (N := (some 44)) (v := ?_) (a' := ?_) #[true, false, true, false, false, false, true, false, true, false, false, false, false, false, false, false, false, false, false, false, false, false, false, false, false, false, false, false, false] rfl rfl (by kernel_rfl) (fun _ _ _ h => h) (Or.inl ⟨by rfl, ?_⟩) ?_ ?_
                rotate_left
                · (intro w'; go_simp; with_reducible rfl)
                rotate_left
                · (simp only [Act.put, List.setIfInBounds_toArray, List.set_cons_zero, List.set_cons_succ]; rfl)
                refine take_ (i := 1) (N := (some 37)) (v := ?_) (a' := ?_) #[true, true, true, false, false, false, true, false, true, false, false, false, false, false, false, false, false, false, false, false, false, false, false, false, false, false, false, false, false] rfl rfl (by kernel_rfl) (fun _ _ _ h => h) (Or.inl ⟨by rfl, ?_⟩) hHeld ?_ ?_
                rotate_left
                · (rintro w' ⟨s0, s1, s2, s3, s4, s5⟩; have z0 := blk_cell s0 2; have z1 := blk_cell s1 2; simp only [List.getElem?_toArray, List.getElem?_cons_zero, List.getElem?_cons_succ] at z0 z1; go_simp; with_reducible rfl)
                rotate_left
                · (simp only [Act.put, List.setIfInBounds_toArray, List.set_cons_zero, List.set_cons_succ]; rfl)
                refine pure_ (i := 3) (N := (some 39)) (v := ?_) (a' := ?_) #[true, true, true, true, false, false, true, false, true, false, false, false, false, false, false, false, false, false, false, false, false, false, false, false, false, false, false, false, false] rfl rfl (by kernel_rfl) (fun _ _ _ h => h) (Or.inl ⟨by rfl, ?_⟩) ?_ ?_
                rotate_left
                · (intro w'; go_simp; with_reducible rfl)
                rotate_left
                · (simp only [Act.put, List.setIfInBounds_toArray, List.set_cons_zero, List.set_cons_succ]; rfl)
                refine pure_ (i := 4) (N := (some 40)) (v := ?_) (a' := ?_) #[true, true, true, true, true, false, true, false, true, false, false, false, false, false, false, false, false, false, false, false, false, false, false, false, false, false, false, false, false] rfl rfl (by kernel_rfl) (fun _ _ _ h => h) (Or.inl ⟨by rfl, ?_⟩) ?_ ?_
                rotate_left
                · (intro w'; go_simp; with_reducible rfl)
                rotate_left
                · (simp only [Act.put, List.setIfInBounds_toArray, List.set_cons_zero, List.set_cons_succ]; rfl)
                refine take_ (i := 5) (N := (some 41)) (v := ?_) (a' := ?_) #[true, true, true, true, true, true, true, false, true, false, false, false, false, false, false, false, false, false, false, false, false, false, false, false, false, false, false, false, false] rfl rfl (by kernel_rfl) (fun _ _ _ h => h) (Or.inl ⟨by rfl, ?_⟩) hHeld ?_ ?_
                rotate_left
                · (rintro w' ⟨s0, s1, s2, s3, s4, s5⟩; have z0 := blk_cell s0 2; have z1 := blk_cell s1 2; simp only [List.getElem?_toArray, List.getElem?_cons_zero, List.getElem?_cons_succ] at z0 z1; go_simp; with_reducible rfl)
                rotate_left
                · (simp only [Act.put, List.setIfInBounds_toArray, List.set_cons_zero, List.set_cons_succ]; rfl)
                refine take_ (i := 7) (N := (some 43)) (v := ?_) (a' := ?_) #[true, true, true, true, true, true, true, true, true, false, false, false, false, false, false, false, false, false, false, false, false, false, false, false, false, false, false, false, false] rfl rfl (by kernel_rfl) (fun _ _ _ h => h) (Or.inl ⟨by rfl, ?_⟩) hHeld ?_ ?_
                rotate_left
                · (rintro w' ⟨s0, s1, s2, s3, s4, s5⟩; have z0 := blk_cell s0 2; have z1 := blk_cell s1 2; simp only [List.getElem?_toArray, List.getElem?_cons_zero, List.getElem?_cons_succ] at z0 z1; go_simp; with_reducible rfl)
                rotate_left
                · (simp only [Act.put, List.setIfInBounds_toArray, List.set_cons_zero, List.set_cons_succ]; rfl)
                refine pure_ (i := 9) (N := (some 45)) (v := ?_) (a' := ?_) #[true, true, true, true, true, true, true, true, true, true, false, false, false, false, false, false, false, false, false, false, false, false, false, false, false, false, false, false, false] rfl rfl (by kernel_rfl) (fun _ _ _ h => h) (Or.inl ⟨by rfl, ?_⟩) ?_ ?_
                rotate_left
                · (intro w'; go_simp; with_reducible rfl)
                rotate_left
                · (simp only [Act.put, List.setIfInBounds_toArray, List.set_cons_zero, List.set_cons_succ]; rfl)
                refine pure_ (i := 10) (N := (some 46)) (v := ?_) (a' := ?_) #[true, true, true, true, true, true, true, true, true, true, true, false, false, false, false, false, false, false, false, false, false, false, false, false, false, false, false, false, false] rfl rfl (by kernel_rfl) (fun _ _ _ h => h) (Or.inl ⟨by rfl, ?_⟩) ?_ ?_
                rotate_left
                · (intro w'; go_simp; with_reducible rfl)
                rotate_left
                · (simp only [Act.put, List.setIfInBounds_toArray, List.set_cons_zero, List.set_cons_succ]; rfl)
                refine take_ (i := 11) (N := (some 47)) (v := ?_) (a' := ?_) #[true, true, true, true, true, true, true, true, true, true, true, true, false, false, false, false, false, false, false, false, false, false, false, false, false, false, false, false, false] rfl rfl (by kernel_rfl) (fun _ _ _ h => h) (Or.inl ⟨by rfl, ?_⟩) hHeld ?_ ?_
                rotate_left
                · (rintro w' ⟨s0, s1, s2, s3, s4, s5⟩; have z0 := blk_cell s0 2; have z1 := blk_cell s1 2; simp only [List.getElem?_toArray, List.getElem?_cons_zero, List.getElem?_cons_succ] at z0 z1; go_simp; with_reducible rfl)
                rotate_left
                · (simp only [Act.put, List.setIfInBounds_toArray, List.set_cons_zero, List.set_cons_succ]; rfl)
                refine pure_ (i := 12) (N := (some 48)) (v := ?_) (a' := ?_) #[true, true, true, true, true, true, true, true, true, true, true, true, true, false, false, false, false, false, false, false, false, false, false, false, false, false, false, false, false] rfl rfl (by kernel_rfl) (fun _ _ _ h => h) (Or.inl ⟨by rfl, ?_⟩) ?_ ?_
                rotate_left
                · (intro w'; go_simp; with_reducible rfl)
                rotate_left
                · (simp only [Act.put, List.setIfInBounds_toArray, List.set_cons_zero, List.set_cons_succ]; rfl)
                refine pure_ (i := 13) (N := (some 49)) (v := ?_) (a' := ?_) #[true, true, true, true, true, true, true, true, true, true, true, true, true, true, false, false, false, false, false, false, false, false, false, false, false, false, false, false, false] rfl rfl (by kernel_rfl) (fun _ _ _ h => h) (Or.inl ⟨by rfl, ?_⟩) ?_ ?_
                rotate_left
                · (intro w'; go_simp; with_reducible rfl)
                rotate_left
                · (simp only [Act.put, List.setIfInBounds_toArray, List.set_cons_zero, List.set_cons_succ]; rfl)
                refine pure_ (i := 14) (N := (some 50)) (v := ?_) (a' := ?_) #[true, true, true, true, true, true, true, true, true, true, true, true, true, true, true, false, false, false, false, false, false, false, false, false, false, false, false, false, false] rfl rfl (by kernel_rfl) (fun _ _ _ h => h) (Or.inl ⟨by rfl, ?_⟩) ?_ ?_
                rotate_left
                · (intro w'; go_simp; with_reducible rfl)
                rotate_left
                · (simp only [Act.put, List.setIfInBounds_toArray, List.set_cons_zero, List.set_cons_succ]; rfl)
                refine pure_ (i := 16) (N := (some 52)) (v := ?_) (a' := ?_) #[true, true, true, true, true, true, true, true, true, true, true, true, true, true, true, false, true, false, false, false, false, false, false, false, false, false, false, false, false] rfl rfl (by kernel_rfl) (fun _ _ _ h => h) (Or.inl ⟨by rfl, ?_⟩) ?_ ?_
                rotate_left
                · (intro w'; go_simp; with_reducible rfl)
                rotate_left
                · (simp only [Act.put, List.setIfInBounds_toArray, List.set_cons_zero, List.set_cons_succ]; rfl)
                refine pure_ (i := 20) (N := (some 56)) (v := ?_) (a' := ?_) #[true, true, true, true, true, true, true, true, true, true, true, true, true, true, true, false, true, false, false, false, true, false, false, false, false, false, false, false, false] rfl rfl (by kernel_rfl) (fun _ _ _ h => h) (Or.inl ⟨by rfl, ?_⟩) ?_ ?_
                rotate_left
                · (intro w'; go_simp; with_reducible rfl)
                rotate_left
                · (simp only [Act.put, List.setIfInBounds_toArray, List.set_cons_zero, List.set_cons_succ]; rfl)
                refine pure_ (i := 22) (N := (some 58)) (v := ?_) (a' := ?_) #[true, true, true, true, true, true, true, true, true, true, true, true, true, true, true, false, true, false, false, false, true, false, true, false, false, false, false, false, false] rfl rfl (by kernel_rfl) (fun _ _ _ h => h) (Or.inl ⟨by rfl, ?_⟩) ?_ ?_
                rotate_left
                · (intro w'; go_simp; with_reducible rfl)
                rotate_left
                · (simp only [Act.put, List.setIfInBounds_toArray, List.set_cons_zero, List.set_cons_succ]; rfl)
                refine take_ (i := 15) (N := (some 51)) (v := ?_) (a' := ?_) #[true, true, true, true, true, true, true, true, true, true, true, true, true, true, true, true, true, false, false, false, true, false, true, false, false, false, false, false, false] rfl rfl (by kernel_rfl) (fun _ _ _ h => h) (Or.inl ⟨by rfl, ?_⟩) hHeld ?_ ?_
                rotate_left
                · (rintro w' ⟨s0, s1, s2, s3, s4, s5⟩; have z0 := blk_cell s0 2; have z1 := blk_cell s1 2; simp only [List.getElem?_toArray, List.getElem?_cons_zero, List.getElem?_cons_succ] at z0 z1; go_simp; with_reducible rfl)
                rotate_left
                · (simp only [Act.put, List.setIfInBounds_toArray, List.set_cons_zero, List.set_cons_succ]; rfl)
                refine pure_ (i := 17) (N := (some 53)) (v := ?_) (a' := ?_) #[true, true, true, true, true, true, true, true, true, true, true, true, true, true, true, true, true, true, false, false, true, false, true, false, false, false, false, false, false] rfl rfl (by kernel_rfl) (fun _ _ _ h => h) (Or.inl ⟨by rfl, ?_⟩) ?_ ?_
                rotate_left
                · (intro w'; go_simp; with_reducible rfl)
                rotate_left
                · (simp only [Act.put, List.setIfInBounds_toArray, List.set_cons_zero, List.set_cons_succ]; rfl)
                refine pure_ (i := 18) (N := (some 54)) (v := ?_) (a' := ?_) #[true, true, true, true, true, true, true, true, true, true, true, true, true, true, true, true, true, true, true, false, true, false, true, false, false, false, false, false, false] rfl rfl (by kernel_rfl) (fun _ _ _ h => h) (Or.inl ⟨by rfl, ?_⟩) ?_ ?_
                rotate_left
                · (intro w'; go_simp; with_reducible rfl)
                rotate_left
                · (simp only [Act.put, List.setIfInBounds_toArray, List.set_cons_zero, List.set_cons_succ]; rfl)
                refine take_ (i := 19) (N := (some 55)) (v := ?_) (a' := ?_) #[true, true, true, true, true, true, true, true, true, true, true, true, true, true, true, true, true, true, true, true, true, false, true, false, false, false, false, false, false] rfl rfl (by kernel_rfl) (fun _ _ _ h => h) (Or.inl ⟨by rfl, ?_⟩) hHeld ?_ ?_
                rotate_left
                · (rintro w' ⟨s0, s1, s2, s3, s4, s5⟩; have z0 := blk_cell s0 2; have z1 := blk_cell s1 2; simp only [List.getElem?_toArray, List.getElem?_cons_zero, List.getElem?_cons_succ] at z0 z1; go_simp; with_reducible rfl)
                rotate_left
                · (simp only [Act.put, List.setIfInBounds_toArray, List.set_cons_zero, List.set_cons_succ]; rfl)
                refine take_ (i := 21) (N := (some 57)) (v := ?_) (a' := ?_) #[true, true, true, true, true, true, true, true, true, true, true, true, true, true, true, true, true, true, true, true, true, true, true, false, false, false, false, false, false] rfl rfl (by kernel_rfl) (fun _ _ _ h => h) (Or.inl ⟨by rfl, ?_⟩) hHeld ?_ ?_
                rotate_left
                · (rintro w' ⟨s0, s1, s2, s3, s4, s5⟩; have z0 := blk_cell s0 2; have z1 := blk_cell s1 2; simp only [List.getElem?_toArray, List.getElem?_cons_zero, List.getElem?_cons_succ] at z0 z1; go_simp; with_reducible rfl)
                rotate_left
                · (simp only [Act.put, List.setIfInBounds_toArray, List.set_cons_zero, List.set_cons_succ]; rfl)
                refine pure_ (i := 23) (N := (some 59)) (v := ?_) (a' := ?_) #[true, true, true, true, true, true, true, true, true, true, true, true, true, true, true, true, true, true, true, true, true, true, true, true, false, false, false, false, false] rfl rfl (by kernel_rfl) (fun _ _ _ h => h) (Or.inl ⟨by rfl, ?_⟩) ?_ ?_
                rotate_left
                · (intro w'; go_simp; with_reducible rfl)
                rotate_left
                · (simp only [Act.put, List.setIfInBounds_toArray, List.set_cons_zero, List.set_cons_succ]; rfl)
                refine pure_ (i := 24) (N := (some 60)) (v := ?_) (a' := ?_) #[true, true, true, true, true, true, true, true, true, true, true, true, true, true, true, true, true, true, true, true, true, true, true, true, true, false, false, false, false] rfl rfl (by kernel_rfl) (fun _ _ _ h => h) (Or.inl ⟨by rfl, ?_⟩) ?_ ?_
                rotate_left
                · (intro w'; go_simp; with_reducible rfl)
                rotate_left
                · (simp only [Act.put, List.setIfInBounds_toArray, List.set_cons_zero, List.set_cons_succ]; rfl)
                refine take_ (i := 25) (N := (some 61)) (v := ?_) (a' := ?_) #[true, true, true, true, true, true, true, true, true, true, true, true, true, true, true, true, true, true, true, true, true, true, true, true, true, true, false, false, false] rfl rfl (by kernel_rfl) (fun _ _ _ h => h) (Or.inl ⟨by rfl, ?_⟩) hHeld ?_ ?_
                rotate_left
                · (rintro w' ⟨s0, s1, s2, s3, s4, s5⟩; have z0 := blk_cell s0 2; have z1 := blk_cell s1 2; simp only [List.getElem?_toArray, List.getElem?_cons_zero, List.getElem?_cons_succ] at z0 z1; go_simp; with_reducible rfl)
                rotate_left
                · (simp only [Act.put, List.setIfInBounds_toArray, List.set_cons_zero, List.set_cons_succ]; rfl)
                refine last_ (i := 26) (N := (some 62)) #[true, true, true, true, true, true, true, true, true, true, true, true, true, true, true, true, true, true, true, true, true, true, true, true, true, true, true, false, false] rfl rfl (by kernel_rfl) (by decide) (fun K hK => ?_)
                (refine goes_ Try.func36 (by kernel_rfl) rfl #[.slice E1 ar.length e1, .slice F1 br.length f1] (by rfl) rfl rfl (by simp [Act.eval]) ?_; refine (keepInts_c _ _ _ _ _ _ _ _ _ (Kd.C_below HE1.out (below_drew1 (Below.refl _ _))) (Kd.C_below HF1.out (below_drew1 (Below.refl _ _)))).mono ?_; rw [HI.out]; rintro e w5 ⟨rfl, hb5⟩; refine ⟨_, rfl, ?_⟩; have HK5 := Aside0.mk ((HK.out.below_ (below_drew1 (Below.refl _ _))).below_ hb5); clear hb5)
                refine hK.out _ _ ?_
                clear hK K
                refine norm_ (a' := ?_) ?_ ?_
                rotate_left
                · (show Act.put _ (some 62) _ = _; simp only [Act.put, List.setIfInBounds_toArray, List.set_cons_zero, List.set_cons_succ]; rfl)
                refine pure_ (i := 27) (N := (some 63)) (v := ?_) (a' := ?_) #[true, true, true, true, true, true, true, true, true, true, true, true, true, true, true, true, true, true, true, true, true, true, true, true, true, true, true, true, false] rfl rfl (by kernel_rfl) (fun _ _ _ h => h) (Or.inl ⟨by rfl, ?_⟩) ?_ ?_
                rotate_left
                · (intro w'; go_simp; with_reducible rfl)
                rotate_left
                · (simp only [Act.put, List.setIfInBounds_toArray, List.set_cons_zero, List.set_cons_succ]; rfl)
                refine pure_ (i := 28) (N := (some 64)) (v := ?_) (a' := ?_) #[true, true, true, true, true, true, true, true, true, true, true, true, true, true, true, true, true, true, true, true, true, true, true, true, true, true, true, true, true] rfl rfl (by kernel_rfl) (fun _ _ _ h => h) (Or.inl ⟨by rfl, ?_⟩) ?_ ?_
                rotate_left
                · (intro w'; go_simp; with_reducible rfl)
                rotate_left
                · (simp only [Act.put, List.setIfInBounds_toArray, List.set_cons_zero, List.set_cons_succ]; rfl)
                refine done_ (by kernel_rfl) ?_
                go_wp2
                go_ret
                refine ⟨ret_bool ?_, HK5.out.b⟩
                have hne : ¬ g.rules = h.rules := fun e => by
                  have h3 : (⟨al, ar⟩ : Rule) = ⟨bl, br⟩ := by rw [HAB.out.1, HAB.out.2]; simp only [e]
                  injection h3 with _ h3
                  exact of_decide_eq_false HI.out h3
                unfold sameF
                rw [decide_eq_false hne, Bool.and_false]
            · have dab : (al != bl) = true := by simp [hab]
              have HAL := Aside0.mk hab
              clear hab
              go_wp2
              refine start_ (n := 29) (S := fun w' => w'.heap[w.heap.size]? = some (.cells #[.slice A1 g.terms.length c1, .slice A2 g.names.length c2, .slice (some ad) g.rules.length c3] 25 (0, 0)) ∧ w'.heap[w.heap.size + 1]? = some (.cells #[.slice B1 h.terms.length d1, .slice B2 h.names.length d2, .slice (some bd) h.rules.length d3] 25 (0, 0)) ∧ w'.cell? (ad.add (k * 2)) = some (.int .i64 al) ∧ w'.cell? ⟨(ad.add (k * 2)).block, (ad.add (k * 2)).off + 1, none⟩ = some (.slice E1 ar.length e1) ∧ w'.cell? (bd.add (k * 2)) = some (.int .i64 bl) ∧ w'.cell? ⟨(bd.add (k * 2)).block, (bd.add (k * 2)).off + 1, none⟩ = some (.slice F1 br.length f1)) (ds := []) #[false, false, false, false, false, false, false, false, false, false, false, false, false, false, false, false, false, false, false, false, false, false, false, false, false, false, false, false, false] (by kernel_rfl) rfl rfl (⟨blk_drew HK.out.p, blk_drew HK.out.q, hx1, hx2, hy1, hy2⟩) (fun hHeld => ?_)
              refine pure_ (i := 0) (N := (some 36)) (v := ?_) (a' := ?_) #[true, false, false, false, false, false, false, false, false, false, false, false, false, false, false, false, false, false, false, false, false, false, false, false, false, false, false, false, false] rfl rfl (by kernel_rfl) (fun _ _ _ h => h) (Or.inl ⟨by rfl, ?_⟩) ?_ ?_
              rotate_left
              · (intro w'; go_simp; with_reducible rfl)
              rotate_left
              · (simp only [Act.put, List.setIfInBounds_toArray, List.set_cons_zero, List.set_cons_succ]; rfl)
              refine pure_ (i := 2) (N := (some 38)) (v := ?_) (a' := ?_) #[true, false, true, false, false, false, false, false, false, false, false, false, false, false, false, false, false, false, false, false, false, false, false, false, false, false, false, false, false] rfl rfl (by kernel_rfl) (fun _ _ _ h => h) (Or.inl ⟨by rfl, ?_⟩) ?_ ?_
              rotate_left
              · (intro w'; go_simp; with_reducible rfl)
              rotate_left
              · (simp only [Act.put, List.setIfInBounds_toArray, List.set_cons_zero, List.set_cons_succ]; rfl)
              refine pure_ (i := 6) (N := (some 42)) (v := ?_) (a' := ?_) #[true, false, true, false, false, false, true, false, false, false, false, false, false, false, false, false, false, false, false, false, false, false, false, false, false, false, false, false, false] rfl rfl (by kernel_rfl) (fun _ _ _ h => h) (Or.inl ⟨by rfl, ?_⟩) ?_ ?_
              rotate_left
              · (intro w'; go_simp; with_reducible rfl)
              rotate_left
              · (simp only [Act.put, List.setIfInBounds_toArray, List.set_cons_zero, List.set_cons_succ]; rfl)
              refine pure_ (i := 8) (N := (some 44)) (v := ?_) (a' := ?_) #[true, false, true, false, false, false, true, false, true, false, false, false, false, false, false, false, false, false, false, false, false, false, false, false, false, false, false, false, false] rfl rfl (by kernel_rfl) (fun _ _ _ h => h) (Or.inl ⟨by rfl, ?_⟩) ?_ ?_
              rotate_left
              · (intro w'; go_simp; with_reducible rfl)
              rotate_left
              · (simp only [Act.put, List.setIfInBounds_toArray, List.set_cons_zero, List.set_cons_succ]; rfl)
              refine take_ (i := 1) (N := (some 37)) (v := ?_) (a' := ?_) #[true, true, true, false, false, false, true, false, true, false, false, false, false, false, false, false, false, false, false, false, false, false, false, false, false, false, false, false, false] rfl rfl (by kernel_rfl) (fun _ _ _ h => h) (Or.inl ⟨by rfl, ?_⟩) hHeld ?_ ?_
              rotate_left
              · (rintro w' ⟨s0, s1, s2, s3, s4, s5⟩; have z0 := blk_cell s0 2; have z1 := blk_cell s1 2; simp only [List.getElem?_toArray, List.getElem?_cons_zero, List.getElem?_cons_succ] at z0 z1; go_simp; with_reducible rfl)
              rotate_left
              · (simp only [Act.put, List.setIfInBounds_toArray, List.set_cons_zero, List.set_cons_succ]; rfl)
              refine pure_ (i := 3) (N := (some 39)) (v := ?_) (a' := ?_) #[true, true, true, true, false, false, true, false, true, false, false, false, false, false, false, false, false, false, false, false, false, false, false, false, false, false, false, false, false] rfl rfl (by kernel_rfl) (fun _ _ _ h => h) (Or.inl ⟨by rfl, ?_⟩) ?_ ?_
              rotate_left
              · (intro w'; go_simp; with_reducible rfl)
              rotate_left
              · (simp only [Act.put, List.setIfInBounds_toArray, List.set_cons_zero, List.set_cons_succ]; rfl)
              refine pure_ (i := 4) (N := (some 40)) (v := ?_) (a' := ?_) #[true, true, true, true, true, false, true, false, true, false, false, false, false, false, false, false, false, false, false, false, false, false, false, false, false, false, false, false, false] rfl rfl (by kernel_rfl) (fun _ _ _ h => h) (Or.inl ⟨by rfl, ?_⟩) ?_ ?_
              rotate_left
              · (intro w'; go_simp; with_reducible rfl)
              rotate_left
              · (simp only [Act.put, List.setIfInBounds_toArray, List.set_cons_zero, List.set_cons_succ]; rfl)
              refine take_ (i := 5) (N := (some 41)) (v := ?_) (a' := ?_) #[true, true, true, true, true, true, true, false, true, false, false, false, false, false, false, false, false, false, false, false, false, false, false, false, false, false, false, false, false] rfl rfl (by kernel_rfl) (fun _ _ _ h => h) (Or.inl ⟨by rfl, ?_⟩) hHeld ?_ ?_
              rotate_left
              · (rintro w' ⟨s0, s1, s2, s3, s4, s5⟩; have z0 := blk_cell s0 2; have z1 := blk_cell s1 2; simp only [List.getElem?_toArray, List.getElem?_cons_zero, List.getElem?_cons_succ] at z0 z1; go_simp; with_reducible rfl)
              rotate_left
              · (simp only [Act.put, List.setIfInBounds_toArray, List.set_cons_zero, List.set_cons_succ]; rfl)
              refine take_ (i := 7) (N := (some 43)) (v := ?_) (a' := ?_) #[true, true, true, true, true, true, true, true, true, false, false, false, false, false, false, false, false, false, false, false, false, false, false, false, false, false, false, false, false] rfl rfl (by kernel_rfl) (fun _ _ _ h => h) (Or.inl ⟨by rfl, ?_⟩) hHeld ?_ ?_
              rotate_left
              · (rintro w' ⟨s0, s1, s2, s3, s4, s5⟩; have z0 := blk_cell s0 2; have z1 := blk_cell s1 2; simp only [List.getElem?_toArray, List.getElem?_cons_zero, List.getElem?_cons_succ] at z0 z1; go_simp; with_reducible rfl)
              rotate_left
              · (simp only [Act.put, List.setIfInBounds_toArray, List.set_cons_zero, List.set_cons_succ]; rfl)
              refine pure_ (i := 9) (N := (some 45)) (v := ?_) (a' := ?_) #[true, true, true, true, true, true, true, true, true, true, false, false, false, false, false, false, false, false, false, false, false, false, false, false, false, false, false, false, false] rfl rfl (by kernel_rfl) (fun _ _ _ h => h) (Or.inl ⟨by rfl, ?_⟩) ?_ ?_
              rotate_left
              · (intro w'; go_simp; with_reducible rfl)
              rotate_left
              · (simp only [Act.put, List.setIfInBounds_toArray, List.set_cons_zero, List.set_cons_succ]; rfl)
              refine pure_ (i := 10) (N := (some 46)) (v := ?_) (a' := ?_) #[true, true, true, true, true, true, true, true, true, true, true, false, false, false, false, false, false, false, false, false, false, false, false, false, false, false, false, false, false] rfl rfl (by kernel_rfl) (fun _ _ _ h => h) (Or.inl ⟨by rfl, ?_⟩) ?_ ?_
              rotate_left
              · (intro w'; go_simp; with_reducible rfl)
              rotate_left
              · (simp only [Act.put, List.setIfInBounds_toArray, List.set_cons_zero, List.set_cons_succ]; rfl)
              refine take_ (i := 11) (N := (some 47)) (v := ?_) (a' := ?_) #[true, true, true, true, true, true, true, true, true, true, true, true, false, false, false, false, false, false, false, false, false, false, false, false, false, false, false, false, false] rfl rfl (by kernel_rfl) (fun _ _ _ h => h) (Or.inl ⟨by rfl, ?_⟩) hHeld ?_ ?_
              rotate_left
              · (rintro w' ⟨s0, s1, s2, s3, s4, s5⟩; have z0 := blk_cell s0 2; have z1 := blk_cell s1 2; simp only [List.getElem?_toArray, List.getElem?_cons_zero, List.getElem?_cons_succ] at z0 z1; go_simp; with_reducible rfl)
              rotate_left
              · (simp only [Act.put, List.setIfInBounds_toArray, List.set_cons_zero, List.set_cons_succ]; rfl)
              refine pure_ (i := 12) (N := (some 48)) (v := ?_) (a' := ?_) #[true, true, true, true, true, true, true, true, true, true, true, true, true, false, false, false, false, false, false, false, false, false, false, false, false, false, false, false, false] rfl rfl (by kernel_rfl) (fun _ _ _ h => h) (Or.inl ⟨by rfl, ?_⟩) ?_ ?_
              rotate_left
              · (intro w'; go_simp; with_reducible rfl)
              rotate_left
              · (simp only [Act.put, List.setIfInBounds_toArray, List.set_cons_zero, List.set_cons_succ]; rfl)
              refine pure_ (i := 13) (N := (some 49)) (v := ?_) (a' := ?_) #[true, true, true, true, true, true, true, true, true, true, true, true, true, true, false, false, false, false, false, false, false, false, false, false, false, false, false, false, false] rfl rfl (by kernel_rfl) (fun _ _ _ h => h) (Or.inl ⟨by rfl, ?_⟩) ?_ ?_
              rotate_left
              · (intro w'; go_simp; with_reducible rfl)
              rotate_left
              · (simp only [Act.put, List.setIfInBounds_toArray, List.set_cons_zero, List.set_cons_succ]; rfl)
              refine pure_ (i := 14) (N := (some 50)) (v := undef) (a' := ?_) #[true, true, true, true, true, true, true, true, true, true, true, true, true, true, true, false, false, false, false, false, false, false, false, false, false, false, false, false, false] rfl rfl (by kernel_rfl) (fun _ _ _ h => h) (Or.inr ⟨by rfl, rfl⟩) ?_ ?_
              rotate_left
              · (simp only [Act.put, List.setIfInBounds_toArray, List.set_cons_zero, List.set_cons_succ]; rfl)
              refine pure_ (i := 16) (N := (some 52)) (v := undef) (a' := ?_) #[true, true, true, true, true, true, true, true, true, true, true, true, true, true, true, false, true, false, false, false, false, false, false, false, false, false, false, false, false] rfl rfl (by kernel_rfl) (fun _ _ _ h => h) (Or.inr ⟨by rfl, rfl⟩) ?_ ?_
              rotate_left
              · (simp only [Act.put, List.setIfInBounds_toArray, List.set_cons_zero, List.set_cons_succ]; rfl)
              refine pure_ (i := 20) (N := (some 56)) (v := undef) (a' := ?_) #[true, true, true, true, true, true, true, true, true, true, true, true, true, true, true, false, true, false, false, false, true, false, false, false, false, false, false, false, false] rfl rfl (by kernel_rfl) (fun _ _ _ h => h) (Or.inr ⟨by rfl, rfl⟩) ?_ ?_
              rotate_left
              · (simp only [Act.put, List.setIfInBounds_toArray, List.set_cons_zero, List.set_cons_succ]; rfl)
              refine pure_ (i := 22) (N := (some 58)) (v := undef) (a' := ?_) #[true, true, true, true, true, true, true, true, true, true, true, true, true, true, true, false, true, false, false, false, true, false, true, false, false, false, false, false, false] rfl rfl (by kernel_rfl) (fun _ _ _ h => h) (Or.inr ⟨by rfl, rfl⟩) ?_ ?_
              rotate_left
              · (simp only [Act.put, List.setIfInBounds_toArray, List.set_cons_zero, List.set_cons_succ]; rfl)
              refine pure_ (i := 15) (N := (some 51)) (v := undef) (a' := ?_) #[true, true, true, true, true, true, true, true, true, true, true, true, true, true, true, true, true, false, false, false, true, false, true, false, false, false, false, false, false] rfl rfl (by kernel_rfl) (fun _ _ _ h => h) (Or.inr ⟨by rfl, rfl⟩) ?_ ?_
              rotate_left
              · (simp only [Act.put, List.setIfInBounds_toArray, List.set_cons_zero, List.set_cons_succ]; rfl)
              refine pure_ (i := 17) (N := (some 53)) (v := undef) (a' := ?_) #[true, true, true, true, true, true, true, true, true, true, true, true, true, true, true, true, true, true, false, false, true, false, true, false, false, false, false, false, false] rfl rfl (by kernel_rfl) (fun _ _ _ h => h) (Or.inr ⟨by rfl, rfl⟩) ?_ ?_
              rotate_left
              · (simp only [Act.put, List.setIfInBounds_toArray, List.set_cons_zero, List.set_cons_succ]; rfl)
              refine pure_ (i := 18) (N := (some 54)) (v := undef) (a' := ?_) #[true, true, true, true, true, true, true, true, true, true, true, true, true, true, true, true, true, true, true, false, true, false, true, false, false, false, false, false, false] rfl rfl (by kernel_rfl) (fun _ _ _ h => h) (Or.inr ⟨by rfl, rfl⟩) ?_ ?_
              rotate_left
              · (simp only [Act.put, List.setIfInBounds_toArray, List.set_cons_zero, List.set_cons_succ]; rfl)
              refine pure_ (i := 19) (N := (some 55)) (v := undef) (a' := ?_) #[true, true, true, true, true, true, true, true, true, true, true, true, true, true, true, true, true, true, true, true, true, false, true, false, false, false, false, false, false] rfl rfl (by kernel_rfl) (fun _ _ _ h => h) (Or.inr ⟨by rfl, rfl⟩) ?_ ?_
              rotate_left
              · (simp only [Act.put, List.setIfInBounds_toArray, List.set_cons_zero, List.set_cons_succ]; rfl)
              refine pure_ (i := 21) (N := (some 57)) (v := undef) (a' := ?_) #[true, true, true, true, true, true, true, true, true, true, true, true, true, true, true, true, true, true, true, true, true, true, true, false, false, false, false, false, false] rfl rfl (by kernel_rfl) (fun _ _ _ h => h) (Or.inr ⟨by rfl, rfl⟩) ?_ ?_
              rotate_left
              · (simp only [Act.put, List.setIfInBounds_toArray, List.set_cons_zero, List.set_cons_succ]; rfl)
              refine pure_ (i := 23) (N := (some 59)) (v := undef) (a' := ?_) #[true, true, true, true, true, true, true, true, true, true, true, true, true, true, true, true, true, true, true, true, true, true, true, true, false, false, false, false, false] rfl rfl (by kernel_rfl) (fun _ _ _ h => h) (Or.inr ⟨by rfl, rfl⟩) ?_ ?_
              rotate_left
              · (simp only [Act.put, List.setIfInBounds_toArray, List.set_cons_zero, List.set_cons_succ]; rfl)
              refine pure_ (i := 24) (N := (some 60)) (v := undef) (a' := ?_) #[true, true, true, true, true, true, true, true, true, true, true, true, true, true, true, true, true, true, true, true, true, true, true, true, true, false, false, false, false] rfl rfl (by kernel_rfl) (fun _ _ _ h => h) (Or.inr ⟨by rfl, rfl⟩) ?_ ?_
              rotate_left
              · (simp only [Act.put, List.setIfInBounds_toArray, List.set_cons_zero, List.set_cons_succ]; rfl)
              refine pure_ (i := 25) (N := (some 61)) (v := undef) (a' := ?_) #[true, true, true, true, true, true, true, true, true, true, true, true, true, true, true, true, true, true, true, true, true, true, true, true, true, true, false, false, false] rfl rfl (by kernel_rfl) (fun _ _ _ h => h) (Or.inr ⟨by rfl, rfl⟩) ?_ ?_
              rotate_left
              · (simp only [Act.put, List.setIfInBounds_toArray, List.set_cons_zero, List.set_cons_succ]; rfl)
              refine one_ (i := 26) (N := (some 62)) #[true, true, true, true, true, true, true, true, true, true, true, true, true, true, true, true, true, true, true, true, true, true, true, true, true, true, true, false, false] rfl rfl (by kernel_rfl) (by decide) (fun K hK => ?_)
              refine off_ (by rfl) ?_
              refine hK.out _ _ hHeld (fun hHeld => ?_)
              clear hK K
              refine norm_ (a' := ?_) ?_ ?_
              rotate_left
              · (show Act.put _ (some 62) _ = _; simp only [Act.put, List.setIfInBounds_toArray, List.set_cons_zero, List.set_cons_succ]; rfl)
              refine pure_ (i := 27) (N := (some 63)) (v := undef) (a' := ?_) #[true, true, true, true, true, true, true, true, true, true, true, true, true, true, true, true, true, true, true, true, true, true, true, true, true, true, true, true, false] rfl rfl (by kernel_rfl) (fun _ _ _ h => h) (Or.inr ⟨by rfl, rfl⟩) ?_ ?_
              rotate_left
              · (simp only [Act.put, List.setIfInBounds_toArray, List.set_cons_zero, List.set_cons_succ]; rfl)
              refine pure_ (i := 28) (N := (some 64)) (v := ?_) (a' := ?_) #[true, true, true, true, true, true, true, true, true, true, true, true, true, true, true, true, true, true, true, true, true, true, true, true, true, true, true, true, true] rfl rfl (by kernel_rfl) (fun _ _ _ h => h) (Or.inl ⟨by rfl, ?_⟩) ?_ ?_
              rotate_left
              · (intro w'; go_simp; with_reducible rfl)
              rotate_left
              · (simp only [Act.put, List.setIfInBounds_toArray, List.set_cons_zero, List.set_cons_succ]; rfl)
              refine done_ (by kernel_rfl) ?_
              go_wp2
              go_ret
              refine ⟨ret_bool ?_, below_drew1 HK.out.b⟩
              have hne : ¬ g.rules = h.rules := fun e => by
                have h3 : (⟨al, ar⟩ : Rule) = ⟨bl, br⟩ := by rw [HAB.out.1, HAB.out.2]; simp only [e]
                injection h3 with h3 _
                exact HAL.out h3
              unfold sameF
              rw [decide_eq_false hne, Bool.and_false]
          · have HE : Aside0 (g.rules = h.rules) := ⟨List.ext_getElem HL.out (fun j h1 h2 => HJ.out j h1 (by omega))⟩
            go_wp2
            go_ret
            refine ⟨ret_bool ?_, HK.out.b⟩
            unfold sameF
            rw [HT.out, HN.out, decide_eq_true HE.out]
            rfl
      · have hlb : ((g.rules.length : Int) != (h.rules.length : Int)) = true := by simp; omega
        have HE : Aside0 (decide (g.rules = h.rules) = false) := ⟨decide_eq_false (fun e => hl (by rw [e]))⟩
        clear hl
        go_enter Try.func22, Try.ntmps22
        go_wp2_with (first | (have hx := HK1.out; go_at_call 54; go_loud (refine (keepTexts_c _ _ _ _ _ _ _ _ _ HK1.out.rg.names HK1.out.rh.names).mono ?_; rw [HN.out]; rintro e w2 ⟨rfl, hb2⟩; have HK2 := Aside0.mk (HK1.out.below_ hb2); clear hb2; have b1 := blk_cell HK2.out.p 2; have b2 := blk_cell HK2.out.q 2; simp only [List.getElem?_toArray, List.getElem?_cons_zero, List.getElem?_cons_succ] at b1 b2)) | (go_at_call 54; go_loud (refine (keepTexts_c _ _ _ _ _ _ _ _ _ HK0.out.rg.terms HK0.out.rh.terms).mono ?_; rw [HT.out]; rintro e w1 ⟨rfl, hb1⟩; have HK1 := Aside0.mk (HK0.out.below_ hb1); clear hb1; have a1 := blk_cell HK1.out.p 1; have a2 := blk_cell HK1.out.q 1; simp only [List.getElem?_toArray, List.getElem?_cons_zero, List.getElem?_cons_succ] at a1 a2)))
        go_ret
        exact ⟨ret_bool (by unfold sameF; rw [HT.out, HN.out, HE.out]; rfl), HK2.out.b⟩
end Go.Proofs.Ytphmmppmhphgeaa
