/- The law GrammarSpoilt, walked: it answers true. -/
import Derived.Test.YtphmmppmhphgeaaS1
set_option linter.unusedVariables false
set_option linter.unusedSimpArgs false
namespace Go.Proofs.Ytphmmppmhphgeaa
open Go.RowKit Go.Proofs.YtphmmppmhphgeaaW.PrintWords Go.Proofs.YtphmmppmhphgeaaW.PrintLast

structure SK (w W : World) (g : Gram) (A1 A2 A3 : Option Addr) (c1 c2 c3 : Nat) : Prop where
  rep : RepG W g A1 A2 A3 c1 c2 c3
  p : W.heap[w.heap.size]? = some (.cells #[.slice A1 g.terms.length c1, .slice A2 g.names.length c2, .slice A3 g.rules.length c3] 25 (0, 0))
  b : Below w.heap.size w W
section
variable {w W W1 : World} {g : Gram} {A1 A2 A3 : Option Addr} {c1 c2 c3 : Nat}
theorem SK.below_ (h : SK w W g A1 A2 A3 c1 c2 c3) (hb : Below W.heap.size W W1) : SK w W1 g A1 A2 A3 c1 c2 c3 := ⟨h.rep.below_ hb, blk_below h.p hb, below_then h.b h.b.size hb⟩
theorem SK.cells (h : SK w W g A1 A2 A3 c1 c2 c3) : W.cell? ⟨w.heap.size, 0, none⟩ = some (.slice A1 g.terms.length c1) ∧ W.cell? ⟨w.heap.size, 1, none⟩ = some (.slice A2 g.names.length c2) ∧ W.cell? ⟨w.heap.size, 2, none⟩ = some (.slice A3 g.rules.length c3) :=
  ⟨(blk_cell h.p 0).trans rfl, (blk_cell h.p 1).trans rfl, (blk_cell h.p 2).trans rfl⟩
end
set_option maxRecDepth 100000 in
set_option maxHeartbeats 16000000 in
theorem spoilt_c (g : Gram) (A1 A2 A3 : Option Addr) (c1 c2 c3 : Nat) (n : Int) (w : World) (hg : RepG w g A1 A2 A3 c1 c2 c3) (hn : 0 ≤ n ∧ n ≤ 255) :
    Calls Try.prog 7 #[.agg #[.slice A1 g.terms.length c1, .slice A2 g.names.length c2, .slice A3 g.rules.length c3], .int .u8 n] w fun e w' => e = .returned (.bool true) ∧ Below w.heap.size w w' := by
  have HG := Aside0.mk hg
  have HK0 : Aside0 (SK w (w.alloc (.cells #[.slice A1 g.terms.length c1, .slice A2 g.names.length c2, .slice A3 g.rules.length c3] 25 (0, 0))) g A1 A2 A3 c1 c2 c3) := ⟨by
    have hW : Below w.heap.size w (w.alloc (.cells #[.slice A1 g.terms.length c1, .slice A2 g.names.length c2, .slice A3 g.rules.length c3] 25 (0, 0))) := (Below.refl w.heap.size w).alloc (Nat.le_refl _) _
    exact ⟨hg.below_ hW, blk_new w _, hW⟩⟩
  clear hg
  obtain ⟨z1, z2, z3⟩ := HK0.out.cells
  cases hgd : goodF g with
  | false =>
    have HGD := Lib.hid hgd
    clear hgd
    go_enter Try.func7, Try.ntmps7
    go_wp2_with (first | (have hx := HK2.out; go_at_call 16; go_loud (refine (wakes03_c _).mono ?_; rintro e w9 ⟨rfl, hb9⟩; have HB9 := Aside0.mk (below_then hx.b hx.b.size hb9); clear hb9)) | (have hx := HK1.out; go_at_call 16; go_loud (refine (wakes03_c _).mono ?_; rintro e w9 ⟨rfl, hb9⟩; have HB9 := Aside0.mk (below_then hx.b hx.b.size hb9); clear hb9)) | (have hx := HK1.out; go_at_call 23; go_loud (refine (good_c g A1 A2 A3 c1 c2 c3 _ HK1.out.rep).mono ?_; rw [HGD.out]; rintro e w2 ⟨rfl, hb2⟩; have HK2 := Aside0.mk (HK1.out.below_ hb2); clear hb2; obtain ⟨u1, u2, u3⟩ := HK2.out.cells)) | (go_at_call 15; go_loud (refine (large_c g A1 A2 A3 c1 c2 c3 _ HK0.out.rep).mono ?_; rintro e w1 ⟨⟨b, rfl, hs⟩, hb1⟩; have HK1 := Aside0.mk (HK0.out.below_ hb1); have HS := Aside0.mk hs; clear hs hb1; obtain ⟨t1, t2, t3⟩ := HK1.out.cells)))
    all_goals
      go_ret
      exact ⟨ret_bool rfl, HB9.out⟩
  | true =>
    have HGD := Lib.hid hgd
    clear hgd
    have HP := Aside0.mk ((good_iff g).1 HGD.out)
    have hr1 : 1 ≤ g.rules.length := HP.out.one
    have hr60 := HP.out.most
    have hgf := good_facts HGD.out
    have hn40 := hgf.1
    have ht40 := hgf.2.1
    have HSM : Aside0 (g.terms.length ≤ 100000 ∧ g.names.length ≤ 100000 ∧ g.rules.length ≤ 100000 ∧ ∀ r ∈ g.rules, r.right.length ≤ 100000) := ⟨⟨by omega, by omega, by omega, fun r hr => by have := (rulF_mem HP.out.ruled r hr).2.2.1; omega⟩⟩
    clear hgf
    by_cases h60 : g.rules.length < 60
    · obtain ⟨m, hm⟩ : ∃ m : Nat, (m : Int) = n % (g.rules.length : Int) := ⟨(n % (g.rules.length : Int)).toNat, Int.toNat_of_nonneg (Int.emod_nonneg _ (by omega))⟩
      have hml : m < g.rules.length := by have := Int.emod_lt_of_pos n (b := (g.rules.length : Int)) (by omega); omega
      have hmt : Int.tmod n (g.rules.length : Int) = (m : Int) := by rw [Int.tmod_eq_emod_of_nonneg hn.1, hm]
      clear hm
      have q1 : ¬ (60 : Int) ≤ (g.rules.length : Int) := by omega
      have q2 : ¬ g.rules = [] := fun e => by rw [e] at hr1; simp at hr1
      have hwn : IntKind.i64.wrap n = n := IntWalk.i64_in _ (by omega)
      go_enter Try.func7, Try.ntmps7
      go_wp2_with (first | (have hx := HK1.out; go_at_call 16; go_loud (refine (wakes03_c _).mono ?_; rintro e w9 ⟨rfl, hb9⟩; have HB9 := Aside0.mk (below_then hx.b hx.b.size hb9); clear hb9)) | (have hx := HK2.out; go_at_call 19; go_loud (refine (own_c g A1 A2 A3 c1 c2 c3 _ HK2.out.rep HSM.out).mono ?_; rintro e w3 ⟨⟨B1, B2, B3, d1, d2, d3, rfl, ho⟩, hb3⟩; have hw3 : w.heap.size ≤ w3.heap.size := Nat.le_trans hx.b.size hb3.size; have hx3 : w.heap.size < w3.heap.size := Nat.lt_of_lt_of_le (blk_lt hx.p) hb3.size; have HK3 := Aside0.mk ((HK2.out.below_ hb3).below_ (below_alloc (Below.refl _ _) (.cells #[.slice B1 g.terms.length d1, .slice B2 g.names.length d2, .slice B3 g.rules.length d3] 25 (0, 0)))); have HO3 := Aside0.mk ((ho.lower HK2.out.b.size).below_ (below_alloc (Below.refl _ _) (.cells #[.slice B1 g.terms.length d1, .slice B2 g.names.length d2, .slice B3 g.rules.length d3] 25 (0, 0)))); have HH3 := Aside0.mk (blk_new w3 (.cells #[.slice B1 g.terms.length d1, .slice B2 g.names.length d2, .slice B3 g.rules.length d3] 25 (0, 0))); clear hb3 ho)) | (have hx := HK1.out; go_at_call 23; go_loud (refine (good_c g A1 A2 A3 c1 c2 c3 _ HK1.out.rep).mono ?_; rw [HGD.out]; rintro e w2 ⟨rfl, hb2⟩; have HK2 := Aside0.mk (HK1.out.below_ hb2); clear hb2; obtain ⟨u1, u2, u3⟩ := HK2.out.cells)) | (go_at_call 15; go_loud (refine (large_c g A1 A2 A3 c1 c2 c3 _ HK0.out.rep).mono ?_; rintro e w1 ⟨⟨b, rfl, hs⟩, hb1⟩; have HK1 := Aside0.mk (HK0.out.below_ hb1); have HS := Aside0.mk hs; clear hs hb1; obtain ⟨t1, t2, t3⟩ := HK1.out.cells)))
      · go_ret
        exact ⟨ret_bool rfl, HB9.out⟩
      · obtain ⟨a3, R, cr, eA, hx1, hx2, hcr, hR⟩ := at_rule HG.out.rules m hml
        subst eA
        have hxm : g.rules[m]'hml ∈ g.rules := List.getElem_mem hml
        obtain ⟨x, hx⟩ : ∃ x, x = g.rules[m]'hml := ⟨_, rfl⟩
        rw [← hx] at hx1 hx2 hcr hR hxm
        have HX1 := Aside0.mk hx1
        have HX2 := Aside0.mk hx2
        have HXR := Aside0.mk hR
        have HXM := Aside0.mk hxm
        obtain ⟨L4, hL4⟩ : ∃ L4, L4 = g.rules ++ [x] := ⟨_, rfl⟩
        have HL4 := Lib.hid hL4
        clear hL4
        obtain ⟨N4, hN4⟩ : ∃ N4, N4 = g.names ++ [(⟨#[122, 122, 57]⟩ : ByteArray)] := ⟨_, rfl⟩
        have HN4 := Lib.hid hN4
        clear hN4
        have j1 : (0 : Int) ≤ (m : Int) := by omega
        have j2 : (m : Int) < (g.rules.length : Int) := by omega
        have HKd := Aside0.mk (HK3.out.below_ (below_drew1 (Below.refl _ _)))
        have HOd := Aside0.mk (HO3.out.below_ (below_drew1 (Below.refl _ _)))
        have HHd := Aside0.mk (blk_drew HH3.out)
        have HS0 : Aside0 (OS w w3.heap.size g A1 A2 (some a3) c1 c2 c3 (.slice B1 g.terms.length d1) (.slice B2 g.names.length d2) (.slice B3 g.rules.length d3) a3 m x R cr (w3.alloc (.cells #[.slice B1 g.terms.length d1, .slice B2 g.names.length d2, .slice B3 g.rules.length d3] 25 (0, 0))).drew) := ⟨⟨HKd.out.b, HKd.out.p, HHd.out, (cell_keep HKd.out.b hx1).trans hx1, (cell_keep HKd.out.b hx2).trans hx2⟩⟩
        clear hx hR hx1 hx2 hxm HK3 HO3 HH3 z1 z2 z3 t1 t2 t3 u1 u2 u3
        refine start_ (n := 16) (S := OS w w3.heap.size g A1 A2 (some a3) c1 c2 c3 (.slice B1 g.terms.length d1) (.slice B2 g.names.length d2) (.slice B3 g.rules.length d3) a3 m x R cr) (ds := [15]) #[false, false, false, false, false, false, false, false, false, false, false, false, false, false, false, false] (by kernel_rfl) rfl rfl (HS0.out) (fun hHeld => ?_)
        refine pure_ (i := 0) (N := (some 30)) (v := ?_) (a' := ?_) #[true, false, false, false, false, false, false, false, false, false, false, false, false, false, false, false] rfl rfl (by kernel_rfl) (fun _ _ _ h => h) (Or.inl ⟨by rfl, ?_⟩) ?_ ?_
        rotate_left
        · (intro w'; go_simp; with_reducible rfl)
        rotate_left
        · (simp only [Act.put, List.setIfInBounds_toArray, List.set_cons_zero, List.set_cons_succ]; rfl)
        refine pure_ (i := 2) (N := (some 32)) (v := ?_) (a' := ?_) #[true, false, true, false, false, false, false, false, false, false, false, false, false, false, false, false] rfl rfl (by kernel_rfl) (fun _ _ _ h => h) (Or.inl ⟨by rfl, ?_⟩) ?_ ?_
        rotate_left
        · (intro w'; go_simp; with_reducible rfl)
        rotate_left
        · (simp only [Act.put, List.setIfInBounds_toArray, List.set_cons_zero, List.set_cons_succ]; rfl)
        refine pure_ (i := 4) (N := (some 34)) (v := ?_) (a' := ?_) #[true, false, true, false, true, false, false, false, false, false, false, false, false, false, false, false] rfl rfl (by kernel_rfl) (fun _ _ _ h => h) (Or.inl ⟨by rfl, ?_⟩) ?_ ?_
        rotate_left
        · (intro w'; go_simp; with_reducible rfl)
        rotate_left
        · (simp only [Act.put, List.setIfInBounds_toArray, List.set_cons_zero, List.set_cons_succ]; rfl)
        refine pure_ (i := 5) (N := (some 35)) (v := ?_) (a' := ?_) #[true, false, true, false, true, true, false, false, false, false, false, false, false, false, false, false] rfl rfl (by kernel_rfl) (fun _ _ _ h => h) (Or.inl ⟨by rfl, ?_⟩) ?_ ?_
        rotate_left
        · (intro w'; go_simp; with_reducible rfl)
        rotate_left
        · (simp only [Act.put, List.setIfInBounds_toArray, List.set_cons_zero, List.set_cons_succ]; rfl)
        refine pure_ (i := 6) (N := (some 36)) (v := ?_) (a' := ?_) #[true, false, true, false, true, true, true, false, false, false, false, false, false, false, false, false] rfl rfl (by kernel_rfl) (fun _ _ _ h => h) (Or.inl ⟨by rfl, ?_⟩) ?_ ?_
        rotate_left
        · (intro w'; go_simp; with_reducible rfl)
        rotate_left
        · (simp only [Act.put, List.setIfInBounds_toArray, List.set_cons_zero, List.set_cons_succ]; rfl)
        refine take_ (i := 1) (N := (some 31)) (v := ?_) (a' := ?_) #[true, true, true, false, true, true, true, false, false, false, false, false, false, false, false, false] rfl rfl (by kernel_rfl) (fun _ _ _ h => h) (Or.inl ⟨by rfl, ?_⟩) hHeld ?_ ?_
        rotate_left
        · (rintro w' ⟨_, s0, s1, s2, s3⟩; have d0' : w'.cell? ⟨w.heap.size, 2, none⟩ = some (.slice (some a3) g.rules.length c3) := (blk_cell s0 2).trans rfl; have d1' : w'.cell? ⟨w3.heap.size, 2, none⟩ = some (.slice B3 g.rules.length d3) := (blk_cell s1 2).trans rfl; go_simp; with_reducible rfl)
        rotate_left
        · (simp only [Act.put, List.setIfInBounds_toArray, List.set_cons_zero, List.set_cons_succ]; rfl)
        refine take_ (i := 3) (N := (some 33)) (v := ?_) (a' := ?_) #[true, true, true, true, true, true, true, false, false, false, false, false, false, false, false, false] rfl rfl (by kernel_rfl) (fun _ _ _ h => h) (Or.inl ⟨by rfl, ?_⟩) hHeld ?_ ?_
        rotate_left
        · (rintro w' ⟨_, s0, s1, s2, s3⟩; have d0' : w'.cell? ⟨w.heap.size, 2, none⟩ = some (.slice (some a3) g.rules.length c3) := (blk_cell s0 2).trans rfl; have d1' : w'.cell? ⟨w3.heap.size, 2, none⟩ = some (.slice B3 g.rules.length d3) := (blk_cell s1 2).trans rfl; go_simp; with_reducible rfl)
        rotate_left
        · (simp only [Act.put, List.setIfInBounds_toArray, List.set_cons_zero, List.set_cons_succ]; rfl)
        refine take_ (i := 7) (N := (some 37)) (v := ?_) (a' := ?_) #[true, true, true, true, true, true, true, true, false, false, false, false, false, false, false, false] rfl rfl (by kernel_rfl) (fun _ _ _ h => h) (Or.inl ⟨by rfl, ?_⟩) hHeld ?_ ?_
        rotate_left
        · (rintro w' ⟨_, s0, s1, s2, s3⟩; have d0' : w'.cell? ⟨w.heap.size, 2, none⟩ = some (.slice (some a3) g.rules.length c3) := (blk_cell s0 2).trans rfl; have d1' : w'.cell? ⟨w3.heap.size, 2, none⟩ = some (.slice B3 g.rules.length d3) := (blk_cell s1 2).trans rfl; go_simp; with_reducible rfl)
        rotate_left
        · (simp only [Act.put, List.setIfInBounds_toArray, List.set_cons_zero, List.set_cons_succ]; rfl)
        refine pure_ (i := 8) (N := (some 38)) (v := ?_) (a' := ?_) #[true, true, true, true, true, true, true, true, true, false, false, false, false, false, false, false] rfl rfl (by kernel_rfl) (fun _ _ _ h => h) (Or.inl ⟨by rfl, ?_⟩) ?_ ?_
        rotate_left
        · (intro w'; go_simp; with_reducible rfl)
        rotate_left
        · (simp only [Act.put, List.setIfInBounds_toArray, List.set_cons_zero, List.set_cons_succ]; rfl)
        refine pure_ (i := 9) (N := (some 39)) (v := ?_) (a' := ?_) #[true, true, true, true, true, true, true, true, true, true, false, false, false, false, false, false] rfl rfl (by kernel_rfl) (fun _ _ _ h => h) (Or.inl ⟨by rfl, ?_⟩) ?_ ?_
        rotate_left
        · (intro w'; go_simp; with_reducible rfl)
        rotate_left
        · (simp only [Act.put, List.setIfInBounds_toArray, List.set_cons_zero, List.set_cons_succ]; rfl)
        refine pure_ (i := 10) (N := (some 40)) (v := ?_) (a' := ?_) #[true, true, true, true, true, true, true, true, true, true, true, false, false, false, false, false] rfl rfl (by kernel_rfl) (fun _ _ _ h => h) (Or.inl ⟨by rfl, ?_⟩) ?_ ?_
        rotate_left
        · (intro w'; go_simp; with_reducible rfl)
        rotate_left
        · (simp only [Act.put, List.setIfInBounds_toArray, List.set_cons_zero, List.set_cons_succ]; rfl)
        refine take_ (i := 11) (N := (some 41)) (v := ?_) (a' := ?_) #[true, true, true, true, true, true, true, true, true, true, true, true, false, false, false, false] rfl rfl (by kernel_rfl) (fun _ _ _ h => h) (Or.inl ⟨by rfl, ?_⟩) hHeld ?_ ?_
        rotate_left
        · (rintro w' ⟨_, s0, s1, s2, s3⟩; have d0' : w'.cell? ⟨w.heap.size, 2, none⟩ = some (.slice (some a3) g.rules.length c3) := (blk_cell s0 2).trans rfl; have d1' : w'.cell? ⟨w3.heap.size, 2, none⟩ = some (.slice B3 g.rules.length d3) := (blk_cell s1 2).trans rfl; go_simp; with_reducible rfl)
        rotate_left
        · (simp only [Act.put, List.setIfInBounds_toArray, List.set_cons_zero, List.set_cons_succ]; rfl)
        refine one_ (i := 12) (N := (some 42)) #[true, true, true, true, true, true, true, true, true, true, true, true, true, false, false, false] rfl rfl (by kernel_rfl) (by decide) (fun K hK => ?_)
        refine value_ (w1 := ?_) (v := ?_) (by rfl) rfl ?_ ?_
        rotate_left 2
        · (go_simp; constructor; rfl; rfl)
        refine hK.out _ _ (hHeld.alloc_ _) (fun hHeld => ?_)
        clear hK K
        refine norm_ (a' := ?_) ?_ ?_
        rotate_left
        · (show Act.put _ (some 42) _ = _; simp only [Act.put, List.setIfInBounds_toArray, List.set_cons_zero, List.set_cons_succ]; rfl)
        refine one_ (i := 13) (N := (some 43)) #[true, true, true, true, true, true, true, true, true, true, true, true, true, true, false, false] rfl rfl (by kernel_rfl) (by decide) (fun K hK => ?_)
        (refine app_ruleM_step (w0 := w) (p := x) (A := R) (c := cr) (by rfl) rfl HOd.out.rules hcr HXR.out HKd.out.b (by omega) (by simp [Act.eval]) (by simp [Act.eval]) ?_; intro v1 W1 hr1 hb1 hg1; rw [← HL4.out] at hr1; obtain ⟨A4, c4, e4⟩ := Kd.R_slice hr1; subst e4; have hh := blk_grown HHd.out hg1 (Kd.R_ne HOd.out.rules HHd.out (by decide)); have d3' := blk_cell hh 2; have d4' := blk_frozen hh 2; simp only [List.getElem?_toArray, List.getElem?_cons_zero, List.getElem?_cons_succ] at d3'; have HR4 := Aside0.mk (own_more HL4.out HOd.out hr1 hb1 hg1 hh hw3 (.slice A4 L4.length c4)); have HB4 := Aside0.mk hb1; have HH4 := Aside0.mk hh; have HP4 := Aside0.mk (blk_grown HKd.out.p hg1 (Kd.R_ne HOd.out.rules HKd.out.p (by decide))); have HS1 := Aside0.mk (OS.mk (x := x) (cr := cr) hb1 HP4.out hh ((cell_keep hb1 HX1.out).trans HX1.out) ((cell_keep hb1 HX2.out).trans HX2.out)); clear hr1 hb1 hg1 hh; refine hK.out _ _ HS1.out (fun hHeld => ?_))
        skip
        clear hK K
        refine norm_ (a' := ?_) ?_ ?_
        rotate_left
        · (show Act.put _ (some 43) _ = _; simp only [Act.put, List.setIfInBounds_toArray, List.set_cons_zero, List.set_cons_succ]; rfl)
        refine pure_ (i := 14) (N := (some 44)) (v := ?_) (a' := ?_) #[true, true, true, true, true, true, true, true, true, true, true, true, true, true, true, false] rfl rfl (by kernel_rfl) (fun _ _ _ h => h) (Or.inl ⟨by rfl, ?_⟩) ?_ ?_
        rotate_left
        · (intro w'; go_simp; with_reducible rfl)
        rotate_left
        · (simp only [Act.put, List.setIfInBounds_toArray, List.set_cons_zero, List.set_cons_succ]; rfl)
        refine last_ (i := 15) (N := none) #[true, true, true, true, true, true, true, true, true, true, true, true, true, true, true, true] rfl rfl (by kernel_rfl) (by decide) (fun K hK => ?_)
        skip
        refine skip_ (w1 := ?_) (by rfl) rfl ?_ ?_
        rotate_left
        · (go_simp; rfl)
        refine hK.out _ _ ?_
        clear hK K
        refine done_ (by kernel_rfl) ?_
        have hbE := below_set HB4.out hw3 2 (.slice A4 L4.length c4)
        have hh5 := blk_set HH4.out 2 (.slice A4 L4.length c4)
        have hp5 := blk_far HP4.out (p := ⟨w3.heap.size, 2, none⟩) (Nat.ne_of_lt hx3) (.slice A4 L4.length c4)
        have HR5 := HR4
        obtain ⟨we, hwe⟩ : ∃ we : World, we = W1.setCell ⟨w3.heap.size, 2, none⟩ (.slice A4 L4.length c4) := ⟨_, rfl⟩
        simp only [← hwe] at hbE hh5 hp5 HR5 ⊢
        have HH5 : Aside0 (we.heap[w3.heap.size]? = some (.cells #[.slice B1 g.terms.length d1, .slice B2 g.names.length d2, .slice A4 L4.length c4] 25 (0, 0))) := ⟨hh5⟩
        have HK5 : Aside0 (SK w we g A1 A2 (some a3) c1 c2 c3) := ⟨⟨HG.out.below_ hbE, hp5, hbE⟩⟩
        have y1 := blk_cell HH5.out 0
        have y2 := blk_cell HH5.out 1
        have y3 := blk_cell HH5.out 2
        simp only [List.getElem?_toArray, List.getElem?_cons_zero, List.getElem?_cons_succ] at y1 y2 y3
        obtain ⟨init, last, hil⟩ : ∃ init last, g.rules = init ++ [last] := by
          rcases List.eq_nil_or_concat g.rules with h | ⟨i, l, h⟩
          · exact absurd h q2
          · exact ⟨i, l, by rw [h, List.concat_eq_append]⟩
        have hk1 : g.rules.length = init.length + 1 := by rw [hil]; simp
        have hwl : IntKind.i64.wrap ((g.rules.length : Int) - 1) = (init.length : Int) := by rw [IntWalk.i64_in _ (by omega)]; omega
        have hwT : IntKind.i64.wrap ((g.terms.length : Int) + 1) = (g.terms.length : Int) + 1 := by rw [IntWalk.i64_in _ (by omega)]
        have hil0 : (init.length : Int) < (g.rules.length : Int) := by omega
        have hlt1 : init.length < g.rules.length := by omega
        obtain ⟨a3', RL, crl, eA', hl1, hl2, hcrl, hRL⟩ := at_rule HG.out.rules init.length hlt1
        cases eA'
        have hlast : g.rules[init.length]'hlt1 = last := by simp [hil]
        rw [hlast] at hl1 hl2 hcrl hRL
        have HL1 := Aside0.mk hl1
        have HL2 := Aside0.mk hl2
        have HRL := Aside0.mk hRL
        clear hl1 hl2 hRL hlast hlt1
        have HIL := Lib.hid hil
        have HK1L := Lib.hid hk1
        clear hwe hbE hh5 hp5 HR4 HH4 HP4 HB4 HS0 HS1 HOd HHd HKd d3' d4' hHeld hk1 hil
        go_wp2_with (first | (have hx := HT11.out; refine mk_bools (ok := fun _ => True) (w0 := ((w10.alloc (.cells #[.slice I1 g.terms.length i1, .slice I2 g.names.length i2, .slice (some ⟨gI, 0, none⟩) init.length i3] 25 (0, 0))).alloc (.cells #[.int .i64 last.left, .slice RL last.right.length crl] 56 (0, 0)))) (base := ((w10.alloc (.cells #[.slice I1 g.terms.length i1, .slice I2 g.names.length i2, .slice (some ⟨gI, 0, none⟩) init.length i3] 25 (0, 0))).alloc (.cells #[.int .i64 last.left, .slice RL last.right.length crl] 56 (0, 0))).heap.size) (g.terms.length + 1) rfl rfl rfl (by simp [Act.eval]) (by simp [Act.eval]) (by omega) trivial (Below.refl _ _) (Nat.le_refl _) ?_; intro v13 w13 hr13 hb13 hg13 ha13; obtain ⟨gC, cC, eC, hgC, _, _⟩ := Kd.R_form hr13 (by simp); rw [List.length_replicate] at eC; subst eC; have HR13 := Aside0.mk hr13; have HB13 := Aside0.mk hb13; clear hr13 hb13 hg13 ha13) | (have hx := HK9.out; go_at_call 19; go_loud (refine (own_c g A1 A2 (some a3) c1 c2 c3 _ hx.rep HSM.out).mono ?_; rintro e w10 ⟨⟨I1, I2, I3, i1, i2, i3, rfl, ho⟩, hb⟩; obtain ⟨gI, cI, eI, _, _, _⟩ := Kd.R_form ho.rules (by omega); have eI1 := (Value.slice.inj eI).1; clear eI; subst eI1; have hi3 := (Kd.R_reads' ho.rules).2.1; have hi4 : (init.length : Int) ≤ (i3 : Int) := (by omega); have hi5 : ¬ i3 = 0 := (by omega); clear hi3; have n10 := blk_cell (blk_new w10 (.cells #[.slice I1 g.terms.length i1, .slice I2 g.names.length i2, .slice (some ⟨gI, 0, none⟩) g.rules.length i3] 25 (0, 0))) 2; have m10 := blk_frozen (blk_new w10 (.cells #[.slice I1 g.terms.length i1, .slice I2 g.names.length i2, .slice (some ⟨gI, 0, none⟩) g.rules.length i3] 25 (0, 0))) 2; simp only [List.getElem?_toArray, List.getElem?_cons_zero, List.getElem?_cons_succ] at n10; have HK10 := Aside0.mk ((hx.below_ hb).below_ (below_alloc (Below.refl _ _) (.cells #[.slice I1 g.terms.length i1, .slice I2 g.names.length i2, .slice (some ⟨gI, 0, none⟩) init.length i3] 25 (0, 0)))); have HJ10 := Aside0.mk ((own_cut0 HIL.out ho).below_ (below_alloc (Below.refl _ _) (.cells #[.slice I1 g.terms.length i1, .slice I2 g.names.length i2, .slice (some ⟨gI, 0, none⟩) init.length i3] 25 (0, 0)))); have HH10 := Aside0.mk (blk_new w10 (.cells #[.slice I1 g.terms.length i1, .slice I2 g.names.length i2, .slice (some ⟨gI, 0, none⟩) init.length i3] 25 (0, 0))); have HI10 := Aside0.mk ((HI9.out.below_ hb).below_ (below_alloc (Below.refl _ _) (.cells #[.slice I1 g.terms.length i1, .slice I2 g.names.length i2, .slice (some ⟨gI, 0, none⟩) init.length i3] 25 (0, 0)))); have HE10 := Aside0.mk (blk_alloc (blk_below HH9.out hb) (.cells #[.slice I1 g.terms.length i1, .slice I2 g.names.length i2, .slice (some ⟨gI, 0, none⟩) init.length i3] 25 (0, 0))); clear hb ho; obtain ⟨v4, v5, v6⟩ := HK10.out.cells; have v7 := (cell_keep HK10.out.b HL1.out).trans HL1.out; have v8' := (cell_keep HK10.out.b HL2.out).trans HL2.out; have hal := below_alloc (Below.refl (w10.alloc (.cells #[.slice I1 g.terms.length i1, .slice I2 g.names.length i2, .slice (some ⟨gI, 0, none⟩) init.length i3] 25 (0, 0))).heap.size (w10.alloc (.cells #[.slice I1 g.terms.length i1, .slice I2 g.names.length i2, .slice (some ⟨gI, 0, none⟩) init.length i3] 25 (0, 0)))) (.cells #[.int .i64 last.left, .slice RL last.right.length crl] 56 (0, 0)); have HT11 := Aside0.mk (TK.mk (bi := w7.heap.size) (bj := w10.heap.size) (bl := w10.heap.size + 1) (names := N4) (init := init) (last := last) (below_then HK10.out.b HK10.out.b.size hal) (HK10.out.rep.below_ hal) (blk_alloc HK10.out.p _) (HJ10.out.below_ hal) (HI10.out.below_ hal) (blk_alloc HH10.out _) (blk_alloc HE10.out _) (blk_two w10 (.cells #[.slice I1 g.terms.length i1, .slice I2 g.names.length i2, .slice (some ⟨gI, 0, none⟩) init.length i3] 25 (0, 0)) (.cells #[.int .i64 last.left, .slice RL last.right.length crl] 56 (0, 0))) (Kd.C_below HRL.out (below_then HK10.out.b HK10.out.b.size hal))); clear hal; have v9 := (blk_cell HT11.out.p 0).trans rfl)) | (have hx := HH7.out; at_builtin; go_loud (refine app_str (w0 := w) (base := w.heap.size) (ok := fun q => True ∧ some q ≠ (Value.slice E1 g.terms.length e1).ownBlock) (p := ⟨#[122, 122, 57]⟩) rfl rfl HO7.out.names HK7.out.b HK7.out.b.size (by omega) (fun q hq => ⟨trivial, fresh_ne HO7.out.terms q hq⟩) rfl (by simp [Act.eval]) ?_; intro v8 w8 A8; have r8 := A8.row; rw [← HN4.out] at r8; obtain ⟨A8', c8, hv8⟩ := Kd.R_slice r8; subst hv8; have HR8 := Aside0.mk r8; have HA8 := Aside0.mk A8; clear A8 r8; have hh8 := blk_grown HH7.out HA8.out.grown (Kd.R_ne HO7.out.names HH7.out (by decide)); have n8 := blk_cell hh8 1; have m8 := blk_frozen hh8 1; simp only [List.getElem?_toArray, List.getElem?_cons_zero, List.getElem?_cons_succ] at n8; have HH8 := Aside0.mk hh8; have hbE := below_set HA8.out.below hw7 1 (.slice A8' N4.length c8); have HK9 := Aside0.mk (SK.mk (HG.out.below_ hbE) (blk_far (p := ⟨w7.heap.size, 1, none⟩) (blk_grown HK7.out.p HA8.out.grown (Kd.R_ne HO7.out.names HK7.out.p (by decide))) (Nat.ne_of_lt hx7) (.slice A8' N4.length c8)) hbE); have HI9 := Aside0.mk (own_name HN4.out HO7.out HR8.out HA8.out.grown HH8.out (.slice A8' N4.length c8)); have HH9 := Aside0.mk (blk_set HH8.out 1 (.slice A8' N4.length c8)); clear hh8 hbE; obtain ⟨u4, u5, u6⟩ := HK9.out.cells)) | (have hx := HK6.out; go_at_call 19; go_loud (refine (own_c g A1 A2 (some a3) c1 c2 c3 _ hx.rep HSM.out).mono ?_; rintro e w7 ⟨⟨E1, E2, E3, e1, e2, e3, rfl, ho⟩, hb⟩; have hw7 : w.heap.size ≤ w7.heap.size := Nat.le_trans hx.b.size hb.size; have hx7 : w.heap.size < w7.heap.size := Nat.lt_of_lt_of_le (blk_lt hx.p) hb.size; have HK7 := Aside0.mk ((hx.below_ hb).below_ (below_alloc (Below.refl _ _) (.cells #[.slice E1 g.terms.length e1, .slice E2 g.names.length e2, .slice E3 g.rules.length e3] 25 (0, 0)))); have HO7 := Aside0.mk ((ho.lower hx.b.size).below_ (below_alloc (Below.refl _ _) (.cells #[.slice E1 g.terms.length e1, .slice E2 g.names.length e2, .slice E3 g.rules.length e3] 25 (0, 0)))); have HH7 := Aside0.mk (blk_new w7 (.cells #[.slice E1 g.terms.length e1, .slice E2 g.names.length e2, .slice E3 g.rules.length e3] 25 (0, 0))); have n7 := blk_cell HH7.out 1; have m7 := blk_frozen HH7.out 1; simp only [List.getElem?_toArray, List.getElem?_cons_zero, List.getElem?_cons_succ] at n7; clear hb ho)) | (go_at_call 23; go_loud (refine (good_c ⟨g.terms, g.names, L4⟩ B1 B2 A4 d1 d2 c4 _ HR5.out).mono ?_; rw [HL4.out, spoilt_twice HXM.out]; rintro e w5 ⟨rfl, hb5⟩; have HK6 := Aside0.mk (HK5.out.below_ hb5); clear hb5; obtain ⟨u1, u2, u3⟩ := HK6.out.cells)))
        obtain ⟨W11, hW11⟩ : ∃ W : World, W = ((w10.alloc (.cells #[.slice I1 g.terms.length i1, .slice I2 g.names.length i2, .slice (some ⟨gI, 0, none⟩) init.length i3] 25 (0, 0))).alloc (.cells #[.int .i64 last.left, .slice RL last.right.length crl] 56 (0, 0))) := ⟨_, rfl⟩
        simp only [← hW11] at HT11 HB13 HR13
        have hgC1 : W11.heap.size ≤ gC := by rw [hW11]; exact hgC
        clear hW11 hgC
        have kb0 := Aside0.mk ((blk_cell HT11.out.p 0).trans rfl : W11.cell? ⟨w.heap.size, 0, none⟩ = some (.slice A1 g.terms.length c1))
        have kj2 := Aside0.mk ((blk_cell HT11.out.pj 2).trans rfl : W11.cell? ⟨w10.heap.size, 2, none⟩ = some (.slice (some ⟨gI, 0, none⟩) init.length i3))
        have kl0 := Aside0.mk ((blk_cell HT11.out.pl 0).trans rfl : W11.cell? ⟨w10.heap.size + 1, 0, none⟩ = some (.int .i64 last.left))
        have kl1 := Aside0.mk ((blk_cell HT11.out.pl 1).trans rfl : W11.cell? ⟨w10.heap.size + 1, 1, none⟩ = some (.slice RL last.right.length crl))
        have HMEM : Aside0 (∀ r ∈ init, ∀ s ∈ r.right, 0 ≤ s ∧ s < (g.terms.length : Int) + g.names.length) := ⟨fun r hr s hs => (rulF_mem HP.out.ruled r (by rw [HIL.out]; exact List.mem_append_left _ hr)).2.2.2 s hs⟩
        have HMEL : Aside0 (last.right.length ≤ 8 ∧ ∀ s ∈ last.right, 0 ≤ s ∧ s < (g.terms.length : Int) + g.names.length) := ⟨(rulF_mem HP.out.ruled last (by rw [HIL.out]; simp)).2.2⟩
        have HMEN : Aside0 (∀ r ∈ init, r.right.length ≤ 8) := ⟨fun r hr => (rulF_mem HP.out.ruled r (by rw [HIL.out]; exact List.mem_append_left _ hr)).2.2.1⟩
        have hin60 : init.length ≤ 60 := by omega
        clear n7 m7 n8 m8 n10 m10 u1 u2 u3 u4 u5 u6 v4 v5 v6 v7 v8' v9 y1 y2 y3 HH7 HH8 HH9 HI9 HK9 HA8 HR8 HO7 HK7 HK6 HK5 HE10 HI10 HH10 HJ10 HK10 HR5 HH5
        go_loopw [11, 9] (fun kv lv wr => ∃ (k : Nat) (cs : List Bool), k ≤ init.length ∧ kv = .int .i64 k ∧ lv = .bool ((init.take k).any fun r => r.left == last.left) ∧ Aside0 (Below W11.heap.size W11 wr) ∧ Aside0 (kBool.R 4 wr W11.heap.size (fun _ => True) (.slice (some ⟨gC, 0, none⟩) (g.terms.length + 1) cC) cs) ∧ Aside0 (CS g.terms.length cs (comeB (init.take k)))) (fun kv _ _ => init.length - (intOf kv).toNat)
        case atStart => exact ⟨0, _, Nat.zero_le _, rfl, rfl, HB13, HR13, ⟨(CS.start _).congr (fun s _ => rfl)⟩⟩
        case round =>
          clear HB13 HR13
          obtain ⟨k, cs, hk, rfl, rfl, HB, HR, HC⟩ := hrel
          have z1 := (cell_in HB.out kj2.out)
          by_cases hlt : k < init.length
          · obtain ⟨ad, Rk, crk, eA, hx1, hx2, hck, hRk⟩ := at_rule HT11.out.rj.rules k hlt
            cases eA
            have hrm := List.getElem_mem hlt
            obtain ⟨r, hr⟩ : ∃ r, r = init[k]'hlt := ⟨_, rfl⟩
            have ht1 : init.take (k + 1) = init.take k ++ [r] := by rw [hr]; exact List.take_succ_eq_append_getElem hlt
            have HTK := Aside0.mk ht1
            clear ht1
            change W11.cell? _ = some (.int .i64 (init[k]'hlt).left) at hx1
            change W11.cell? _ = some (.slice Rk (init[k]'hlt).right.length crk) at hx2
            change (init[k]'hlt).right.length ≤ crk at hck
            change kInt.C W11 Rk (init[k]'hlt).right.length (init[k]'hlt).right at hRk
            rw [← hr] at hx1 hx2 hck hRk hrm
            have hx1' : W11.cell? ⟨gI, k * 2, none⟩ = some (.int .i64 r.left) := by rw [add0] at hx1; exact hx1
            have hx2' : W11.cell? ⟨gI, k * 2 + 1, none⟩ = some (.slice Rk r.right.length crk) := by rw [add0] at hx2; exact hx2
            have KX1 := Aside0.mk hx1'
            have KX2 := Aside0.mk hx2'
            have KXR := Aside0.mk hRk
            have HRM := Aside0.mk hrm
            have hr8 := HMEN.out r HRM.out
            have j1 : (0 : Int) ≤ (k : Int) := by omega
            have j2 : (k : Int) < (init.length : Int) := by omega
            clear hr hx1 hx2 hck hRk hrm hx1' hx2'
            cases hlb : (init.take k).any fun r => r.left == last.left with
            | true =>
              have HLB := Aside0.mk hlb
              go_wp2
              refine start_ (n := 13) (S := fun w' => Below W11.heap.size W11 w') (ds := []) #[false, false, false, false, false, false, false, false, false, false, false, false, false] (by kernel_rfl) rfl rfl (below_drew1 HB.out) (fun hHeld => ?_)
              refine pure_ (i := 0) (N := (some 84)) (v := ?_) (a' := ?_) #[true, false, false, false, false, false, false, false, false, false, false, false, false] rfl rfl (by kernel_rfl) (fun _ _ _ h => h) (Or.inl ⟨by rfl, ?_⟩) ?_ ?_
              rotate_left
              · (intro w'; go_simp; with_reducible rfl)
              rotate_left
              · (simp only [Act.put, List.setIfInBounds_toArray, List.set_cons_zero, List.set_cons_succ]; rfl)
              refine pure_ (i := 1) (N := (some 85)) (v := ?_) (a' := ?_) #[true, true, false, false, false, false, false, false, false, false, false, false, false] rfl rfl (by kernel_rfl) (fun _ _ _ h => h) (Or.inl ⟨by rfl, ?_⟩) ?_ ?_
              rotate_left
              · (intro w'; go_simp; with_reducible rfl)
              rotate_left
              · (simp only [Act.put, List.setIfInBounds_toArray, List.set_cons_zero, List.set_cons_succ]; rfl)
              refine pure_ (i := 2) (N := (some 86)) (v := undef) (a' := ?_) #[true, true, true, false, false, false, false, false, false, false, false, false, false] rfl rfl (by kernel_rfl) (fun _ _ _ h => h) (Or.inr ⟨by rfl, rfl⟩) ?_ ?_
              rotate_left
              · (simp only [Act.put, List.setIfInBounds_toArray, List.set_cons_zero, List.set_cons_succ]; rfl)
              refine pure_ (i := 4) (N := (some 88)) (v := undef) (a' := ?_) #[true, true, true, false, true, false, false, false, false, false, false, false, false] rfl rfl (by kernel_rfl) (fun _ _ _ h => h) (Or.inr ⟨by rfl, rfl⟩) ?_ ?_
              rotate_left
              · (simp only [Act.put, List.setIfInBounds_toArray, List.set_cons_zero, List.set_cons_succ]; rfl)
              refine pure_ (i := 8) (N := (some 92)) (v := undef) (a' := ?_) #[true, true, true, false, true, false, false, false, true, false, false, false, false] rfl rfl (by kernel_rfl) (fun _ _ _ h => h) (Or.inr ⟨by rfl, rfl⟩) ?_ ?_
              rotate_left
              · (simp only [Act.put, List.setIfInBounds_toArray, List.set_cons_zero, List.set_cons_succ]; rfl)
              refine pure_ (i := 3) (N := (some 87)) (v := undef) (a' := ?_) #[true, true, true, true, true, false, false, false, true, false, false, false, false] rfl rfl (by kernel_rfl) (fun _ _ _ h => h) (Or.inr ⟨by rfl, rfl⟩) ?_ ?_
              rotate_left
              · (simp only [Act.put, List.setIfInBounds_toArray, List.set_cons_zero, List.set_cons_succ]; rfl)
              refine pure_ (i := 5) (N := (some 89)) (v := undef) (a' := ?_) #[true, true, true, true, true, true, false, false, true, false, false, false, false] rfl rfl (by kernel_rfl) (fun _ _ _ h => h) (Or.inr ⟨by rfl, rfl⟩) ?_ ?_
              rotate_left
              · (simp only [Act.put, List.setIfInBounds_toArray, List.set_cons_zero, List.set_cons_succ]; rfl)
              refine pure_ (i := 6) (N := (some 90)) (v := undef) (a' := ?_) #[true, true, true, true, true, true, true, false, true, false, false, false, false] rfl rfl (by kernel_rfl) (fun _ _ _ h => h) (Or.inr ⟨by rfl, rfl⟩) ?_ ?_
              rotate_left
              · (simp only [Act.put, List.setIfInBounds_toArray, List.set_cons_zero, List.set_cons_succ]; rfl)
              refine pure_ (i := 7) (N := (some 91)) (v := undef) (a' := ?_) #[true, true, true, true, true, true, true, true, true, false, false, false, false] rfl rfl (by kernel_rfl) (fun _ _ _ h => h) (Or.inr ⟨by rfl, rfl⟩) ?_ ?_
              rotate_left
              · (simp only [Act.put, List.setIfInBounds_toArray, List.set_cons_zero, List.set_cons_succ]; rfl)
              refine pure_ (i := 9) (N := (some 93)) (v := undef) (a' := ?_) #[true, true, true, true, true, true, true, true, true, true, false, false, false] rfl rfl (by kernel_rfl) (fun _ _ _ h => h) (Or.inr ⟨by rfl, rfl⟩) ?_ ?_
              rotate_left
              · (simp only [Act.put, List.setIfInBounds_toArray, List.set_cons_zero, List.set_cons_succ]; rfl)
              refine pure_ (i := 10) (N := (some 94)) (v := undef) (a' := ?_) #[true, true, true, true, true, true, true, true, true, true, true, false, false] rfl rfl (by kernel_rfl) (fun _ _ _ h => h) (Or.inr ⟨by rfl, rfl⟩) ?_ ?_
              rotate_left
              · (simp only [Act.put, List.setIfInBounds_toArray, List.set_cons_zero, List.set_cons_succ]; rfl)
              refine pure_ (i := 11) (N := (some 95)) (v := ?_) (a' := ?_) #[true, true, true, true, true, true, true, true, true, true, true, true, false] rfl rfl (by kernel_rfl) (fun _ _ _ h => h) (Or.inl ⟨by rfl, ?_⟩) ?_ ?_
              rotate_left
              · (intro w'; go_simp; with_reducible rfl)
              rotate_left
              · (simp only [Act.put, List.setIfInBounds_toArray, List.set_cons_zero, List.set_cons_succ]; rfl)
              refine pure_ (i := 12) (N := (some 9)) (v := ?_) (a' := ?_) #[true, true, true, true, true, true, true, true, true, true, true, true, true] rfl rfl (by kernel_rfl) (fun _ _ _ h => h) (Or.inl ⟨by rfl, ?_⟩) ?_ ?_
              rotate_left
              · (intro w'; go_simp; with_reducible rfl)
              rotate_left
              · (simp only [Act.put, List.setIfInBounds_toArray, List.set_cons_zero, List.set_cons_succ]; rfl)
              refine done_ (by kernel_rfl) ?_
              go_wp2
              clear z1
              go_loopw [12] (fun dv wi => ∃ (d : Nat) (cs' : List Bool), d ≤ r.right.length ∧ dv = .int .i64 d ∧ Aside0 (Below W11.heap.size W11 wi) ∧ Aside0 (kBool.R 4 wi W11.heap.size (fun _ => True) (.slice (some ⟨gC, 0, none⟩) (g.terms.length + 1) cC) cs') ∧ Aside0 (CS g.terms.length cs' (fun s => comeB (init.take k) s || (r.right.take d).any fun y => y == s))) (fun dv _ => r.right.length - (intOf dv).toNat)
              case atStart => exact ⟨0, cs, Nat.zero_le _, rfl, ⟨below_drew1 HB.out⟩, ⟨Kd.R_drew HR.out⟩, ⟨HC.out.congr (fun s _ => by simp)⟩⟩
              case round =>
                clear HB HR HC
                obtain ⟨d, cs', hd, rfl, HB, HR, HC⟩ := hrel
                have z1 := cell_in HB.out kj2.out
                have z2 := cell_in HB.out KX2.out
                by_cases hdl : d < r.right.length
                · have hsm := HMEM.out r HRM.out _ (List.getElem_mem hdl)
                  obtain ⟨sd, eR, hy⟩ := at_int KXR.out d hdl
                  subst eR
                  obtain ⟨sy, hsy⟩ : ∃ sy : Nat, (r.right[d]'hdl) = (sy : Int) := ⟨(r.right[d]'hdl).toNat, by omega⟩
                  have ht2 : r.right.take (d + 1) = r.right.take d ++ [(sy : Int)] := by rw [← hsy]; exact List.take_succ_eq_append_getElem hdl
                  rw [hsy] at hy hsm
                  have KY := Aside0.mk hy
                  have HTD := Aside0.mk ht2
                  have j3 : (0 : Int) ≤ (d : Int) := by omega
                  have j4 : (d : Int) < (r.right.length : Int) := by omega
                  clear hsy hy ht2
                  have hlen := HC.out.len
                  obtain ⟨mn, hmin, hmle, hmeq⟩ : ∃ mn : Nat, (if g.terms.length < sy then (g.terms.length : Int) else (sy : Int)) = (mn : Int) ∧ mn ≤ g.terms.length ∧ ∀ s : Nat, s < g.terms.length → ((mn : Int) == (s : Int)) = ((sy : Int) == (s : Int)) := by
                    by_cases h : g.terms.length < sy
                    · refine ⟨g.terms.length, by rw [if_pos h], Nat.le_refl _, fun s hs => ?_⟩
                      have e1 : ((g.terms.length : Int) == (s : Int)) = false := by rw [beq_eq_false_iff_ne]; omega
                      have e2 : ((sy : Int) == (s : Int)) = false := by rw [beq_eq_false_iff_ne]; omega
                      rw [e1, e2]
                    · exact ⟨sy, by rw [if_neg h], by omega, fun s hs => rfl⟩
                  have HMEQ := Aside0.mk hmeq
                  clear hmeq
                  have hput := Kd.R_putg (Kd.R_drew HR.out) (mn : Int) true
                  have hcf := Kd.R_celln false (Kd.R_drew HR.out) (mn : Int) (by omega) (by omega)
                  have hb1 : (mn : Int) < (g.terms.length : Int) + 1 := by omega
                  have hb0 : (0 : Int) ≤ (mn : Int) := by omega
                  rw [Int.toNat_natCast] at hput hcf
                  have HPUT := Aside0.mk hput
                  obtain ⟨cf1, cf2⟩ := hcf
                  clear hput
                  go_wp2
                  refine start_ (n := 16) (S := fun w' => Below W11.heap.size W11 w') (ds := [15]) #[false, false, false, false, false, false, false, false, false, false, false, false, false, false, false, false] (by kernel_rfl) rfl rfl (below_drew1 HB.out) (fun hHeld => ?_)
                  refine pure_ (i := 0) (N := (some 107)) (v := ?_) (a' := ?_) #[true, false, false, false, false, false, false, false, false, false, false, false, false, false, false, false] rfl rfl (by kernel_rfl) (fun _ _ _ h => h) (Or.inl ⟨by rfl, ?_⟩) ?_ ?_
                  rotate_left
                  · (intro w'; go_simp; with_reducible rfl)
                  rotate_left
                  · (simp only [Act.put, List.setIfInBounds_toArray, List.set_cons_zero, List.set_cons_succ]; rfl)
                  refine pure_ (i := 1) (N := (some 108)) (v := ?_) (a' := ?_) #[true, true, false, false, false, false, false, false, false, false, false, false, false, false, false, false] rfl rfl (by kernel_rfl) (fun _ _ _ h => h) (Or.inl ⟨by rfl, ?_⟩) ?_ ?_
                  rotate_left
                  · (intro w'; go_simp; with_reducible rfl)
                  rotate_left
                  · (simp only [Act.put, List.setIfInBounds_toArray, List.set_cons_zero, List.set_cons_succ]; rfl)
                  refine pure_ (i := 3) (N := (some 110)) (v := ?_) (a' := ?_) #[true, true, false, true, false, false, false, false, false, false, false, false, false, false, false, false] rfl rfl (by kernel_rfl) (fun _ _ _ h => h) (Or.inl ⟨by rfl, ?_⟩) ?_ ?_
                  rotate_left
                  · (intro w'; go_simp; with_reducible rfl)
                  rotate_left
                  · (simp only [Act.put, List.setIfInBounds_toArray, List.set_cons_zero, List.set_cons_succ]; rfl)
                  refine pure_ (i := 7) (N := (some 114)) (v := ?_) (a' := ?_) #[true, true, false, true, false, false, false, true, false, false, false, false, false, false, false, false] rfl rfl (by kernel_rfl) (fun _ _ _ h => h) (Or.inl ⟨by rfl, ?_⟩) ?_ ?_
                  rotate_left
                  · (intro w'; go_simp; with_reducible rfl)
                  rotate_left
                  · (simp only [Act.put, List.setIfInBounds_toArray, List.set_cons_zero, List.set_cons_succ]; rfl)
                  refine pure_ (i := 10) (N := (some 117)) (v := ?_) (a' := ?_) #[true, true, false, true, false, false, false, true, false, false, true, false, false, false, false, false] rfl rfl (by kernel_rfl) (fun _ _ _ h => h) (Or.inl ⟨by rfl, ?_⟩) ?_ ?_
                  rotate_left
                  · (intro w'; go_simp; with_reducible rfl)
                  rotate_left
                  · (simp only [Act.put, List.setIfInBounds_toArray, List.set_cons_zero, List.set_cons_succ]; rfl)
                  refine take_ (i := 2) (N := (some 109)) (v := ?_) (a' := ?_) #[true, true, true, true, false, false, false, true, false, false, true, false, false, false, false, false] rfl rfl (by kernel_rfl) (fun _ _ _ h => h) (Or.inl ⟨by rfl, ?_⟩) hHeld ?_ ?_
                  rotate_left
                  · (rintro w' hS; have d0' := cell_in hS kj2.out; have d1' := cell_in hS KX2.out; have d2' := cell_in hS KY.out; have d3' := cell_in hS kb0.out; go_simp; with_reducible rfl)
                  rotate_left
                  · (simp only [Act.put, List.setIfInBounds_toArray, List.set_cons_zero, List.set_cons_succ]; rfl)
                  refine pure_ (i := 4) (N := (some 111)) (v := ?_) (a' := ?_) #[true, true, true, true, true, false, false, true, false, false, true, false, false, false, false, false] rfl rfl (by kernel_rfl) (fun _ _ _ h => h) (Or.inl ⟨by rfl, ?_⟩) ?_ ?_
                  rotate_left
                  · (intro w'; go_simp; with_reducible rfl)
                  rotate_left
                  · (simp only [Act.put, List.setIfInBounds_toArray, List.set_cons_zero, List.set_cons_succ]; rfl)
                  refine pure_ (i := 5) (N := (some 112)) (v := ?_) (a' := ?_) #[true, true, true, true, true, true, false, true, false, false, true, false, false, false, false, false] rfl rfl (by kernel_rfl) (fun _ _ _ h => h) (Or.inl ⟨by rfl, ?_⟩) ?_ ?_
                  rotate_left
                  · (intro w'; go_simp; with_reducible rfl)
                  rotate_left
                  · (simp only [Act.put, List.setIfInBounds_toArray, List.set_cons_zero, List.set_cons_succ]; rfl)
                  refine take_ (i := 6) (N := (some 113)) (v := ?_) (a' := ?_) #[true, true, true, true, true, true, true, true, false, false, true, false, false, false, false, false] rfl rfl (by kernel_rfl) (fun _ _ _ h => h) (Or.inl ⟨by rfl, ?_⟩) hHeld ?_ ?_
                  rotate_left
                  · (rintro w' hS; have d0' := cell_in hS kj2.out; have d1' := cell_in hS KX2.out; have d2' := cell_in hS KY.out; have d3' := cell_in hS kb0.out; go_simp; with_reducible rfl)
                  rotate_left
                  · (simp only [Act.put, List.setIfInBounds_toArray, List.set_cons_zero, List.set_cons_succ]; rfl)
                  refine pure_ (i := 8) (N := (some 115)) (v := ?_) (a' := ?_) #[true, true, true, true, true, true, true, true, true, false, true, false, false, false, false, false] rfl rfl (by kernel_rfl) (fun _ _ _ h => h) (Or.inl ⟨by rfl, ?_⟩) ?_ ?_
                  rotate_left
                  · (intro w'; go_simp; with_reducible rfl)
                  rotate_left
                  · (simp only [Act.put, List.setIfInBounds_toArray, List.set_cons_zero, List.set_cons_succ]; rfl)
                  refine take_ (i := 9) (N := (some 116)) (v := ?_) (a' := ?_) #[true, true, true, true, true, true, true, true, true, true, true, false, false, false, false, false] rfl rfl (by kernel_rfl) (fun _ _ _ h => h) (Or.inl ⟨by rfl, ?_⟩) hHeld ?_ ?_
                  rotate_left
                  · (rintro w' hS; have d0' := cell_in hS kj2.out; have d1' := cell_in hS KX2.out; have d2' := cell_in hS KY.out; have d3' := cell_in hS kb0.out; go_simp; with_reducible rfl)
                  rotate_left
                  · (simp only [Act.put, List.setIfInBounds_toArray, List.set_cons_zero, List.set_cons_succ]; rfl)
                  refine take_ (i := 11) (N := (some 118)) (v := ?_) (a' := ?_) #[true, true, true, true, true, true, true, true, true, true, true, true, false, false, false, false] rfl rfl (by kernel_rfl) (fun _ _ _ h => h) (Or.inl ⟨by rfl, ?_⟩) hHeld ?_ ?_
                  rotate_left
                  · (rintro w' hS; have d0' := cell_in hS kj2.out; have d1' := cell_in hS KX2.out; have d2' := cell_in hS KY.out; have d3' := cell_in hS kb0.out; go_simp; with_reducible rfl)
                  rotate_left
                  · (simp only [Act.put, List.setIfInBounds_toArray, List.set_cons_zero, List.set_cons_succ]; rfl)
                  refine pure_ (i := 12) (N := (some 119)) (v := ?_) (a' := ?_) #[true, true, true, true, true, true, true, true, true, true, true, true, true, false, false, false] rfl rfl (by kernel_rfl) (fun _ _ _ h => h) (Or.inl ⟨by rfl, ?_⟩) ?_ ?_
                  rotate_left
                  · (intro w'; go_simp; with_reducible rfl)
                  rotate_left
                  · (simp only [Act.put, List.setIfInBounds_toArray, List.set_cons_zero, List.set_cons_succ]; rfl)
                  refine one_ (i := 13) (N := (some 120)) #[true, true, true, true, true, true, true, true, true, true, true, true, true, true, false, false] rfl rfl (by kernel_rfl) (by decide) (fun K hK => ?_)
                  (refine value_ (w1 := ?_) (v := ?_) (by rfl) rfl ?_ ?_; rotate_left 2; (go_simp; constructor; rfl; rfl); refine hK.out _ _ hHeld (fun hHeld => ?_))
                  skip
                  clear hK K
                  refine norm_ (a' := ?_) ?_ ?_
                  rotate_left
                  · (show Act.put _ (some 120) _ = _; simp only [Act.put, List.setIfInBounds_toArray, List.set_cons_zero, List.set_cons_succ]; rfl)
                  refine pure_ (i := 14) (N := (some 121)) (v := ?_) (a' := ?_) #[true, true, true, true, true, true, true, true, true, true, true, true, true, true, true, false] rfl rfl (by kernel_rfl) (fun _ _ _ h => h) (Or.inl ⟨by rfl, ?_⟩) ?_ ?_
                  rotate_left
                  · (intro w'; go_simp; with_reducible rfl)
                  rotate_left
                  · (simp only [Act.put, List.setIfInBounds_toArray, List.set_cons_zero, List.set_cons_succ]; rfl)
                  refine last_ (i := 15) (N := none) #[true, true, true, true, true, true, true, true, true, true, true, true, true, true, true, true] rfl rfl (by kernel_rfl) (by decide) (fun K hK => ?_)
                  skip
                  refine skip_ (w1 := ?_) (by rfl) rfl ?_ ?_
                  rotate_left
                  · (go_simp; rfl)
                  refine hK.out _ _ ?_
                  clear hK K
                  refine done_ (by kernel_rfl) ?_
                  go_wp2
                  go_roundw
                  case rel => exact ⟨d + 1, cs'.set mn true, by omega, by go_num, ⟨below_set (below_drew1 HB.out) hgC1 _ _⟩, ⟨HPUT.out.1⟩, ⟨(HC.out.set mn).congr (fun s hs => by rw [HTD.out, List.any_append, Bool.or_assoc, HMEQ.out s hs]; simp)⟩⟩
                  case measure => simp [intOf]; omega
                · obtain rfl : d = r.right.length := by omega
                  go_wp2
                  go_roundw
                  case rel => exact ⟨k + 1, cs', by omega, by go_num, by rw [HTK.out, List.any_append, HLB.out]; rfl, HB, HR, ⟨HC.out.congr (fun s _ => by unfold comeB; rw [HTK.out, List.any_append, List.take_length]; simp)⟩⟩
                  case measure => simp [intOf]; omega
            | false =>
              have HLB := Aside0.mk hlb
              go_wp2
              refine start_ (n := 13) (S := fun w' => Below W11.heap.size W11 w') (ds := []) #[false, false, false, false, false, false, false, false, false, false, false, false, false] (by kernel_rfl) rfl rfl (below_drew1 HB.out) (fun hHeld => ?_)
              refine pure_ (i := 0) (N := (some 84)) (v := ?_) (a' := ?_) #[true, false, false, false, false, false, false, false, false, false, false, false, false] rfl rfl (by kernel_rfl) (fun _ _ _ h => h) (Or.inl ⟨by rfl, ?_⟩) ?_ ?_
              rotate_left
              · (intro w'; go_simp; with_reducible rfl)
              rotate_left
              · (simp only [Act.put, List.setIfInBounds_toArray, List.set_cons_zero, List.set_cons_succ]; rfl)
              refine pure_ (i := 1) (N := (some 85)) (v := ?_) (a' := ?_) #[true, true, false, false, false, false, false, false, false, false, false, false, false] rfl rfl (by kernel_rfl) (fun _ _ _ h => h) (Or.inl ⟨by rfl, ?_⟩) ?_ ?_
              rotate_left
              · (intro w'; go_simp; with_reducible rfl)
              rotate_left
              · (simp only [Act.put, List.setIfInBounds_toArray, List.set_cons_zero, List.set_cons_succ]; rfl)
              refine pure_ (i := 2) (N := (some 86)) (v := ?_) (a' := ?_) #[true, true, true, false, false, false, false, false, false, false, false, false, false] rfl rfl (by kernel_rfl) (fun _ _ _ h => h) (Or.inl ⟨by rfl, ?_⟩) ?_ ?_
              rotate_left
              · (intro w'; go_simp; with_reducible rfl)
              rotate_left
              · (simp only [Act.put, List.setIfInBounds_toArray, List.set_cons_zero, List.set_cons_succ]; rfl)
              refine pure_ (i := 4) (N := (some 88)) (v := ?_) (a' := ?_) #[true, true, true, false, true, false, false, false, false, false, false, false, false] rfl rfl (by kernel_rfl) (fun _ _ _ h => h) (Or.inl ⟨by rfl, ?_⟩) ?_ ?_
              rotate_left
              · (intro w'; go_simp; with_reducible rfl)
              rotate_left
              · (simp only [Act.put, List.setIfInBounds_toArray, List.set_cons_zero, List.set_cons_succ]; rfl)
              refine pure_ (i := 8) (N := (some 92)) (v := ?_) (a' := ?_) #[true, true, true, false, true, false, false, false, true, false, false, false, false] rfl rfl (by kernel_rfl) (fun _ _ _ h => h) (Or.inl ⟨by rfl, ?_⟩) ?_ ?_
              rotate_left
              · (intro w'; go_simp; with_reducible rfl)
              rotate_left
              · (simp only [Act.put, List.setIfInBounds_toArray, List.set_cons_zero, List.set_cons_succ]; rfl)
              refine take_ (i := 3) (N := (some 87)) (v := ?_) (a' := ?_) #[true, true, true, true, true, false, false, false, true, false, false, false, false] rfl rfl (by kernel_rfl) (fun _ _ _ h => h) (Or.inl ⟨by rfl, ?_⟩) hHeld ?_ ?_
              rotate_left
              · (rintro w' hS; have d0' := cell_in hS kj2.out; have d1' := cell_in hS kl0.out; have d2' := cell_in hS KX1.out; go_simp; with_reducible rfl)
              rotate_left
              · (simp only [Act.put, List.setIfInBounds_toArray, List.set_cons_zero, List.set_cons_succ]; rfl)
              refine pure_ (i := 5) (N := (some 89)) (v := ?_) (a' := ?_) #[true, true, true, true, true, true, false, false, true, false, false, false, false] rfl rfl (by kernel_rfl) (fun _ _ _ h => h) (Or.inl ⟨by rfl, ?_⟩) ?_ ?_
              rotate_left
              · (intro w'; go_simp; with_reducible rfl)
              rotate_left
              · (simp only [Act.put, List.setIfInBounds_toArray, List.set_cons_zero, List.set_cons_succ]; rfl)
              refine pure_ (i := 6) (N := (some 90)) (v := ?_) (a' := ?_) #[true, true, true, true, true, true, true, false, true, false, false, false, false] rfl rfl (by kernel_rfl) (fun _ _ _ h => h) (Or.inl ⟨by rfl, ?_⟩) ?_ ?_
              rotate_left
              · (intro w'; go_simp; with_reducible rfl)
              rotate_left
              · (simp only [Act.put, List.setIfInBounds_toArray, List.set_cons_zero, List.set_cons_succ]; rfl)
              refine take_ (i := 7) (N := (some 91)) (v := ?_) (a' := ?_) #[true, true, true, true, true, true, true, true, true, false, false, false, false] rfl rfl (by kernel_rfl) (fun _ _ _ h => h) (Or.inl ⟨by rfl, ?_⟩) hHeld ?_ ?_
              rotate_left
              · (rintro w' hS; have d0' := cell_in hS kj2.out; have d1' := cell_in hS kl0.out; have d2' := cell_in hS KX1.out; go_simp; with_reducible rfl)
              rotate_left
              · (simp only [Act.put, List.setIfInBounds_toArray, List.set_cons_zero, List.set_cons_succ]; rfl)
              refine take_ (i := 9) (N := (some 93)) (v := ?_) (a' := ?_) #[true, true, true, true, true, true, true, true, true, true, false, false, false] rfl rfl (by kernel_rfl) (fun _ _ _ h => h) (Or.inl ⟨by rfl, ?_⟩) hHeld ?_ ?_
              rotate_left
              · (rintro w' hS; have d0' := cell_in hS kj2.out; have d1' := cell_in hS kl0.out; have d2' := cell_in hS KX1.out; go_simp; with_reducible rfl)
              rotate_left
              · (simp only [Act.put, List.setIfInBounds_toArray, List.set_cons_zero, List.set_cons_succ]; rfl)
              refine pure_ (i := 10) (N := (some 94)) (v := ?_) (a' := ?_) #[true, true, true, true, true, true, true, true, true, true, true, false, false] rfl rfl (by kernel_rfl) (fun _ _ _ h => h) (Or.inl ⟨by rfl, ?_⟩) ?_ ?_
              rotate_left
              · (intro w'; go_simp; with_reducible rfl)
              rotate_left
              · (simp only [Act.put, List.setIfInBounds_toArray, List.set_cons_zero, List.set_cons_succ]; rfl)
              refine pure_ (i := 11) (N := (some 95)) (v := ?_) (a' := ?_) #[true, true, true, true, true, true, true, true, true, true, true, true, false] rfl rfl (by kernel_rfl) (fun _ _ _ h => h) (Or.inl ⟨by rfl, ?_⟩) ?_ ?_
              rotate_left
              · (intro w'; go_simp; with_reducible rfl)
              rotate_left
              · (simp only [Act.put, List.setIfInBounds_toArray, List.set_cons_zero, List.set_cons_succ]; rfl)
              refine pure_ (i := 12) (N := (some 9)) (v := ?_) (a' := ?_) #[true, true, true, true, true, true, true, true, true, true, true, true, true] rfl rfl (by kernel_rfl) (fun _ _ _ h => h) (Or.inl ⟨by rfl, ?_⟩) ?_ ?_
              rotate_left
              · (intro w'; go_simp; with_reducible rfl)
              rotate_left
              · (simp only [Act.put, List.setIfInBounds_toArray, List.set_cons_zero, List.set_cons_succ]; rfl)
              refine done_ (by kernel_rfl) ?_
              go_wp2
              clear z1
              go_loopw [12] (fun dv wi => ∃ (d : Nat) (cs' : List Bool), d ≤ r.right.length ∧ dv = .int .i64 d ∧ Aside0 (Below W11.heap.size W11 wi) ∧ Aside0 (kBool.R 4 wi W11.heap.size (fun _ => True) (.slice (some ⟨gC, 0, none⟩) (g.terms.length + 1) cC) cs') ∧ Aside0 (CS g.terms.length cs' (fun s => comeB (init.take k) s || (r.right.take d).any fun y => y == s))) (fun dv _ => r.right.length - (intOf dv).toNat)
              case atStart => exact ⟨0, cs, Nat.zero_le _, rfl, ⟨below_drew1 HB.out⟩, ⟨Kd.R_drew HR.out⟩, ⟨HC.out.congr (fun s _ => by simp)⟩⟩
              case round =>
                clear HB HR HC
                obtain ⟨d, cs', hd, rfl, HB, HR, HC⟩ := hrel
                have z1 := cell_in HB.out kj2.out
                have z2 := cell_in HB.out KX2.out
                by_cases hdl : d < r.right.length
                · have hsm := HMEM.out r HRM.out _ (List.getElem_mem hdl)
                  obtain ⟨sd, eR, hy⟩ := at_int KXR.out d hdl
                  subst eR
                  obtain ⟨sy, hsy⟩ : ∃ sy : Nat, (r.right[d]'hdl) = (sy : Int) := ⟨(r.right[d]'hdl).toNat, by omega⟩
                  have ht2 : r.right.take (d + 1) = r.right.take d ++ [(sy : Int)] := by rw [← hsy]; exact List.take_succ_eq_append_getElem hdl
                  rw [hsy] at hy hsm
                  have KY := Aside0.mk hy
                  have HTD := Aside0.mk ht2
                  have j3 : (0 : Int) ≤ (d : Int) := by omega
                  have j4 : (d : Int) < (r.right.length : Int) := by omega
                  clear hsy hy ht2
                  have hlen := HC.out.len
                  obtain ⟨mn, hmin, hmle, hmeq⟩ : ∃ mn : Nat, (if g.terms.length < sy then (g.terms.length : Int) else (sy : Int)) = (mn : Int) ∧ mn ≤ g.terms.length ∧ ∀ s : Nat, s < g.terms.length → ((mn : Int) == (s : Int)) = ((sy : Int) == (s : Int)) := by
                    by_cases h : g.terms.length < sy
                    · refine ⟨g.terms.length, by rw [if_pos h], Nat.le_refl _, fun s hs => ?_⟩
                      have e1 : ((g.terms.length : Int) == (s : Int)) = false := by rw [beq_eq_false_iff_ne]; omega
                      have e2 : ((sy : Int) == (s : Int)) = false := by rw [beq_eq_false_iff_ne]; omega
                      rw [e1, e2]
                    · exact ⟨sy, by rw [if_neg h], by omega, fun s hs => rfl⟩
                  have HMEQ := Aside0.mk hmeq
                  clear hmeq
                  have hput := Kd.R_putg (Kd.R_drew HR.out) (mn : Int) true
                  have hcf := Kd.R_celln false (Kd.R_drew HR.out) (mn : Int) (by omega) (by omega)
                  have hb1 : (mn : Int) < (g.terms.length : Int) + 1 := by omega
                  have hb0 : (0 : Int) ≤ (mn : Int) := by omega
                  rw [Int.toNat_natCast] at hput hcf
                  have HPUT := Aside0.mk hput
                  obtain ⟨cf1, cf2⟩ := hcf
                  clear hput
                  go_wp2
                  refine start_ (n := 16) (S := fun w' => Below W11.heap.size W11 w') (ds := [15]) #[false, false, false, false, false, false, false, false, false, false, false, false, false, false, false, false] (by kernel_rfl) rfl rfl (below_drew1 HB.out) (fun hHeld => ?_)
                  refine pure_ (i := 0) (N := (some 107)) (v := ?_) (a' := ?_) #[true, false, false, false, false, false, false, false, false, false, false, false, false, false, false, false] rfl rfl (by kernel_rfl) (fun _ _ _ h => h) (Or.inl ⟨by rfl, ?_⟩) ?_ ?_
                  rotate_left
                  · (intro w'; go_simp; with_reducible rfl)
                  rotate_left
                  · (simp only [Act.put, List.setIfInBounds_toArray, List.set_cons_zero, List.set_cons_succ]; rfl)
                  refine pure_ (i := 1) (N := (some 108)) (v := ?_) (a' := ?_) #[true, true, false, false, false, false, false, false, false, false, false, false, false, false, false, false] rfl rfl (by kernel_rfl) (fun _ _ _ h => h) (Or.inl ⟨by rfl, ?_⟩) ?_ ?_
                  rotate_left
                  · (intro w'; go_simp; with_reducible rfl)
                  rotate_left
                  · (simp only [Act.put, List.setIfInBounds_toArray, List.set_cons_zero, List.set_cons_succ]; rfl)
                  refine pure_ (i := 3) (N := (some 110)) (v := ?_) (a' := ?_) #[true, true, false, true, false, false, false, false, false, false, false, false, false, false, false, false] rfl rfl (by kernel_rfl) (fun _ _ _ h => h) (Or.inl ⟨by rfl, ?_⟩) ?_ ?_
                  rotate_left
                  · (intro w'; go_simp; with_reducible rfl)
                  rotate_left
                  · (simp only [Act.put, List.setIfInBounds_toArray, List.set_cons_zero, List.set_cons_succ]; rfl)
                  refine pure_ (i := 7) (N := (some 114)) (v := ?_) (a' := ?_) #[true, true, false, true, false, false, false, true, false, false, false, false, false, false, false, false] rfl rfl (by kernel_rfl) (fun _ _ _ h => h) (Or.inl ⟨by rfl, ?_⟩) ?_ ?_
                  rotate_left
                  · (intro w'; go_simp; with_reducible rfl)
                  rotate_left
                  · (simp only [Act.put, List.setIfInBounds_toArray, List.set_cons_zero, List.set_cons_succ]; rfl)
                  refine pure_ (i := 10) (N := (some 117)) (v := ?_) (a' := ?_) #[true, true, false, true, false, false, false, true, false, false, true, false, false, false, false, false] rfl rfl (by kernel_rfl) (fun _ _ _ h => h) (Or.inl ⟨by rfl, ?_⟩) ?_ ?_
                  rotate_left
                  · (intro w'; go_simp; with_reducible rfl)
                  rotate_left
                  · (simp only [Act.put, List.setIfInBounds_toArray, List.set_cons_zero, List.set_cons_succ]; rfl)
                  refine take_ (i := 2) (N := (some 109)) (v := ?_) (a' := ?_) #[true, true, true, true, false, false, false, true, false, false, true, false, false, false, false, false] rfl rfl (by kernel_rfl) (fun _ _ _ h => h) (Or.inl ⟨by rfl, ?_⟩) hHeld ?_ ?_
                  rotate_left
                  · (rintro w' hS; have d0' := cell_in hS kj2.out; have d1' := cell_in hS KX2.out; have d2' := cell_in hS KY.out; have d3' := cell_in hS kb0.out; go_simp; with_reducible rfl)
                  rotate_left
                  · (simp only [Act.put, List.setIfInBounds_toArray, List.set_cons_zero, List.set_cons_succ]; rfl)
                  refine pure_ (i := 4) (N := (some 111)) (v := ?_) (a' := ?_) #[true, true, true, true, true, false, false, true, false, false, true, false, false, false, false, false] rfl rfl (by kernel_rfl) (fun _ _ _ h => h) (Or.inl ⟨by rfl, ?_⟩) ?_ ?_
                  rotate_left
                  · (intro w'; go_simp; with_reducible rfl)
                  rotate_left
                  · (simp only [Act.put, List.setIfInBounds_toArray, List.set_cons_zero, List.set_cons_succ]; rfl)
                  refine pure_ (i := 5) (N := (some 112)) (v := ?_) (a' := ?_) #[true, true, true, true, true, true, false, true, false, false, true, false, false, false, false, false] rfl rfl (by kernel_rfl) (fun _ _ _ h => h) (Or.inl ⟨by rfl, ?_⟩) ?_ ?_
                  rotate_left
                  · (intro w'; go_simp; with_reducible rfl)
                  rotate_left
                  · (simp only [Act.put, List.setIfInBounds_toArray, List.set_cons_zero, List.set_cons_succ]; rfl)
                  refine take_ (i := 6) (N := (some 113)) (v := ?_) (a' := ?_) #[true, true, true, true, true, true, true, true, false, false, true, false, false, false, false, false] rfl rfl (by kernel_rfl) (fun _ _ _ h => h) (Or.inl ⟨by rfl, ?_⟩) hHeld ?_ ?_
                  rotate_left
                  · (rintro w' hS; have d0' := cell_in hS kj2.out; have d1' := cell_in hS KX2.out; have d2' := cell_in hS KY.out; have d3' := cell_in hS kb0.out; go_simp; with_reducible rfl)
                  rotate_left
                  · (simp only [Act.put, List.setIfInBounds_toArray, List.set_cons_zero, List.set_cons_succ]; rfl)
                  refine pure_ (i := 8) (N := (some 115)) (v := ?_) (a' := ?_) #[true, true, true, true, true, true, true, true, true, false, true, false, false, false, false, false] rfl rfl (by kernel_rfl) (fun _ _ _ h => h) (Or.inl ⟨by rfl, ?_⟩) ?_ ?_
                  rotate_left
                  · (intro w'; go_simp; with_reducible rfl)
                  rotate_left
                  · (simp only [Act.put, List.setIfInBounds_toArray, List.set_cons_zero, List.set_cons_succ]; rfl)
                  refine take_ (i := 9) (N := (some 116)) (v := ?_) (a' := ?_) #[true, true, true, true, true, true, true, true, true, true, true, false, false, false, false, false] rfl rfl (by kernel_rfl) (fun _ _ _ h => h) (Or.inl ⟨by rfl, ?_⟩) hHeld ?_ ?_
                  rotate_left
                  · (rintro w' hS; have d0' := cell_in hS kj2.out; have d1' := cell_in hS KX2.out; have d2' := cell_in hS KY.out; have d3' := cell_in hS kb0.out; go_simp; with_reducible rfl)
                  rotate_left
                  · (simp only [Act.put, List.setIfInBounds_toArray, List.set_cons_zero, List.set_cons_succ]; rfl)
                  refine take_ (i := 11) (N := (some 118)) (v := ?_) (a' := ?_) #[true, true, true, true, true, true, true, true, true, true, true, true, false, false, false, false] rfl rfl (by kernel_rfl) (fun _ _ _ h => h) (Or.inl ⟨by rfl, ?_⟩) hHeld ?_ ?_
                  rotate_left
                  · (rintro w' hS; have d0' := cell_in hS kj2.out; have d1' := cell_in hS KX2.out; have d2' := cell_in hS KY.out; have d3' := cell_in hS kb0.out; go_simp; with_reducible rfl)
                  rotate_left
                  · (simp only [Act.put, List.setIfInBounds_toArray, List.set_cons_zero, List.set_cons_succ]; rfl)
                  refine pure_ (i := 12) (N := (some 119)) (v := ?_) (a' := ?_) #[true, true, true, true, true, true, true, true, true, true, true, true, true, false, false, false] rfl rfl (by kernel_rfl) (fun _ _ _ h => h) (Or.inl ⟨by rfl, ?_⟩) ?_ ?_
                  rotate_left
                  · (intro w'; go_simp; with_reducible rfl)
                  rotate_left
                  · (simp only [Act.put, List.setIfInBounds_toArray, List.set_cons_zero, List.set_cons_succ]; rfl)
                  refine one_ (i := 13) (N := (some 120)) #[true, true, true, true, true, true, true, true, true, true, true, true, true, true, false, false] rfl rfl (by kernel_rfl) (by decide) (fun K hK => ?_)
                  (refine value_ (w1 := ?_) (v := ?_) (by rfl) rfl ?_ ?_; rotate_left 2; (go_simp; constructor; rfl; rfl); refine hK.out _ _ hHeld (fun hHeld => ?_))
                  skip
                  clear hK K
                  refine norm_ (a' := ?_) ?_ ?_
                  rotate_left
                  · (show Act.put _ (some 120) _ = _; simp only [Act.put, List.setIfInBounds_toArray, List.set_cons_zero, List.set_cons_succ]; rfl)
                  refine pure_ (i := 14) (N := (some 121)) (v := ?_) (a' := ?_) #[true, true, true, true, true, true, true, true, true, true, true, true, true, true, true, false] rfl rfl (by kernel_rfl) (fun _ _ _ h => h) (Or.inl ⟨by rfl, ?_⟩) ?_ ?_
                  rotate_left
                  · (intro w'; go_simp; with_reducible rfl)
                  rotate_left
                  · (simp only [Act.put, List.setIfInBounds_toArray, List.set_cons_zero, List.set_cons_succ]; rfl)
                  refine last_ (i := 15) (N := none) #[true, true, true, true, true, true, true, true, true, true, true, true, true, true, true, true] rfl rfl (by kernel_rfl) (by decide) (fun K hK => ?_)
                  skip
                  refine skip_ (w1 := ?_) (by rfl) rfl ?_ ?_
                  rotate_left
                  · (go_simp; rfl)
                  refine hK.out _ _ ?_
                  clear hK K
                  refine done_ (by kernel_rfl) ?_
                  go_wp2
                  go_roundw
                  case rel => exact ⟨d + 1, cs'.set mn true, by omega, by go_num, ⟨below_set (below_drew1 HB.out) hgC1 _ _⟩, ⟨HPUT.out.1⟩, ⟨(HC.out.set mn).congr (fun s hs => by rw [HTD.out, List.any_append, Bool.or_assoc, HMEQ.out s hs]; simp)⟩⟩
                  case measure => simp [intOf]; omega
                · obtain rfl : d = r.right.length := by omega
                  go_wp2
                  go_roundw
                  case rel => exact ⟨k + 1, cs', by omega, by go_num, by rw [HTK.out, List.any_append, HLB.out]; simp, HB, HR, ⟨HC.out.congr (fun s _ => by unfold comeB; rw [HTK.out, List.any_append, List.take_length]; simp)⟩⟩
                  case measure => simp [intOf]; omega
          · obtain rfl : k = init.length := by omega
            rw [List.take_length] at HC ⊢
            have HL0 : Aside0 (((init.any fun r => r.left == last.left) && (last.right.take 0).all fun s => decide ((g.terms.length : Int) ≤ s) || comeB init s) = (init.any fun r => r.left == last.left)) := ⟨by simp⟩
            obtain ⟨l0, hl0⟩ : ∃ l0, l0 = (init.any fun r => r.left == last.left) := ⟨_, rfl⟩
            rw [← hl0] at HL0 ⊢
            have HL00 := Lib.hid hl0
            clear hl0 z1
            have z1 := cell_in HB.out kj2.out
            have hr8 := HMEL.out.1
            go_wp2
            obtain ⟨wo, hwo⟩ : ∃ wo : World, wo = wr := ⟨_, rfl⟩
            subst hwo
            go_loopw [13, 9] (fun dv lv wq => ∃ (d : Nat) (lb : Bool), d ≤ last.right.length ∧ dv = .int .i64 d ∧ lv = .bool lb ∧ Aside0 ((l0 && (last.right.take d).all fun s => decide ((g.terms.length : Int) ≤ s) || comeB init s) = lb) ∧ Aside0 (Below W11.heap.size W11 wq) ∧ Aside0 (kBool.R 4 wq W11.heap.size (fun _ => True) (.slice (some ⟨gC, 0, none⟩) (g.terms.length + 1) cC) cs)) (fun dv _ _ => last.right.length - (intOf dv).toNat)
            case atStart => exact ⟨0, l0, Nat.zero_le _, rfl, rfl, ⟨by simp⟩, HB, HR⟩
            case round =>
              clear HB HR z1
              obtain ⟨d, lb, hd, rfl, rfl, HLB, HB, HR⟩ := hrel
              have z1 := cell_in HB.out kl1.out
              by_cases hdl : d < last.right.length
              · have hsm := HMEL.out.2 _ (List.getElem_mem hdl)
                obtain ⟨sd, eR, hy⟩ := at_int HT11.out.rl d hdl
                subst eR
                obtain ⟨sy, hsy⟩ : ∃ sy : Nat, (last.right[d]'hdl) = (sy : Int) := ⟨(last.right[d]'hdl).toNat, by omega⟩
                have ht2 : last.right.take (d + 1) = last.right.take d ++ [(sy : Int)] := by rw [← hsy]; exact List.take_succ_eq_append_getElem hdl
                rw [hsy] at hy hsm
                have KY := Aside0.mk hy
                have HTD := Aside0.mk ht2
                have j3 : (0 : Int) ≤ (d : Int) := by omega
                have j4 : (d : Int) < (last.right.length : Int) := by omega
                clear hsy hy ht2
                have hlen := HC.out.len
                cases lb with
                | false =>
                  go_wp2
                  refine start_ (n := 23) (S := fun w' => Below W11.heap.size W11 w') (ds := []) #[false, false, false, false, false, false, false, false, false, false, false, false, false, false, false, false, false, false, false, false, false, false, false] (by kernel_rfl) rfl rfl (below_drew1 HB.out) (fun hHeld => ?_)
                  refine pure_ (i := 0) (N := (some 129)) (v := ?_) (a' := ?_) #[true, false, false, false, false, false, false, false, false, false, false, false, false, false, false, false, false, false, false, false, false, false, false] rfl rfl (by kernel_rfl) (fun _ _ _ h => h) (Or.inl ⟨by rfl, ?_⟩) ?_ ?_
                  rotate_left
                  · (intro w'; go_simp; with_reducible rfl)
                  rotate_left
                  · (simp only [Act.put, List.setIfInBounds_toArray, List.set_cons_zero, List.set_cons_succ]; rfl)
                  refine pure_ (i := 1) (N := (some 130)) (v := ?_) (a' := ?_) #[true, true, false, false, false, false, false, false, false, false, false, false, false, false, false, false, false, false, false, false, false, false, false] rfl rfl (by kernel_rfl) (fun _ _ _ h => h) (Or.inl ⟨by rfl, ?_⟩) ?_ ?_
                  rotate_left
                  · (intro w'; go_simp; with_reducible rfl)
                  rotate_left
                  · (simp only [Act.put, List.setIfInBounds_toArray, List.set_cons_zero, List.set_cons_succ]; rfl)
                  refine pure_ (i := 2) (N := (some 131)) (v := undef) (a' := ?_) #[true, true, true, false, false, false, false, false, false, false, false, false, false, false, false, false, false, false, false, false, false, false, false] rfl rfl (by kernel_rfl) (fun _ _ _ h => h) (Or.inr ⟨by rfl, rfl⟩) ?_ ?_
                  rotate_left
                  · (simp only [Act.put, List.setIfInBounds_toArray, List.set_cons_zero, List.set_cons_succ]; rfl)
                  refine pure_ (i := 4) (N := (some 133)) (v := undef) (a' := ?_) #[true, true, true, false, true, false, false, false, false, false, false, false, false, false, false, false, false, false, false, false, false, false, false] rfl rfl (by kernel_rfl) (fun _ _ _ h => h) (Or.inr ⟨by rfl, rfl⟩) ?_ ?_
                  rotate_left
                  · (simp only [Act.put, List.setIfInBounds_toArray, List.set_cons_zero, List.set_cons_succ]; rfl)
                  refine pure_ (i := 7) (N := (some 136)) (v := undef) (a' := ?_) #[true, true, true, false, true, false, false, true, false, false, false, false, false, false, false, false, false, false, false, false, false, false, false] rfl rfl (by kernel_rfl) (fun _ _ _ h => h) (Or.inr ⟨by rfl, rfl⟩) ?_ ?_
                  rotate_left
                  · (simp only [Act.put, List.setIfInBounds_toArray, List.set_cons_zero, List.set_cons_succ]; rfl)
                  refine pure_ (i := 3) (N := (some 132)) (v := undef) (a' := ?_) #[true, true, true, true, true, false, false, true, false, false, false, false, false, false, false, false, false, false, false, false, false, false, false] rfl rfl (by kernel_rfl) (fun _ _ _ h => h) (Or.inr ⟨by rfl, rfl⟩) ?_ ?_
                  rotate_left
                  · (simp only [Act.put, List.setIfInBounds_toArray, List.set_cons_zero, List.set_cons_succ]; rfl)
                  refine pure_ (i := 5) (N := (some 134)) (v := undef) (a' := ?_) #[true, true, true, true, true, true, false, true, false, false, false, false, false, false, false, false, false, false, false, false, false, false, false] rfl rfl (by kernel_rfl) (fun _ _ _ h => h) (Or.inr ⟨by rfl, rfl⟩) ?_ ?_
                  rotate_left
                  · (simp only [Act.put, List.setIfInBounds_toArray, List.set_cons_zero, List.set_cons_succ]; rfl)
                  refine pure_ (i := 6) (N := (some 135)) (v := undef) (a' := ?_) #[true, true, true, true, true, true, true, true, false, false, false, false, false, false, false, false, false, false, false, false, false, false, false] rfl rfl (by kernel_rfl) (fun _ _ _ h => h) (Or.inr ⟨by rfl, rfl⟩) ?_ ?_
                  rotate_left
                  · (simp only [Act.put, List.setIfInBounds_toArray, List.set_cons_zero, List.set_cons_succ]; rfl)
                  refine pure_ (i := 8) (N := (some 137)) (v := undef) (a' := ?_) #[true, true, true, true, true, true, true, true, true, false, false, false, false, false, false, false, false, false, false, false, false, false, false] rfl rfl (by kernel_rfl) (fun _ _ _ h => h) (Or.inr ⟨by rfl, rfl⟩) ?_ ?_
                  rotate_left
                  · (simp only [Act.put, List.setIfInBounds_toArray, List.set_cons_zero, List.set_cons_succ]; rfl)
                  refine pure_ (i := 9) (N := (some 138)) (v := undef) (a' := ?_) #[true, true, true, true, true, true, true, true, true, true, false, false, false, false, false, false, false, false, false, false, false, false, false] rfl rfl (by kernel_rfl) (fun _ _ _ h => h) (Or.inr ⟨by rfl, rfl⟩) ?_ ?_
                  rotate_left
                  · (simp only [Act.put, List.setIfInBounds_toArray, List.set_cons_zero, List.set_cons_succ]; rfl)
                  refine pure_ (i := 10) (N := (some 139)) (v := undef) (a' := ?_) #[true, true, true, true, true, true, true, true, true, true, true, false, false, false, false, false, false, false, false, false, false, false, false] rfl rfl (by kernel_rfl) (fun _ _ _ h => h) (Or.inr ⟨by rfl, rfl⟩) ?_ ?_
                  rotate_left
                  · (simp only [Act.put, List.setIfInBounds_toArray, List.set_cons_zero, List.set_cons_succ]; rfl)
                  refine pure_ (i := 11) (N := (some 140)) (v := undef) (a' := ?_) #[true, true, true, true, true, true, true, true, true, true, true, true, false, false, false, false, false, false, false, false, false, false, false] rfl rfl (by kernel_rfl) (fun _ _ _ h => h) (Or.inr ⟨by rfl, rfl⟩) ?_ ?_
                  rotate_left
                  · (simp only [Act.put, List.setIfInBounds_toArray, List.set_cons_zero, List.set_cons_succ]; rfl)
                  refine pure_ (i := 12) (N := (some 141)) (v := undef) (a' := ?_) #[true, true, true, true, true, true, true, true, true, true, true, true, true, false, false, false, false, false, false, false, false, false, false] rfl rfl (by kernel_rfl) (fun _ _ _ h => h) (Or.inr ⟨by rfl, rfl⟩) ?_ ?_
                  rotate_left
                  · (simp only [Act.put, List.setIfInBounds_toArray, List.set_cons_zero, List.set_cons_succ]; rfl)
                  refine pure_ (i := 13) (N := (some 142)) (v := undef) (a' := ?_) #[true, true, true, true, true, true, true, true, true, true, true, true, true, true, false, false, false, false, false, false, false, false, false] rfl rfl (by kernel_rfl) (fun _ _ _ h => h) (Or.inr ⟨by rfl, rfl⟩) ?_ ?_
                  rotate_left
                  · (simp only [Act.put, List.setIfInBounds_toArray, List.set_cons_zero, List.set_cons_succ]; rfl)
                  refine pure_ (i := 15) (N := (some 144)) (v := undef) (a' := ?_) #[true, true, true, true, true, true, true, true, true, true, true, true, true, true, false, true, false, false, false, false, false, false, false] rfl rfl (by kernel_rfl) (fun _ _ _ h => h) (Or.inr ⟨by rfl, rfl⟩) ?_ ?_
                  rotate_left
                  · (simp only [Act.put, List.setIfInBounds_toArray, List.set_cons_zero, List.set_cons_succ]; rfl)
                  refine pure_ (i := 14) (N := (some 143)) (v := undef) (a' := ?_) #[true, true, true, true, true, true, true, true, true, true, true, true, true, true, true, true, false, false, false, false, false, false, false] rfl rfl (by kernel_rfl) (fun _ _ _ h => h) (Or.inr ⟨by rfl, rfl⟩) ?_ ?_
                  rotate_left
                  · (simp only [Act.put, List.setIfInBounds_toArray, List.set_cons_zero, List.set_cons_succ]; rfl)
                  refine pure_ (i := 16) (N := (some 145)) (v := undef) (a' := ?_) #[true, true, true, true, true, true, true, true, true, true, true, true, true, true, true, true, true, false, false, false, false, false, false] rfl rfl (by kernel_rfl) (fun _ _ _ h => h) (Or.inr ⟨by rfl, rfl⟩) ?_ ?_
                  rotate_left
                  · (simp only [Act.put, List.setIfInBounds_toArray, List.set_cons_zero, List.set_cons_succ]; rfl)
                  refine pure_ (i := 17) (N := (some 146)) (v := undef) (a' := ?_) #[true, true, true, true, true, true, true, true, true, true, true, true, true, true, true, true, true, true, false, false, false, false, false] rfl rfl (by kernel_rfl) (fun _ _ _ h => h) (Or.inr ⟨by rfl, rfl⟩) ?_ ?_
                  rotate_left
                  · (simp only [Act.put, List.setIfInBounds_toArray, List.set_cons_zero, List.set_cons_succ]; rfl)
                  refine pure_ (i := 18) (N := (some 147)) (v := undef) (a' := ?_) #[true, true, true, true, true, true, true, true, true, true, true, true, true, true, true, true, true, true, true, false, false, false, false] rfl rfl (by kernel_rfl) (fun _ _ _ h => h) (Or.inr ⟨by rfl, rfl⟩) ?_ ?_
                  rotate_left
                  · (simp only [Act.put, List.setIfInBounds_toArray, List.set_cons_zero, List.set_cons_succ]; rfl)
                  refine pure_ (i := 19) (N := (some 148)) (v := undef) (a' := ?_) #[true, true, true, true, true, true, true, true, true, true, true, true, true, true, true, true, true, true, true, true, false, false, false] rfl rfl (by kernel_rfl) (fun _ _ _ h => h) (Or.inr ⟨by rfl, rfl⟩) ?_ ?_
                  rotate_left
                  · (simp only [Act.put, List.setIfInBounds_toArray, List.set_cons_zero, List.set_cons_succ]; rfl)
                  refine pure_ (i := 20) (N := (some 149)) (v := undef) (a' := ?_) #[true, true, true, true, true, true, true, true, true, true, true, true, true, true, true, true, true, true, true, true, true, false, false] rfl rfl (by kernel_rfl) (fun _ _ _ h => h) (Or.inr ⟨by rfl, rfl⟩) ?_ ?_
                  rotate_left
                  · (simp only [Act.put, List.setIfInBounds_toArray, List.set_cons_zero, List.set_cons_succ]; rfl)
                  refine pure_ (i := 21) (N := (some 150)) (v := ?_) (a' := ?_) #[true, true, true, true, true, true, true, true, true, true, true, true, true, true, true, true, true, true, true, true, true, true, false] rfl rfl (by kernel_rfl) (fun _ _ _ h => h) (Or.inl ⟨by rfl, ?_⟩) ?_ ?_
                  rotate_left
                  · (intro w'; go_simp; with_reducible rfl)
                  rotate_left
                  · (simp only [Act.put, List.setIfInBounds_toArray, List.set_cons_zero, List.set_cons_succ]; rfl)
                  refine pure_ (i := 22) (N := (some 9)) (v := ?_) (a' := ?_) #[true, true, true, true, true, true, true, true, true, true, true, true, true, true, true, true, true, true, true, true, true, true, true] rfl rfl (by kernel_rfl) (fun _ _ _ h => h) (Or.inl ⟨by rfl, ?_⟩) ?_ ?_
                  rotate_left
                  · (intro w'; go_simp; with_reducible rfl)
                  rotate_left
                  · (simp only [Act.put, List.setIfInBounds_toArray, List.set_cons_zero, List.set_cons_succ]; rfl)
                  refine done_ (by kernel_rfl) ?_
                  go_wp2
                  go_roundw
                  case rel => exact ⟨d + 1, false, by omega, by go_num, rfl, ⟨by rw [HTD.out, List.all_append, ← Bool.and_assoc, HLB.out]; rfl⟩, ⟨below_drew1 HB.out⟩, ⟨Kd.R_drew HR.out⟩⟩
                  case measure => simp [intOf]; omega
                | true =>
                  by_cases hst : g.terms.length ≤ sy
                  · have q3 : (g.terms.length : Int) ≤ (sy : Int) := by omega
                    go_wp2
                    refine start_ (n := 23) (S := fun w' => Below W11.heap.size W11 w') (ds := []) #[false, false, false, false, false, false, false, false, false, false, false, false, false, false, false, false, false, false, false, false, false, false, false] (by kernel_rfl) rfl rfl (below_drew1 HB.out) (fun hHeld => ?_)
                    refine pure_ (i := 0) (N := (some 129)) (v := ?_) (a' := ?_) #[true, false, false, false, false, false, false, false, false, false, false, false, false, false, false, false, false, false, false, false, false, false, false] rfl rfl (by kernel_rfl) (fun _ _ _ h => h) (Or.inl ⟨by rfl, ?_⟩) ?_ ?_
                    rotate_left
                    · (intro w'; go_simp; with_reducible rfl)
                    rotate_left
                    · (simp only [Act.put, List.setIfInBounds_toArray, List.set_cons_zero, List.set_cons_succ]; rfl)
                    refine pure_ (i := 1) (N := (some 130)) (v := ?_) (a' := ?_) #[true, true, false, false, false, false, false, false, false, false, false, false, false, false, false, false, false, false, false, false, false, false, false] rfl rfl (by kernel_rfl) (fun _ _ _ h => h) (Or.inl ⟨by rfl, ?_⟩) ?_ ?_
                    rotate_left
                    · (intro w'; go_simp; with_reducible rfl)
                    rotate_left
                    · (simp only [Act.put, List.setIfInBounds_toArray, List.set_cons_zero, List.set_cons_succ]; rfl)
                    refine pure_ (i := 2) (N := (some 131)) (v := ?_) (a' := ?_) #[true, true, true, false, false, false, false, false, false, false, false, false, false, false, false, false, false, false, false, false, false, false, false] rfl rfl (by kernel_rfl) (fun _ _ _ h => h) (Or.inl ⟨by rfl, ?_⟩) ?_ ?_
                    rotate_left
                    · (intro w'; go_simp; with_reducible rfl)
                    rotate_left
                    · (simp only [Act.put, List.setIfInBounds_toArray, List.set_cons_zero, List.set_cons_succ]; rfl)
                    refine pure_ (i := 4) (N := (some 133)) (v := ?_) (a' := ?_) #[true, true, true, false, true, false, false, false, false, false, false, false, false, false, false, false, false, false, false, false, false, false, false] rfl rfl (by kernel_rfl) (fun _ _ _ h => h) (Or.inl ⟨by rfl, ?_⟩) ?_ ?_
                    rotate_left
                    · (intro w'; go_simp; with_reducible rfl)
                    rotate_left
                    · (simp only [Act.put, List.setIfInBounds_toArray, List.set_cons_zero, List.set_cons_succ]; rfl)
                    refine pure_ (i := 7) (N := (some 136)) (v := ?_) (a' := ?_) #[true, true, true, false, true, false, false, true, false, false, false, false, false, false, false, false, false, false, false, false, false, false, false] rfl rfl (by kernel_rfl) (fun _ _ _ h => h) (Or.inl ⟨by rfl, ?_⟩) ?_ ?_
                    rotate_left
                    · (intro w'; go_simp; with_reducible rfl)
                    rotate_left
                    · (simp only [Act.put, List.setIfInBounds_toArray, List.set_cons_zero, List.set_cons_succ]; rfl)
                    refine take_ (i := 3) (N := (some 132)) (v := ?_) (a' := ?_) #[true, true, true, true, true, false, false, true, false, false, false, false, false, false, false, false, false, false, false, false, false, false, false] rfl rfl (by kernel_rfl) (fun _ _ _ h => h) (Or.inl ⟨by rfl, ?_⟩) hHeld ?_ ?_
                    rotate_left
                    · (rintro w' hS; have d0' := cell_in hS kl1.out; have d1' := cell_in hS KY.out; have d2' := cell_in hS kb0.out; go_simp; with_reducible rfl)
                    rotate_left
                    · (simp only [Act.put, List.setIfInBounds_toArray, List.set_cons_zero, List.set_cons_succ]; rfl)
                    refine pure_ (i := 5) (N := (some 134)) (v := ?_) (a' := ?_) #[true, true, true, true, true, true, false, true, false, false, false, false, false, false, false, false, false, false, false, false, false, false, false] rfl rfl (by kernel_rfl) (fun _ _ _ h => h) (Or.inl ⟨by rfl, ?_⟩) ?_ ?_
                    rotate_left
                    · (intro w'; go_simp; with_reducible rfl)
                    rotate_left
                    · (simp only [Act.put, List.setIfInBounds_toArray, List.set_cons_zero, List.set_cons_succ]; rfl)
                    refine take_ (i := 6) (N := (some 135)) (v := ?_) (a' := ?_) #[true, true, true, true, true, true, true, true, false, false, false, false, false, false, false, false, false, false, false, false, false, false, false] rfl rfl (by kernel_rfl) (fun _ _ _ h => h) (Or.inl ⟨by rfl, ?_⟩) hHeld ?_ ?_
                    rotate_left
                    · (rintro w' hS; have d0' := cell_in hS kl1.out; have d1' := cell_in hS KY.out; have d2' := cell_in hS kb0.out; go_simp; with_reducible rfl)
                    rotate_left
                    · (simp only [Act.put, List.setIfInBounds_toArray, List.set_cons_zero, List.set_cons_succ]; rfl)
                    refine take_ (i := 8) (N := (some 137)) (v := ?_) (a' := ?_) #[true, true, true, true, true, true, true, true, true, false, false, false, false, false, false, false, false, false, false, false, false, false, false] rfl rfl (by kernel_rfl) (fun _ _ _ h => h) (Or.inl ⟨by rfl, ?_⟩) hHeld ?_ ?_
                    rotate_left
                    · (rintro w' hS; have d0' := cell_in hS kl1.out; have d1' := cell_in hS KY.out; have d2' := cell_in hS kb0.out; go_simp; with_reducible rfl)
                    rotate_left
                    · (simp only [Act.put, List.setIfInBounds_toArray, List.set_cons_zero, List.set_cons_succ]; rfl)
                    refine pure_ (i := 9) (N := (some 138)) (v := ?_) (a' := ?_) #[true, true, true, true, true, true, true, true, true, true, false, false, false, false, false, false, false, false, false, false, false, false, false] rfl rfl (by kernel_rfl) (fun _ _ _ h => h) (Or.inl ⟨by rfl, ?_⟩) ?_ ?_
                    rotate_left
                    · (intro w'; go_simp; with_reducible rfl)
                    rotate_left
                    · (simp only [Act.put, List.setIfInBounds_toArray, List.set_cons_zero, List.set_cons_succ]; rfl)
                    refine pure_ (i := 10) (N := (some 139)) (v := ?_) (a' := ?_) #[true, true, true, true, true, true, true, true, true, true, true, false, false, false, false, false, false, false, false, false, false, false, false] rfl rfl (by kernel_rfl) (fun _ _ _ h => h) (Or.inl ⟨by rfl, ?_⟩) ?_ ?_
                    rotate_left
                    · (intro w'; go_simp; with_reducible rfl)
                    rotate_left
                    · (simp only [Act.put, List.setIfInBounds_toArray, List.set_cons_zero, List.set_cons_succ]; rfl)
                    refine pure_ (i := 11) (N := (some 140)) (v := ?_) (a' := ?_) #[true, true, true, true, true, true, true, true, true, true, true, true, false, false, false, false, false, false, false, false, false, false, false] rfl rfl (by kernel_rfl) (fun _ _ _ h => h) (Or.inl ⟨by rfl, ?_⟩) ?_ ?_
                    rotate_left
                    · (intro w'; go_simp; with_reducible rfl)
                    rotate_left
                    · (simp only [Act.put, List.setIfInBounds_toArray, List.set_cons_zero, List.set_cons_succ]; rfl)
                    refine pure_ (i := 12) (N := (some 141)) (v := undef) (a' := ?_) #[true, true, true, true, true, true, true, true, true, true, true, true, true, false, false, false, false, false, false, false, false, false, false] rfl rfl (by kernel_rfl) (fun _ _ _ h => h) (Or.inr ⟨by rfl, rfl⟩) ?_ ?_
                    rotate_left
                    · (simp only [Act.put, List.setIfInBounds_toArray, List.set_cons_zero, List.set_cons_succ]; rfl)
                    refine pure_ (i := 13) (N := (some 142)) (v := undef) (a' := ?_) #[true, true, true, true, true, true, true, true, true, true, true, true, true, true, false, false, false, false, false, false, false, false, false] rfl rfl (by kernel_rfl) (fun _ _ _ h => h) (Or.inr ⟨by rfl, rfl⟩) ?_ ?_
                    rotate_left
                    · (simp only [Act.put, List.setIfInBounds_toArray, List.set_cons_zero, List.set_cons_succ]; rfl)
                    refine pure_ (i := 15) (N := (some 144)) (v := undef) (a' := ?_) #[true, true, true, true, true, true, true, true, true, true, true, true, true, true, false, true, false, false, false, false, false, false, false] rfl rfl (by kernel_rfl) (fun _ _ _ h => h) (Or.inr ⟨by rfl, rfl⟩) ?_ ?_
                    rotate_left
                    · (simp only [Act.put, List.setIfInBounds_toArray, List.set_cons_zero, List.set_cons_succ]; rfl)
                    refine pure_ (i := 14) (N := (some 143)) (v := undef) (a' := ?_) #[true, true, true, true, true, true, true, true, true, true, true, true, true, true, true, true, false, false, false, false, false, false, false] rfl rfl (by kernel_rfl) (fun _ _ _ h => h) (Or.inr ⟨by rfl, rfl⟩) ?_ ?_
                    rotate_left
                    · (simp only [Act.put, List.setIfInBounds_toArray, List.set_cons_zero, List.set_cons_succ]; rfl)
                    refine pure_ (i := 16) (N := (some 145)) (v := undef) (a' := ?_) #[true, true, true, true, true, true, true, true, true, true, true, true, true, true, true, true, true, false, false, false, false, false, false] rfl rfl (by kernel_rfl) (fun _ _ _ h => h) (Or.inr ⟨by rfl, rfl⟩) ?_ ?_
                    rotate_left
                    · (simp only [Act.put, List.setIfInBounds_toArray, List.set_cons_zero, List.set_cons_succ]; rfl)
                    refine pure_ (i := 17) (N := (some 146)) (v := undef) (a' := ?_) #[true, true, true, true, true, true, true, true, true, true, true, true, true, true, true, true, true, true, false, false, false, false, false] rfl rfl (by kernel_rfl) (fun _ _ _ h => h) (Or.inr ⟨by rfl, rfl⟩) ?_ ?_
                    rotate_left
                    · (simp only [Act.put, List.setIfInBounds_toArray, List.set_cons_zero, List.set_cons_succ]; rfl)
                    refine pure_ (i := 18) (N := (some 147)) (v := undef) (a' := ?_) #[true, true, true, true, true, true, true, true, true, true, true, true, true, true, true, true, true, true, true, false, false, false, false] rfl rfl (by kernel_rfl) (fun _ _ _ h => h) (Or.inr ⟨by rfl, rfl⟩) ?_ ?_
                    rotate_left
                    · (simp only [Act.put, List.setIfInBounds_toArray, List.set_cons_zero, List.set_cons_succ]; rfl)
                    refine pure_ (i := 19) (N := (some 148)) (v := undef) (a' := ?_) #[true, true, true, true, true, true, true, true, true, true, true, true, true, true, true, true, true, true, true, true, false, false, false] rfl rfl (by kernel_rfl) (fun _ _ _ h => h) (Or.inr ⟨by rfl, rfl⟩) ?_ ?_
                    rotate_left
                    · (simp only [Act.put, List.setIfInBounds_toArray, List.set_cons_zero, List.set_cons_succ]; rfl)
                    refine pure_ (i := 20) (N := (some 149)) (v := ?_) (a' := ?_) #[true, true, true, true, true, true, true, true, true, true, true, true, true, true, true, true, true, true, true, true, true, false, false] rfl rfl (by kernel_rfl) (fun _ _ _ h => h) (Or.inl ⟨by rfl, ?_⟩) ?_ ?_
                    rotate_left
                    · (intro w'; go_simp; with_reducible rfl)
                    rotate_left
                    · (simp only [Act.put, List.setIfInBounds_toArray, List.set_cons_zero, List.set_cons_succ]; rfl)
                    refine pure_ (i := 21) (N := (some 150)) (v := ?_) (a' := ?_) #[true, true, true, true, true, true, true, true, true, true, true, true, true, true, true, true, true, true, true, true, true, true, false] rfl rfl (by kernel_rfl) (fun _ _ _ h => h) (Or.inl ⟨by rfl, ?_⟩) ?_ ?_
                    rotate_left
                    · (intro w'; go_simp; with_reducible rfl)
                    rotate_left
                    · (simp only [Act.put, List.setIfInBounds_toArray, List.set_cons_zero, List.set_cons_succ]; rfl)
                    refine pure_ (i := 22) (N := (some 9)) (v := ?_) (a' := ?_) #[true, true, true, true, true, true, true, true, true, true, true, true, true, true, true, true, true, true, true, true, true, true, true] rfl rfl (by kernel_rfl) (fun _ _ _ h => h) (Or.inl ⟨by rfl, ?_⟩) ?_ ?_
                    rotate_left
                    · (intro w'; go_simp; with_reducible rfl)
                    rotate_left
                    · (simp only [Act.put, List.setIfInBounds_toArray, List.set_cons_zero, List.set_cons_succ]; rfl)
                    refine done_ (by kernel_rfl) ?_
                    go_wp2
                    go_roundw
                    case rel => exact ⟨d + 1, true, by omega, by go_num, rfl, ⟨by rw [HTD.out, List.all_append, ← Bool.and_assoc, HLB.out]; simp [hst]⟩, ⟨below_drew1 HB.out⟩, ⟨Kd.R_drew HR.out⟩⟩
                    case measure => simp [intOf]; omega
                  · have q3 : ¬ g.terms.length ≤ sy := hst
                    have hcf := (Kd.R_celln false HR.out (sy : Int) (by omega) (by omega)).1
                    rw [Int.toNat_natCast] at hcf
                    have hrd : rdOf false cs (sy : Int) = comeB init (sy : Int) := by
                      have := HC.out.at_ sy (by omega)
                      simp [rdOf, this]
                    rw [hrd] at hcf
                    have HCF := Aside0.mk hcf
                    have hb1 : (sy : Int) < (g.terms.length : Int) + 1 := by omega
                    have hb0 : (0 : Int) ≤ (sy : Int) := by omega
                    clear hcf hrd
                    go_wp2
                    refine start_ (n := 23) (S := fun w' => Below W11.heap.size W11 w' ∧ w'.cell? ⟨gC, sy, none⟩ = some (.bool (comeB init (sy : Int)))) (ds := []) #[false, false, false, false, false, false, false, false, false, false, false, false, false, false, false, false, false, false, false, false, false, false, false] (by kernel_rfl) rfl rfl (⟨below_drew1 HB.out, HCF.out⟩) (fun hHeld => ?_)
                    refine pure_ (i := 0) (N := (some 129)) (v := ?_) (a' := ?_) #[true, false, false, false, false, false, false, false, false, false, false, false, false, false, false, false, false, false, false, false, false, false, false] rfl rfl (by kernel_rfl) (fun _ _ _ h => h) (Or.inl ⟨by rfl, ?_⟩) ?_ ?_
                    rotate_left
                    · (intro w'; go_simp; with_reducible rfl)
                    rotate_left
                    · (simp only [Act.put, List.setIfInBounds_toArray, List.set_cons_zero, List.set_cons_succ]; rfl)
                    refine pure_ (i := 1) (N := (some 130)) (v := ?_) (a' := ?_) #[true, true, false, false, false, false, false, false, false, false, false, false, false, false, false, false, false, false, false, false, false, false, false] rfl rfl (by kernel_rfl) (fun _ _ _ h => h) (Or.inl ⟨by rfl, ?_⟩) ?_ ?_
                    rotate_left
                    · (intro w'; go_simp; with_reducible rfl)
                    rotate_left
                    · (simp only [Act.put, List.setIfInBounds_toArray, List.set_cons_zero, List.set_cons_succ]; rfl)
                    refine pure_ (i := 2) (N := (some 131)) (v := ?_) (a' := ?_) #[true, true, true, false, false, false, false, false, false, false, false, false, false, false, false, false, false, false, false, false, false, false, false] rfl rfl (by kernel_rfl) (fun _ _ _ h => h) (Or.inl ⟨by rfl, ?_⟩) ?_ ?_
                    rotate_left
                    · (intro w'; go_simp; with_reducible rfl)
                    rotate_left
                    · (simp only [Act.put, List.setIfInBounds_toArray, List.set_cons_zero, List.set_cons_succ]; rfl)
                    refine pure_ (i := 4) (N := (some 133)) (v := ?_) (a' := ?_) #[true, true, true, false, true, false, false, false, false, false, false, false, false, false, false, false, false, false, false, false, false, false, false] rfl rfl (by kernel_rfl) (fun _ _ _ h => h) (Or.inl ⟨by rfl, ?_⟩) ?_ ?_
                    rotate_left
                    · (intro w'; go_simp; with_reducible rfl)
                    rotate_left
                    · (simp only [Act.put, List.setIfInBounds_toArray, List.set_cons_zero, List.set_cons_succ]; rfl)
                    refine pure_ (i := 7) (N := (some 136)) (v := ?_) (a' := ?_) #[true, true, true, false, true, false, false, true, false, false, false, false, false, false, false, false, false, false, false, false, false, false, false] rfl rfl (by kernel_rfl) (fun _ _ _ h => h) (Or.inl ⟨by rfl, ?_⟩) ?_ ?_
                    rotate_left
                    · (intro w'; go_simp; with_reducible rfl)
                    rotate_left
                    · (simp only [Act.put, List.setIfInBounds_toArray, List.set_cons_zero, List.set_cons_succ]; rfl)
                    refine take_ (i := 3) (N := (some 132)) (v := ?_) (a' := ?_) #[true, true, true, true, true, false, false, true, false, false, false, false, false, false, false, false, false, false, false, false, false, false, false] rfl rfl (by kernel_rfl) (fun _ _ _ h => h) (Or.inl ⟨by rfl, ?_⟩) hHeld ?_ ?_
                    rotate_left
                    · (rintro w' ⟨hS, d3'⟩; have d0' := cell_in hS kl1.out; have d1' := cell_in hS KY.out; have d2' := cell_in hS kb0.out; go_simp; with_reducible rfl)
                    rotate_left
                    · (simp only [Act.put, List.setIfInBounds_toArray, List.set_cons_zero, List.set_cons_succ]; rfl)
                    refine pure_ (i := 5) (N := (some 134)) (v := ?_) (a' := ?_) #[true, true, true, true, true, true, false, true, false, false, false, false, false, false, false, false, false, false, false, false, false, false, false] rfl rfl (by kernel_rfl) (fun _ _ _ h => h) (Or.inl ⟨by rfl, ?_⟩) ?_ ?_
                    rotate_left
                    · (intro w'; go_simp; with_reducible rfl)
                    rotate_left
                    · (simp only [Act.put, List.setIfInBounds_toArray, List.set_cons_zero, List.set_cons_succ]; rfl)
                    refine take_ (i := 6) (N := (some 135)) (v := ?_) (a' := ?_) #[true, true, true, true, true, true, true, true, false, false, false, false, false, false, false, false, false, false, false, false, false, false, false] rfl rfl (by kernel_rfl) (fun _ _ _ h => h) (Or.inl ⟨by rfl, ?_⟩) hHeld ?_ ?_
                    rotate_left
                    · (rintro w' ⟨hS, d3'⟩; have d0' := cell_in hS kl1.out; have d1' := cell_in hS KY.out; have d2' := cell_in hS kb0.out; go_simp; with_reducible rfl)
                    rotate_left
                    · (simp only [Act.put, List.setIfInBounds_toArray, List.set_cons_zero, List.set_cons_succ]; rfl)
                    refine take_ (i := 8) (N := (some 137)) (v := ?_) (a' := ?_) #[true, true, true, true, true, true, true, true, true, false, false, false, false, false, false, false, false, false, false, false, false, false, false] rfl rfl (by kernel_rfl) (fun _ _ _ h => h) (Or.inl ⟨by rfl, ?_⟩) hHeld ?_ ?_
                    rotate_left
                    · (rintro w' ⟨hS, d3'⟩; have d0' := cell_in hS kl1.out; have d1' := cell_in hS KY.out; have d2' := cell_in hS kb0.out; go_simp; with_reducible rfl)
                    rotate_left
                    · (simp only [Act.put, List.setIfInBounds_toArray, List.set_cons_zero, List.set_cons_succ]; rfl)
                    refine pure_ (i := 9) (N := (some 138)) (v := ?_) (a' := ?_) #[true, true, true, true, true, true, true, true, true, true, false, false, false, false, false, false, false, false, false, false, false, false, false] rfl rfl (by kernel_rfl) (fun _ _ _ h => h) (Or.inl ⟨by rfl, ?_⟩) ?_ ?_
                    rotate_left
                    · (intro w'; go_simp; with_reducible rfl)
                    rotate_left
                    · (simp only [Act.put, List.setIfInBounds_toArray, List.set_cons_zero, List.set_cons_succ]; rfl)
                    refine pure_ (i := 10) (N := (some 139)) (v := ?_) (a' := ?_) #[true, true, true, true, true, true, true, true, true, true, true, false, false, false, false, false, false, false, false, false, false, false, false] rfl rfl (by kernel_rfl) (fun _ _ _ h => h) (Or.inl ⟨by rfl, ?_⟩) ?_ ?_
                    rotate_left
                    · (intro w'; go_simp; with_reducible rfl)
                    rotate_left
                    · (simp only [Act.put, List.setIfInBounds_toArray, List.set_cons_zero, List.set_cons_succ]; rfl)
                    refine pure_ (i := 11) (N := (some 140)) (v := ?_) (a' := ?_) #[true, true, true, true, true, true, true, true, true, true, true, true, false, false, false, false, false, false, false, false, false, false, false] rfl rfl (by kernel_rfl) (fun _ _ _ h => h) (Or.inl ⟨by rfl, ?_⟩) ?_ ?_
                    rotate_left
                    · (intro w'; go_simp; with_reducible rfl)
                    rotate_left
                    · (simp only [Act.put, List.setIfInBounds_toArray, List.set_cons_zero, List.set_cons_succ]; rfl)
                    refine pure_ (i := 12) (N := (some 141)) (v := ?_) (a' := ?_) #[true, true, true, true, true, true, true, true, true, true, true, true, true, false, false, false, false, false, false, false, false, false, false] rfl rfl (by kernel_rfl) (fun _ _ _ h => h) (Or.inl ⟨by rfl, ?_⟩) ?_ ?_
                    rotate_left
                    · (intro w'; go_simp; with_reducible rfl)
                    rotate_left
                    · (simp only [Act.put, List.setIfInBounds_toArray, List.set_cons_zero, List.set_cons_succ]; rfl)
                    refine pure_ (i := 13) (N := (some 142)) (v := ?_) (a' := ?_) #[true, true, true, true, true, true, true, true, true, true, true, true, true, true, false, false, false, false, false, false, false, false, false] rfl rfl (by kernel_rfl) (fun _ _ _ h => h) (Or.inl ⟨by rfl, ?_⟩) ?_ ?_
                    rotate_left
                    · (intro w'; go_simp; with_reducible rfl)
                    rotate_left
                    · (simp only [Act.put, List.setIfInBounds_toArray, List.set_cons_zero, List.set_cons_succ]; rfl)
                    refine pure_ (i := 15) (N := (some 144)) (v := ?_) (a' := ?_) #[true, true, true, true, true, true, true, true, true, true, true, true, true, true, false, true, false, false, false, false, false, false, false] rfl rfl (by kernel_rfl) (fun _ _ _ h => h) (Or.inl ⟨by rfl, ?_⟩) ?_ ?_
                    rotate_left
                    · (intro w'; go_simp; with_reducible rfl)
                    rotate_left
                    · (simp only [Act.put, List.setIfInBounds_toArray, List.set_cons_zero, List.set_cons_succ]; rfl)
                    refine take_ (i := 14) (N := (some 143)) (v := ?_) (a' := ?_) #[true, true, true, true, true, true, true, true, true, true, true, true, true, true, true, true, false, false, false, false, false, false, false] rfl rfl (by kernel_rfl) (fun _ _ _ h => h) (Or.inl ⟨by rfl, ?_⟩) hHeld ?_ ?_
                    rotate_left
                    · (rintro w' ⟨hS, d3'⟩; have d0' := cell_in hS kl1.out; have d1' := cell_in hS KY.out; have d2' := cell_in hS kb0.out; go_simp; with_reducible rfl)
                    rotate_left
                    · (simp only [Act.put, List.setIfInBounds_toArray, List.set_cons_zero, List.set_cons_succ]; rfl)
                    refine pure_ (i := 16) (N := (some 145)) (v := ?_) (a' := ?_) #[true, true, true, true, true, true, true, true, true, true, true, true, true, true, true, true, true, false, false, false, false, false, false] rfl rfl (by kernel_rfl) (fun _ _ _ h => h) (Or.inl ⟨by rfl, ?_⟩) ?_ ?_
                    rotate_left
                    · (intro w'; go_simp; with_reducible rfl)
                    rotate_left
                    · (simp only [Act.put, List.setIfInBounds_toArray, List.set_cons_zero, List.set_cons_succ]; rfl)
                    refine take_ (i := 17) (N := (some 146)) (v := ?_) (a' := ?_) #[true, true, true, true, true, true, true, true, true, true, true, true, true, true, true, true, true, true, false, false, false, false, false] rfl rfl (by kernel_rfl) (fun _ _ _ h => h) (Or.inl ⟨by rfl, ?_⟩) hHeld ?_ ?_
                    rotate_left
                    · (rintro w' ⟨hS, d3'⟩; have d0' := cell_in hS kl1.out; have d1' := cell_in hS KY.out; have d2' := cell_in hS kb0.out; go_simp; with_reducible rfl)
                    rotate_left
                    · (simp only [Act.put, List.setIfInBounds_toArray, List.set_cons_zero, List.set_cons_succ]; rfl)
                    refine pure_ (i := 18) (N := (some 147)) (v := ?_) (a' := ?_) #[true, true, true, true, true, true, true, true, true, true, true, true, true, true, true, true, true, true, true, false, false, false, false] rfl rfl (by kernel_rfl) (fun _ _ _ h => h) (Or.inl ⟨by rfl, ?_⟩) ?_ ?_
                    rotate_left
                    · (intro w'; go_simp; with_reducible rfl)
                    rotate_left
                    · (simp only [Act.put, List.setIfInBounds_toArray, List.set_cons_zero, List.set_cons_succ]; rfl)
                    refine take_ (i := 19) (N := (some 148)) (v := ?_) (a' := ?_) #[true, true, true, true, true, true, true, true, true, true, true, true, true, true, true, true, true, true, true, true, false, false, false] rfl rfl (by kernel_rfl) (fun _ _ _ h => h) (Or.inl ⟨by rfl, ?_⟩) hHeld ?_ ?_
                    rotate_left
                    · (rintro w' ⟨hS, d3'⟩; have d0' := cell_in hS kl1.out; have d1' := cell_in hS KY.out; have d2' := cell_in hS kb0.out; go_simp; with_reducible rfl)
                    rotate_left
                    · (simp only [Act.put, List.setIfInBounds_toArray, List.set_cons_zero, List.set_cons_succ]; rfl)
                    refine pure_ (i := 20) (N := (some 149)) (v := ?_) (a' := ?_) #[true, true, true, true, true, true, true, true, true, true, true, true, true, true, true, true, true, true, true, true, true, false, false] rfl rfl (by kernel_rfl) (fun _ _ _ h => h) (Or.inl ⟨by rfl, ?_⟩) ?_ ?_
                    rotate_left
                    · (intro w'; go_simp; with_reducible rfl)
                    rotate_left
                    · (simp only [Act.put, List.setIfInBounds_toArray, List.set_cons_zero, List.set_cons_succ]; rfl)
                    refine pure_ (i := 21) (N := (some 150)) (v := ?_) (a' := ?_) #[true, true, true, true, true, true, true, true, true, true, true, true, true, true, true, true, true, true, true, true, true, true, false] rfl rfl (by kernel_rfl) (fun _ _ _ h => h) (Or.inl ⟨by rfl, ?_⟩) ?_ ?_
                    rotate_left
                    · (intro w'; go_simp; with_reducible rfl)
                    rotate_left
                    · (simp only [Act.put, List.setIfInBounds_toArray, List.set_cons_zero, List.set_cons_succ]; rfl)
                    refine pure_ (i := 22) (N := (some 9)) (v := ?_) (a' := ?_) #[true, true, true, true, true, true, true, true, true, true, true, true, true, true, true, true, true, true, true, true, true, true, true] rfl rfl (by kernel_rfl) (fun _ _ _ h => h) (Or.inl ⟨by rfl, ?_⟩) ?_ ?_
                    rotate_left
                    · (intro w'; go_simp; with_reducible rfl)
                    rotate_left
                    · (simp only [Act.put, List.setIfInBounds_toArray, List.set_cons_zero, List.set_cons_succ]; rfl)
                    refine done_ (by kernel_rfl) ?_
                    go_wp2
                    go_roundw
                    case rel => exact ⟨d + 1, comeB init (sy : Int), by omega, by go_num, rfl, ⟨by rw [HTD.out, List.all_append, ← Bool.and_assoc, HLB.out]; simp [hst]⟩, ⟨below_drew1 HB.out⟩, ⟨Kd.R_drew HR.out⟩⟩
                    case measure => simp [intOf]; omega
              · obtain rfl : d = last.right.length := by omega
                have hlf : leftB g init last = lb := by
                  have h := HLB.out
                  rw [List.take_length, HL00.out] at h
                  exact h
                have HLF := Aside0.mk hlf
                have HT := Aside0.mk (HT11.out.below_ HB.out)
                have p0 := (blk_cell HT.out.pi 0).trans rfl
                have p1 := (blk_cell HT.out.pi 1).trans rfl
                have p2 := (blk_cell HT.out.pi 2).trans rfl
                have HGJ := Aside0.mk (spoilt_last HGD.out HIL.out)
                have HGI : Aside0 (goodF ⟨g.terms, N4, g.rules⟩ = false) := ⟨by rw [HN4.out]; exact spoilt_name HGD.out _⟩
                rw [hlf] at HGJ
                clear hlf
                by_cases h0 : (0 : Int) < (init.length : Int)
                · rw [decide_eq_true h0] at HGJ
                  cases lb with
                  | true =>
                    have HGV : Aside0 (goodF ⟨g.terms, g.names, init⟩ = true) := ⟨HGJ.out⟩
                    go_wp2_with (first | (have hx := HTb.out; go_at_call 16; go_loud (refine (wakes03_c _).mono ?_; rintro e w22 ⟨rfl, hb22⟩; have HB22 := Aside0.mk (below_then hx.sk hx.sk.size hb22); clear hb22)) | (have hx := HTa.out; go_at_call 23; go_loud (refine (good_c ⟨g.terms, g.names, init⟩ I1 I2 (some ⟨gI, 0, none⟩) i1 i2 i3 _ HTa.out.rj).mono ?_; rw [HGV.out]; rintro e w21 ⟨rfl, hb21⟩; have HTb := Aside0.mk (HTa.out.below_ hb21); clear hb21; have r2 := (blk_cell HTb.out.pj 2).trans rfl)) | (go_at_call 23; go_loud (refine (good_c ⟨g.terms, N4, g.rules⟩ E1 A8' E3 e1 c8 e3 _ HT.out.ri).mono ?_; rw [HGI.out]; rintro e w20 ⟨rfl, hb20⟩; have HTa := Aside0.mk (HT.out.below_ hb20); clear hb20; have q0 := (blk_cell HTa.out.pj 0).trans rfl; have q1 := (blk_cell HTa.out.pj 1).trans rfl; have q2' := (blk_cell HTa.out.pj 2).trans rfl)))
                    go_ret
                    exact ⟨ret_bool rfl, HB22.out⟩
                  | false =>
                    have HGV : Aside0 (goodF ⟨g.terms, g.names, init⟩ = false) := ⟨HGJ.out⟩
                    go_wp2_with (first | (have hx := HTb.out; go_at_call 16; go_loud (refine (wakes03_c _).mono ?_; rintro e w22 ⟨rfl, hb22⟩; have HB22 := Aside0.mk (below_then hx.sk hx.sk.size hb22); clear hb22)) | (have hx := HTa.out; go_at_call 23; go_loud (refine (good_c ⟨g.terms, g.names, init⟩ I1 I2 (some ⟨gI, 0, none⟩) i1 i2 i3 _ HTa.out.rj).mono ?_; rw [HGV.out]; rintro e w21 ⟨rfl, hb21⟩; have HTb := Aside0.mk (HTa.out.below_ hb21); clear hb21; have r2 := (blk_cell HTb.out.pj 2).trans rfl)) | (go_at_call 23; go_loud (refine (good_c ⟨g.terms, N4, g.rules⟩ E1 A8' E3 e1 c8 e3 _ HT.out.ri).mono ?_; rw [HGI.out]; rintro e w20 ⟨rfl, hb20⟩; have HTa := Aside0.mk (HT.out.below_ hb20); clear hb20; have q0 := (blk_cell HTa.out.pj 0).trans rfl; have q1 := (blk_cell HTa.out.pj 1).trans rfl; have q2' := (blk_cell HTa.out.pj 2).trans rfl)))
                    go_ret
                    exact ⟨ret_bool rfl, HB22.out⟩
                · rw [decide_eq_false h0] at HGJ
                  cases lb with
                  | true => exact absurd HLF.out (by rw [List.eq_nil_of_length_eq_zero (by omega : init.length = 0)]; simp [leftB])
                  | false =>
                    have HGV : Aside0 (goodF ⟨g.terms, g.names, init⟩ = false) := ⟨HGJ.out⟩
                    go_wp2_with (first | (have hx := HTb.out; go_at_call 16; go_loud (refine (wakes03_c _).mono ?_; rintro e w22 ⟨rfl, hb22⟩; have HB22 := Aside0.mk (below_then hx.sk hx.sk.size hb22); clear hb22)) | (have hx := HTa.out; go_at_call 23; go_loud (refine (good_c ⟨g.terms, g.names, init⟩ I1 I2 (some ⟨gI, 0, none⟩) i1 i2 i3 _ HTa.out.rj).mono ?_; rw [HGV.out]; rintro e w21 ⟨rfl, hb21⟩; have HTb := Aside0.mk (HTa.out.below_ hb21); clear hb21; have r2 := (blk_cell HTb.out.pj 2).trans rfl)) | (go_at_call 23; go_loud (refine (good_c ⟨g.terms, N4, g.rules⟩ E1 A8' E3 e1 c8 e3 _ HT.out.ri).mono ?_; rw [HGI.out]; rintro e w20 ⟨rfl, hb20⟩; have HTa := Aside0.mk (HT.out.below_ hb20); clear hb20; have q0 := (blk_cell HTa.out.pj 0).trans rfl; have q1 := (blk_cell HTa.out.pj 1).trans rfl; have q2' := (blk_cell HTa.out.pj 2).trans rfl)))
                    go_ret
                    exact ⟨ret_bool rfl, HB22.out⟩
    · have q1 : (60 : Int) ≤ (g.rules.length : Int) := by omega
      go_enter Try.func7, Try.ntmps7
      go_wp2_with (first | (have hx := HK2.out; go_at_call 16; go_loud (refine (wakes03_c _).mono ?_; rintro e w9 ⟨rfl, hb9⟩; have HB9 := Aside0.mk (below_then hx.b hx.b.size hb9); clear hb9)) | (have hx := HK1.out; go_at_call 16; go_loud (refine (wakes03_c _).mono ?_; rintro e w9 ⟨rfl, hb9⟩; have HB9 := Aside0.mk (below_then hx.b hx.b.size hb9); clear hb9)) | (have hx := HK1.out; go_at_call 23; go_loud (refine (good_c g A1 A2 A3 c1 c2 c3 _ HK1.out.rep).mono ?_; rw [HGD.out]; rintro e w2 ⟨rfl, hb2⟩; have HK2 := Aside0.mk (HK1.out.below_ hb2); clear hb2; obtain ⟨u1, u2, u3⟩ := HK2.out.cells)) | (go_at_call 15; go_loud (refine (large_c g A1 A2 A3 c1 c2 c3 _ HK0.out.rep).mono ?_; rintro e w1 ⟨⟨b, rfl, hs⟩, hb1⟩; have HK1 := Aside0.mk (HK0.out.below_ hb1); have HS := Aside0.mk hs; clear hs hb1; obtain ⟨t1, t2, t3⟩ := HK1.out.cells)))
      all_goals
        go_ret
        exact ⟨ret_bool rfl, HB9.out⟩
end Go.Proofs.Ytphmmppmhphgeaa
