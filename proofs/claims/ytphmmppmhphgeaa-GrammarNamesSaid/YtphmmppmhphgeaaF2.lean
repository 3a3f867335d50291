/- The law GrammarNames of 03 answers true, whatever the grammar and the two numbers. -/
import Derived.Test.YtphmmppmhphgeaaE3
import Derived.Test.YtphmmppmhphgeaaE5
import Derived.Test.YtphmmppmhphgeaaWLast
set_option linter.unusedVariables false
set_option linter.unusedSimpArgs false
namespace Go.Proofs.Ytphmmppmhphgeaa
open Go.RowKit Go.Proofs.YtphmmppmhphgeaaW.PrintWords Go.Proofs.YtphmmppmhphgeaaW.PrintLast

/-- What the law holds: the grammar and the two numbers, in its own cells. -/
structure NK (w W : World) (g : Gram) (A1 A2 A3 : Option Addr) (c1 c2 c3 : Nat) (x y : Int) : Prop where
  rep : RepG W g A1 A2 A3 c1 c2 c3
  p : W.heap[w.heap.size]? = some (.cells #[.slice A1 g.terms.length c1, .slice A2 g.names.length c2, .slice A3 g.rules.length c3] 25 (0, 0))
  q : W.heap[w.heap.size + 1]? = some (.cells #[.int .i64 x, .int .i64 y] 52 (0, 0))
  b : Below w.heap.size w W
section
variable {w W W1 : World} {g : Gram} {A1 A2 A3 : Option Addr} {c1 c2 c3 : Nat} {x y : Int}
theorem NK.below_ (h : NK w W g A1 A2 A3 c1 c2 c3 x y) (hb : Below W.heap.size W W1) : NK w W1 g A1 A2 A3 c1 c2 c3 x y := ⟨h.rep.below_ hb, blk_below h.p hb, blk_below h.q hb, below_then h.b h.b.size hb⟩
theorem NK.drew_ (h : NK w W g A1 A2 A3 c1 c2 c3 x y) : NK w W.drew g A1 A2 A3 c1 c2 c3 x y := h.below_ (below_drew1 (Below.refl _ _))
theorem NK.cells (h : NK w W g A1 A2 A3 c1 c2 c3 x y) : W.cell? ⟨w.heap.size, 0, none⟩ = some (.slice A1 g.terms.length c1) ∧ W.cell? ⟨w.heap.size, 1, none⟩ = some (.slice A2 g.names.length c2) ∧ W.cell? ⟨w.heap.size, 2, none⟩ = some (.slice A3 g.rules.length c3) ∧ W.cell? ⟨w.heap.size + 1, 0, none⟩ = some (.int .i64 x) ∧ W.cell? ⟨w.heap.size + 1, 1, none⟩ = some (.int .i64 y) :=
  ⟨(blk_cell h.p 0).trans rfl, (blk_cell h.p 1).trans rfl, (blk_cell h.p 2).trans rfl, (blk_cell h.q 0).trans rfl, (blk_cell h.q 1).trans rfl⟩
end

theorem distF_nodup {may : ByteArray → Bool} : ∀ {l seen : List ByteArray}, distF may seen l = true → l.Nodup ∧ ∀ s ∈ l, s ∉ seen := by
  intro l
  induction l with
  | nil => intro seen _; exact ⟨List.nodup_nil, fun s hs => by cases hs⟩
  | cons a l ih =>
    intro seen h
    rw [distF] at h
    split at h
    · cases h
    · split at h
      · cases h
      · rename_i hn
        obtain ⟨h1, h2⟩ := ih h
        have ha : a ∉ seen := by
          intro hm
          apply hn
          rw [List.any_eq_true]
          exact ⟨a, hm, by simp⟩
        refine ⟨List.nodup_cons.2 ⟨fun hm => h2 a hm (by simp), h1⟩, fun s hs => ?_⟩
        rcases List.mem_cons.1 hs with rfl | hs
        · exact ha
        · intro hm
          exact h2 s hs (List.mem_append_left _ hm)
theorem good_facts {g : Gram} (h : goodF g = true) : g.names.length ≤ 40 ∧ g.terms.length ≤ 40 ∧ g.names.Nodup ∧ g.terms.Nodup := by
  unfold goodF namesOk termsOk at h
  simp only [Bool.and_eq_true, decide_eq_true_eq] at h
  obtain ⟨⟨⟨⟨⟨⟨h1, h2⟩, h3⟩, ⟨h4, h5⟩, h6⟩, _⟩, _⟩, _⟩ := h
  exact ⟨by omega, by omega, (distF_nodup h1).1, (distF_nodup h4).1⟩
theorem name_in {g : Gram} {z : Int} (h0 : 0 ≤ z) (h1 : z < g.terms.length + g.names.length) : ∃ s, nameF g z = some s := by
  unfold nameF
  rw [if_neg (by omega)]
  by_cases ht : z < g.terms.length
  · rw [if_pos ht]
    exact ⟨_, List.getElem?_eq_getElem (by omega)⟩
  · rw [if_neg ht]
    exact ⟨_, List.getElem?_eq_getElem (by omega)⟩
theorem name_out {g : Gram} {z : Int} (h : z < 0 ∨ (g.terms.length : Int) + g.names.length ≤ z) : nameF g z = none ∧ termF g z = false := by
  unfold nameF termF
  rcases h with h | h
  · rw [if_pos h]
    exact ⟨rfl, decide_eq_false (by omega)⟩
  · rw [if_neg (by omega), if_neg (by omega)]
    exact ⟨List.getElem?_eq_none (by omega), decide_eq_false (by omega)⟩
theorem nodup_same {l : List ByteArray} {i j : Nat} {s : ByteArray} (h : l.Nodup) (hi : l[i]? = some s) (hj : l[j]? = some s) : i = j := by
  obtain ⟨h1, e1⟩ := List.getElem?_eq_some_iff.1 hi
  obtain ⟨h2, e2⟩ := List.getElem?_eq_some_iff.1 hj
  have hp := List.pairwise_iff_getElem.1 h
  rcases Nat.lt_trichotomy i j with hlt | heq | hlt
  · exact absurd (e1.trans e2.symm) (hp i j h1 h2 hlt)
  · exact heq
  · exact absurd (e2.trans e1.symm) (hp j i h2 h1 hlt)
theorem name_own {g : Gram} (h : goodF g = true) {x y : Int} {s : ByteArray} (hx : nameF g x = some s) (hy : nameF g y = some s) (ht : termF g x = termF g y) : x = y := by
  obtain ⟨_, _, hn, htn⟩ := good_facts h
  by_cases x0 : x < 0
  · rw [(name_out (Or.inl x0)).1] at hx; cases hx
  by_cases y0 : y < 0
  · rw [(name_out (Or.inl y0)).1] at hy; cases hy
  unfold nameF at hx hy
  rw [if_neg x0] at hx
  rw [if_neg y0] at hy
  by_cases x1 : x < g.terms.length
  · have t1 : termF g x = true := decide_eq_true ⟨by omega, x1⟩
    rw [t1] at ht
    have t2 := of_decide_eq_true ht.symm
    rw [if_pos x1] at hx
    rw [if_pos t2.2] at hy
    have := nodup_same htn hx hy
    omega
  · have t1 : termF g x = false := decide_eq_false (by omega)
    rw [t1] at ht
    have t2 := of_decide_eq_false ht.symm
    rw [if_neg x1] at hx
    rw [if_neg (by omega)] at hy
    have := nodup_same hn hx hy
    omega

set_option maxRecDepth 100000 in
set_option maxHeartbeats 8000000 in
theorem names_law (g : Gram) (A1 A2 A3 : Option Addr) (c1 c2 c3 : Nat) (x y : Int) (w : World) (hg : RepG w g A1 A2 A3 c1 c2 c3) (hx : -9223372036854775808 ≤ x ∧ x ≤ 9223372036854775807) (hy : -9223372036854775808 ≤ y ∧ y ≤ 9223372036854775807) :
    Calls Try.prog 6 #[.agg #[.slice A1 g.terms.length c1, .slice A2 g.names.length c2, .slice A3 g.rules.length c3], .agg #[.int .i64 x, .int .i64 y]] w fun e w' => e = .returned (.bool true) ∧ Below w.heap.size w w' := by
  have HK0 : Aside0 (NK w ((w.alloc (.cells #[.slice A1 g.terms.length c1, .slice A2 g.names.length c2, .slice A3 g.rules.length c3] 25 (0, 0))).alloc (.cells #[.int .i64 x, .int .i64 y] 52 (0, 0))) g A1 A2 A3 c1 c2 c3 x y) := ⟨by
    have hW : Below w.heap.size w ((w.alloc (.cells #[.slice A1 g.terms.length c1, .slice A2 g.names.length c2, .slice A3 g.rules.length c3] 25 (0, 0))).alloc (.cells #[.int .i64 x, .int .i64 y] 52 (0, 0))) := ((Below.refl w.heap.size w).alloc (Nat.le_refl _) _).alloc (by simp) _
    exact ⟨hg.below_ hW, blk_alloc (blk_new w _) _, blk_two w _ _, hW⟩⟩
  have HX := Aside0.mk hx
  have HY := Aside0.mk hy
  clear hg hx hy
  go_enter Try.func6, Try.ntmps6
  cases hgd : goodF g with
  | false =>
    have HGD := Lib.hid hgd
    clear hgd
    go_wp2_with (first | (have hx := HB2.out; go_at_call 16; go_loud (refine (wakes03_c _).mono ?_; rintro e w9 ⟨rfl, hb9⟩; have HB9 := Aside0.mk (below_then hx hx.size hb9); clear hb9)) | (have hx := HK1.out; go_at_call 16; go_loud (refine (wakes03_c _).mono ?_; rintro e w9 ⟨rfl, hb9⟩; have HB9 := Aside0.mk (below_then hx.b hx.b.size hb9); clear hb9)) | (have hx := HK1.out; go_at_call 23; go_loud (refine (good_c g A1 A2 A3 c1 c2 c3 _ HK1.out.rep).mono ?_; rw [HGD.out]; rintro e w2 ⟨rfl, hb2⟩; have HB2 := Aside0.mk (below_then HK1.out.b HK1.out.b.size hb2); clear hb2)) | (go_at_call 15; go_loud (refine (large_c g A1 A2 A3 c1 c2 c3 _ HK0.out.rep).mono ?_; rintro e w1 ⟨⟨b, rfl, hs⟩, hb1⟩; have HK1 := Aside0.mk (HK0.out.below_ hb1); have HS := Aside0.mk hs; obtain ⟨r1, r2, r3, r4, r5⟩ := HK1.out.cells; clear hs hb1)))
    all_goals
      go_ret
      exact ⟨ret_bool rfl, HB9.out⟩
  | true =>
    have HGD := Lib.hid hgd
    clear hgd
    go_wp2_with (first | (have hx := HK1.out; go_at_call 16; go_loud (refine (wakes03_c _).mono ?_; rintro e w9 ⟨rfl, hb9⟩; have HB9 := Aside0.mk (below_then hx.b hx.b.size hb9); clear hb9)) | (have hx := HK1.out; go_at_call 23; go_loud (refine (good_c g A1 A2 A3 c1 c2 c3 _ HK1.out.rep).mono ?_; rw [HGD.out]; rintro e w2 ⟨rfl, hb2⟩; have HK2 := Aside0.mk (HK1.out.below_ hb2); obtain ⟨t1, t2, t3, t4, t5⟩ := HK2.out.cells; clear hb2)) | (go_at_call 15; go_loud (refine (large_c g A1 A2 A3 c1 c2 c3 _ HK0.out.rep).mono ?_; rintro e w1 ⟨⟨b, rfl, hs⟩, hb1⟩; have HK1 := Aside0.mk (HK0.out.below_ hb1); have HS := Aside0.mk hs; obtain ⟨r1, r2, r3, r4, r5⟩ := HK1.out.cells; clear hs hb1)))
    · go_ret
      exact ⟨ret_bool rfl, HB9.out⟩
    · clear HK0 HK1 r1 r2 r3 r4 r5 t1 t2 t3 t4 t5
      have hgf := good_facts HGD.out
      have hn40 : g.names.length ≤ 40 := hgf.1
      have ht40 : g.terms.length ≤ 40 := hgf.2.1
      have hwn : wrap64 ((g.terms.length : Int) + (g.names.length : Int)) = (g.terms.length : Int) + (g.names.length : Int) := by unfold wrap64; omega
      have hsz : g.terms.length + g.names.length ≤ 4000000000000000 := by omega
      simp only [hwn]
      clear hwn hgf
      go_loopw [6] (fun i wr => ∃ k : Nat, k ≤ 2 ∧ i = .int .i64 k ∧ Aside0 (NK w wr g A1 A2 A3 c1 c2 c3 x y)) (fun i _ => 2 - (intOf i).toNat)
      case atStart => exact ⟨0, by omega, rfl, HK2⟩
      case round =>
        clear HK2
        obtain ⟨k, hk, rfl, HK⟩ := hrel
        by_cases hlt : k < 2
        · obtain ⟨z, hz, hzb⟩ : ∃ z : Int, (#[Value.int .i64 x, Value.int .i64 y] : Array Value)[k]? = some (.int .i64 z) ∧ (-9223372036854775808 ≤ z ∧ z ≤ 9223372036854775807) := by
            rcases Nat.lt_or_ge k 1 with h | h
            · obtain rfl : k = 0 := by omega
              exact ⟨x, rfl, HX.out⟩
            · obtain rfl : k = 1 := by omega
              exact ⟨y, rfl, HY.out⟩
          have HZ := Aside0.mk hz
          clear hz
          have i1 : (0 : Int) ≤ (k : Int) := by omega
          have i2 : (k : Int) < 2 := by omega
          by_cases z0 : 0 ≤ z
          · by_cases z1 : z < (g.terms.length : Int) + (g.names.length : Int)
            · obtain ⟨s, hs⟩ := name_in z0 z1
              have HNM := Aside0.mk hs
              clear hs
              cases hterm : termF g z with
              | true =>
                have HTM := Aside0.mk hterm
                clear hterm
                go_wp2
                refine start_ (n := 10) (S := fun w' => w'.heap[w.heap.size]? = some (.cells #[.slice A1 g.terms.length c1, .slice A2 g.names.length c2, .slice A3 g.rules.length c3] 25 (0, 0)) ∧ w'.heap[w.heap.size + 1]? = some (.cells #[.int .i64 x, .int .i64 y] 52 (0, 0))) (ds := []) #[false, false, false, false, false, false, false, false, false, false] (by kernel_rfl) rfl rfl (⟨HK.out.drew_.p, HK.out.drew_.q⟩) (fun hHeld => ?_)
                refine pure_ (i := 1) (N := (some 34)) (v := ?_) (a' := ?_) #[false, true, false, false, false, false, false, false, false, false] rfl rfl (by kernel_rfl) (fun _ _ _ h => h) (Or.inl ⟨by rfl, ?_⟩) ?_ ?_
                rotate_left
                · (intro w'; go_simp; with_reducible rfl)
                rotate_left
                · (simp only [Act.put, List.setIfInBounds_toArray, List.set_cons_zero, List.set_cons_succ]; rfl)
                refine pure_ (i := 2) (N := (some 35)) (v := ?_) (a' := ?_) #[false, true, true, false, false, false, false, false, false, false] rfl rfl (by kernel_rfl) (fun _ _ _ h => h) (Or.inl ⟨by rfl, ?_⟩) ?_ ?_
                rotate_left
                · (intro w'; go_simp; with_reducible rfl)
                rotate_left
                · (simp only [Act.put, List.setIfInBounds_toArray, List.set_cons_zero, List.set_cons_succ]; rfl)
                refine take_ (i := 0) (N := (some 33)) (v := ?_) (a' := ?_) #[true, true, true, false, false, false, false, false, false, false] rfl rfl (by kernel_rfl) (fun _ _ _ h => h) (Or.inl ⟨by rfl, ?_⟩) hHeld ?_ ?_
                rotate_left
                · (rintro w' ⟨s0, s1⟩; have d0 : w'.cell? ⟨w.heap.size, 0, none⟩ = some (.slice A1 g.terms.length c1) := (blk_cell s0 0).trans rfl; have d1 : w'.cell? ⟨w.heap.size, 1, none⟩ = some (.slice A2 g.names.length c2) := (blk_cell s0 1).trans rfl; have d2 : w'.cell? ⟨w.heap.size, 2, none⟩ = some (.slice A3 g.rules.length c3) := (blk_cell s0 2).trans rfl; have d3 : w'.cell? ⟨w.heap.size + 1, k, none⟩ = some (.int .i64 z) := (blk_cell s1 k).trans HZ.out; go_simp; with_reducible rfl)
                rotate_left
                · (simp only [Act.put, List.setIfInBounds_toArray, List.set_cons_zero, List.set_cons_succ]; rfl)
                refine take_ (i := 3) (N := (some 36)) (v := ?_) (a' := ?_) #[true, true, true, true, false, false, false, false, false, false] rfl rfl (by kernel_rfl) (fun _ _ _ h => h) (Or.inl ⟨by rfl, ?_⟩) hHeld ?_ ?_
                rotate_left
                · (rintro w' ⟨s0, s1⟩; have d0 : w'.cell? ⟨w.heap.size, 0, none⟩ = some (.slice A1 g.terms.length c1) := (blk_cell s0 0).trans rfl; have d1 : w'.cell? ⟨w.heap.size, 1, none⟩ = some (.slice A2 g.names.length c2) := (blk_cell s0 1).trans rfl; have d2 : w'.cell? ⟨w.heap.size, 2, none⟩ = some (.slice A3 g.rules.length c3) := (blk_cell s0 2).trans rfl; have d3 : w'.cell? ⟨w.heap.size + 1, k, none⟩ = some (.int .i64 z) := (blk_cell s1 k).trans HZ.out; go_simp; with_reducible rfl)
                rotate_left
                · (simp only [Act.put, List.setIfInBounds_toArray, List.set_cons_zero, List.set_cons_succ]; rfl)
                refine one_ (i := 4) (N := (some 37)) #[true, true, true, true, true, false, false, false, false, false] rfl rfl (by kernel_rfl) (by decide) (fun K hK => ?_)
                (refine goes_ Try.func20 (by kernel_rfl) rfl #[.agg #[.slice A1 g.terms.length c1, .slice A2 g.names.length c2, .slice A3 g.rules.length c3], .int .i64 z] (by rfl) rfl rfl (by simp [Act.eval]) ?_; refine (name_c g A1 A2 A3 c1 c2 c3 z _ (HK.out.drew_).rep hsz hzb).mono ?_; rw [HNM.out]; rintro e w5 ⟨he, hb5⟩; obtain rfl : e = .returned (.tuple #[.string s, .bool true]) := he; refine ⟨_, rfl, ?_⟩; have HK5 := Aside0.mk (HK.out.drew_.below_ hb5); clear hb5; refine hK.out _ _ ⟨HK5.out.p, HK5.out.q⟩ (fun hHeld => ?_))
                skip
                clear hK K
                refine norm_ (a' := ?_) ?_ ?_
                rotate_left
                · (show Act.put _ (some 37) _ = _; simp only [Act.put, List.setIfInBounds_toArray, List.set_cons_zero, List.set_cons_succ]; rfl)
                refine pure_ (i := 5) (N := (some 32)) (v := ?_) (a' := ?_) #[true, true, true, true, true, true, false, false, false, false] rfl rfl (by kernel_rfl) (fun _ _ _ h => h) (Or.inl ⟨by rfl, ?_⟩) ?_ ?_
                rotate_left
                · (intro w'; go_simp; with_reducible rfl)
                rotate_left
                · (simp only [Act.put, List.setIfInBounds_toArray, List.set_cons_zero, List.set_cons_succ]; rfl)
                refine pure_ (i := 6) (N := (some 38)) (v := ?_) (a' := ?_) #[true, true, true, true, true, true, true, false, false, false] rfl rfl (by kernel_rfl) (fun _ _ _ h => h) (Or.inl ⟨by rfl, ?_⟩) ?_ ?_
                rotate_left
                · (intro w'; go_simp; with_reducible rfl)
                rotate_left
                · (simp only [Act.put, List.setIfInBounds_toArray, List.set_cons_zero, List.set_cons_succ]; rfl)
                refine pure_ (i := 7) (N := (some 39)) (v := ?_) (a' := ?_) #[true, true, true, true, true, true, true, true, false, false] rfl rfl (by kernel_rfl) (fun _ _ _ h => h) (Or.inl ⟨by rfl, ?_⟩) ?_ ?_
                rotate_left
                · (intro w'; go_simp; with_reducible rfl)
                rotate_left
                · (simp only [Act.put, List.setIfInBounds_toArray, List.set_cons_zero, List.set_cons_succ]; rfl)
                refine pure_ (i := 8) (N := (some 7)) (v := ?_) (a' := ?_) #[true, true, true, true, true, true, true, true, true, false] rfl rfl (by kernel_rfl) (fun _ _ _ h => h) (Or.inl ⟨by rfl, ?_⟩) ?_ ?_
                rotate_left
                · (intro w'; go_simp; with_reducible rfl)
                rotate_left
                · (simp only [Act.put, List.setIfInBounds_toArray, List.set_cons_zero, List.set_cons_succ]; rfl)
                refine pure_ (i := 9) (N := (some 8)) (v := ?_) (a' := ?_) #[true, true, true, true, true, true, true, true, true, true] rfl rfl (by kernel_rfl) (fun _ _ _ h => h) (Or.inl ⟨by rfl, ?_⟩) ?_ ?_
                rotate_left
                · (intro w'; go_simp; with_reducible rfl)
                rotate_left
                · (simp only [Act.put, List.setIfInBounds_toArray, List.set_cons_zero, List.set_cons_succ]; rfl)
                refine done_ (by kernel_rfl) ?_
                go_wp2
                refine start_ (n := 32) (S := fun w' => w'.heap[w.heap.size]? = some (.cells #[.slice A1 g.terms.length c1, .slice A2 g.names.length c2, .slice A3 g.rules.length c3] 25 (0, 0)) ∧ w'.heap[w.heap.size + 1]? = some (.cells #[.int .i64 x, .int .i64 y] 52 (0, 0))) (ds := []) #[false, false, false, false, false, false, false, false, false, false, false, false, false, false, false, false, false, false, false, false, false, false, false, false, false, false, false, false, false, false, false, false] (by kernel_rfl) rfl rfl (⟨HK5.out.drew_.p, HK5.out.drew_.q⟩) (fun hHeld => ?_)
                refine pure_ (i := 0) (N := (some 40)) (v := ?_) (a' := ?_) #[true, false, false, false, false, false, false, false, false, false, false, false, false, false, false, false, false, false, false, false, false, false, false, false, false, false, false, false, false, false, false, false] rfl rfl (by kernel_rfl) (fun _ _ _ h => h) (Or.inl ⟨by rfl, ?_⟩) ?_ ?_
                rotate_left
                · (intro w'; go_simp; with_reducible rfl)
                rotate_left
                · (simp only [Act.put, List.setIfInBounds_toArray, List.set_cons_zero, List.set_cons_succ]; rfl)
                refine pure_ (i := 1) (N := (some 41)) (v := ?_) (a' := ?_) #[true, true, false, false, false, false, false, false, false, false, false, false, false, false, false, false, false, false, false, false, false, false, false, false, false, false, false, false, false, false, false, false] rfl rfl (by kernel_rfl) (fun _ _ _ h => h) (Or.inl ⟨by rfl, ?_⟩) ?_ ?_
                rotate_left
                · (intro w'; go_simp; with_reducible rfl)
                rotate_left
                · (simp only [Act.put, List.setIfInBounds_toArray, List.set_cons_zero, List.set_cons_succ]; rfl)
                refine pure_ (i := 2) (N := (some 42)) (v := ?_) (a' := ?_) #[true, true, true, false, false, false, false, false, false, false, false, false, false, false, false, false, false, false, false, false, false, false, false, false, false, false, false, false, false, false, false, false] rfl rfl (by kernel_rfl) (fun _ _ _ h => h) (Or.inl ⟨by rfl, ?_⟩) ?_ ?_
                rotate_left
                · (intro w'; go_simp; with_reducible rfl)
                rotate_left
                · (simp only [Act.put, List.setIfInBounds_toArray, List.set_cons_zero, List.set_cons_succ]; rfl)
                refine take_ (i := 3) (N := (some 43)) (v := ?_) (a' := ?_) #[true, true, true, true, false, false, false, false, false, false, false, false, false, false, false, false, false, false, false, false, false, false, false, false, false, false, false, false, false, false, false, false] rfl rfl (by kernel_rfl) (fun _ _ _ h => h) (Or.inl ⟨by rfl, ?_⟩) hHeld ?_ ?_
                rotate_left
                · (rintro w' ⟨s0, s1⟩; have d0 : w'.cell? ⟨w.heap.size, 0, none⟩ = some (.slice A1 g.terms.length c1) := (blk_cell s0 0).trans rfl; have d1 : w'.cell? ⟨w.heap.size, 1, none⟩ = some (.slice A2 g.names.length c2) := (blk_cell s0 1).trans rfl; have d2 : w'.cell? ⟨w.heap.size, 2, none⟩ = some (.slice A3 g.rules.length c3) := (blk_cell s0 2).trans rfl; have d3 : w'.cell? ⟨w.heap.size + 1, k, none⟩ = some (.int .i64 z) := (blk_cell s1 k).trans HZ.out; go_simp; with_reducible rfl)
                rotate_left
                · (simp only [Act.put, List.setIfInBounds_toArray, List.set_cons_zero, List.set_cons_succ]; rfl)
                refine pure_ (i := 4) (N := (some 44)) (v := ?_) (a' := ?_) #[true, true, true, true, true, false, false, false, false, false, false, false, false, false, false, false, false, false, false, false, false, false, false, false, false, false, false, false, false, false, false, false] rfl rfl (by kernel_rfl) (fun _ _ _ h => h) (Or.inl ⟨by rfl, ?_⟩) ?_ ?_
                rotate_left
                · (intro w'; go_simp; with_reducible rfl)
                rotate_left
                · (simp only [Act.put, List.setIfInBounds_toArray, List.set_cons_zero, List.set_cons_succ]; rfl)
                refine pure_ (i := 5) (N := (some 45)) (v := ?_) (a' := ?_) #[true, true, true, true, true, true, false, false, false, false, false, false, false, false, false, false, false, false, false, false, false, false, false, false, false, false, false, false, false, false, false, false] rfl rfl (by kernel_rfl) (fun _ _ _ h => h) (Or.inl ⟨by rfl, ?_⟩) ?_ ?_
                rotate_left
                · (intro w'; go_simp; with_reducible rfl)
                rotate_left
                · (simp only [Act.put, List.setIfInBounds_toArray, List.set_cons_zero, List.set_cons_succ]; rfl)
                refine pure_ (i := 6) (N := (some 46)) (v := ?_) (a' := ?_) #[true, true, true, true, true, true, true, false, false, false, false, false, false, false, false, false, false, false, false, false, false, false, false, false, false, false, false, false, false, false, false, false] rfl rfl (by kernel_rfl) (fun _ _ _ h => h) (Or.inl ⟨by rfl, ?_⟩) ?_ ?_
                rotate_left
                · (intro w'; go_simp; with_reducible rfl)
                rotate_left
                · (simp only [Act.put, List.setIfInBounds_toArray, List.set_cons_zero, List.set_cons_succ]; rfl)
                refine pure_ (i := 7) (N := (some 47)) (v := ?_) (a' := ?_) #[true, true, true, true, true, true, true, true, false, false, false, false, false, false, false, false, false, false, false, false, false, false, false, false, false, false, false, false, false, false, false, false] rfl rfl (by kernel_rfl) (fun _ _ _ h => h) (Or.inl ⟨by rfl, ?_⟩) ?_ ?_
                rotate_left
                · (intro w'; go_simp; with_reducible rfl)
                rotate_left
                · (simp only [Act.put, List.setIfInBounds_toArray, List.set_cons_zero, List.set_cons_succ]; rfl)
                refine pure_ (i := 9) (N := (some 49)) (v := ?_) (a' := ?_) #[true, true, true, true, true, true, true, true, false, true, false, false, false, false, false, false, false, false, false, false, false, false, false, false, false, false, false, false, false, false, false, false] rfl rfl (by kernel_rfl) (fun _ _ _ h => h) (Or.inl ⟨by rfl, ?_⟩) ?_ ?_
                rotate_left
                · (intro w'; go_simp; with_reducible rfl)
                rotate_left
                · (simp only [Act.put, List.setIfInBounds_toArray, List.set_cons_zero, List.set_cons_succ]; rfl)
                refine take_ (i := 8) (N := (some 48)) (v := ?_) (a' := ?_) #[true, true, true, true, true, true, true, true, true, true, false, false, false, false, false, false, false, false, false, false, false, false, false, false, false, false, false, false, false, false, false, false] rfl rfl (by kernel_rfl) (fun _ _ _ h => h) (Or.inl ⟨by rfl, ?_⟩) hHeld ?_ ?_
                rotate_left
                · (rintro w' ⟨s0, s1⟩; have d0 : w'.cell? ⟨w.heap.size, 0, none⟩ = some (.slice A1 g.terms.length c1) := (blk_cell s0 0).trans rfl; have d1 : w'.cell? ⟨w.heap.size, 1, none⟩ = some (.slice A2 g.names.length c2) := (blk_cell s0 1).trans rfl; have d2 : w'.cell? ⟨w.heap.size, 2, none⟩ = some (.slice A3 g.rules.length c3) := (blk_cell s0 2).trans rfl; have d3 : w'.cell? ⟨w.heap.size + 1, k, none⟩ = some (.int .i64 z) := (blk_cell s1 k).trans HZ.out; go_simp; with_reducible rfl)
                rotate_left
                · (simp only [Act.put, List.setIfInBounds_toArray, List.set_cons_zero, List.set_cons_succ]; rfl)
                refine pure_ (i := 10) (N := (some 50)) (v := ?_) (a' := ?_) #[true, true, true, true, true, true, true, true, true, true, true, false, false, false, false, false, false, false, false, false, false, false, false, false, false, false, false, false, false, false, false, false] rfl rfl (by kernel_rfl) (fun _ _ _ h => h) (Or.inl ⟨by rfl, ?_⟩) ?_ ?_
                rotate_left
                · (intro w'; go_simp; with_reducible rfl)
                rotate_left
                · (simp only [Act.put, List.setIfInBounds_toArray, List.set_cons_zero, List.set_cons_succ]; rfl)
                refine pure_ (i := 11) (N := (some 51)) (v := ?_) (a' := ?_) #[true, true, true, true, true, true, true, true, true, true, true, true, false, false, false, false, false, false, false, false, false, false, false, false, false, false, false, false, false, false, false, false] rfl rfl (by kernel_rfl) (fun _ _ _ h => h) (Or.inl ⟨by rfl, ?_⟩) ?_ ?_
                rotate_left
                · (intro w'; go_simp; with_reducible rfl)
                rotate_left
                · (simp only [Act.put, List.setIfInBounds_toArray, List.set_cons_zero, List.set_cons_succ]; rfl)
                refine pure_ (i := 12) (N := (some 52)) (v := ?_) (a' := ?_) #[true, true, true, true, true, true, true, true, true, true, true, true, true, false, false, false, false, false, false, false, false, false, false, false, false, false, false, false, false, false, false, false] rfl rfl (by kernel_rfl) (fun _ _ _ h => h) (Or.inl ⟨by rfl, ?_⟩) ?_ ?_
                rotate_left
                · (intro w'; go_simp; with_reducible rfl)
                rotate_left
                · (simp only [Act.put, List.setIfInBounds_toArray, List.set_cons_zero, List.set_cons_succ]; rfl)
                refine pure_ (i := 13) (N := (some 53)) (v := ?_) (a' := ?_) #[true, true, true, true, true, true, true, true, true, true, true, true, true, true, false, false, false, false, false, false, false, false, false, false, false, false, false, false, false, false, false, false] rfl rfl (by kernel_rfl) (fun _ _ _ h => h) (Or.inl ⟨by rfl, ?_⟩) ?_ ?_
                rotate_left
                · (intro w'; go_simp; with_reducible rfl)
                rotate_left
                · (simp only [Act.put, List.setIfInBounds_toArray, List.set_cons_zero, List.set_cons_succ]; rfl)
                refine pure_ (i := 14) (N := (some 54)) (v := ?_) (a' := ?_) #[true, true, true, true, true, true, true, true, true, true, true, true, true, true, true, false, false, false, false, false, false, false, false, false, false, false, false, false, false, false, false, false] rfl rfl (by kernel_rfl) (fun _ _ _ h => h) (Or.inl ⟨by rfl, ?_⟩) ?_ ?_
                rotate_left
                · (intro w'; go_simp; with_reducible rfl)
                rotate_left
                · (simp only [Act.put, List.setIfInBounds_toArray, List.set_cons_zero, List.set_cons_succ]; rfl)
                refine pure_ (i := 15) (N := (some 55)) (v := ?_) (a' := ?_) #[true, true, true, true, true, true, true, true, true, true, true, true, true, true, true, true, false, false, false, false, false, false, false, false, false, false, false, false, false, false, false, false] rfl rfl (by kernel_rfl) (fun _ _ _ h => h) (Or.inl ⟨by rfl, ?_⟩) ?_ ?_
                rotate_left
                · (intro w'; go_simp; with_reducible rfl)
                rotate_left
                · (simp only [Act.put, List.setIfInBounds_toArray, List.set_cons_zero, List.set_cons_succ]; rfl)
                refine pure_ (i := 16) (N := (some 56)) (v := ?_) (a' := ?_) #[true, true, true, true, true, true, true, true, true, true, true, true, true, true, true, true, true, false, false, false, false, false, false, false, false, false, false, false, false, false, false, false] rfl rfl (by kernel_rfl) (fun _ _ _ h => h) (Or.inl ⟨by rfl, ?_⟩) ?_ ?_
                rotate_left
                · (intro w'; go_simp; with_reducible rfl)
                rotate_left
                · (simp only [Act.put, List.setIfInBounds_toArray, List.set_cons_zero, List.set_cons_succ]; rfl)
                refine pure_ (i := 17) (N := (some 57)) (v := undef) (a' := ?_) #[true, true, true, true, true, true, true, true, true, true, true, true, true, true, true, true, true, true, false, false, false, false, false, false, false, false, false, false, false, false, false, false] rfl rfl (by kernel_rfl) (fun _ _ _ h => h) (Or.inr ⟨by rfl, rfl⟩) ?_ ?_
                rotate_left
                · (simp only [Act.put, List.setIfInBounds_toArray, List.set_cons_zero, List.set_cons_succ]; rfl)
                refine pure_ (i := 18) (N := (some 58)) (v := undef) (a' := ?_) #[true, true, true, true, true, true, true, true, true, true, true, true, true, true, true, true, true, true, true, false, false, false, false, false, false, false, false, false, false, false, false, false] rfl rfl (by kernel_rfl) (fun _ _ _ h => h) (Or.inr ⟨by rfl, rfl⟩) ?_ ?_
                rotate_left
                · (simp only [Act.put, List.setIfInBounds_toArray, List.set_cons_zero, List.set_cons_succ]; rfl)
                refine pure_ (i := 19) (N := (some 59)) (v := ?_) (a' := ?_) #[true, true, true, true, true, true, true, true, true, true, true, true, true, true, true, true, true, true, true, true, false, false, false, false, false, false, false, false, false, false, false, false] rfl rfl (by kernel_rfl) (fun _ _ _ h => h) (Or.inl ⟨by rfl, ?_⟩) ?_ ?_
                rotate_left
                · (intro w'; go_simp; with_reducible rfl)
                rotate_left
                · (simp only [Act.put, List.setIfInBounds_toArray, List.set_cons_zero, List.set_cons_succ]; rfl)
                refine pure_ (i := 20) (N := (some 60)) (v := ?_) (a' := ?_) #[true, true, true, true, true, true, true, true, true, true, true, true, true, true, true, true, true, true, true, true, true, false, false, false, false, false, false, false, false, false, false, false] rfl rfl (by kernel_rfl) (fun _ _ _ h => h) (Or.inl ⟨by rfl, ?_⟩) ?_ ?_
                rotate_left
                · (intro w'; go_simp; with_reducible rfl)
                rotate_left
                · (simp only [Act.put, List.setIfInBounds_toArray, List.set_cons_zero, List.set_cons_succ]; rfl)
                refine pure_ (i := 21) (N := (some 61)) (v := ?_) (a' := ?_) #[true, true, true, true, true, true, true, true, true, true, true, true, true, true, true, true, true, true, true, true, true, true, false, false, false, false, false, false, false, false, false, false] rfl rfl (by kernel_rfl) (fun _ _ _ h => h) (Or.inl ⟨by rfl, ?_⟩) ?_ ?_
                rotate_left
                · (intro w'; go_simp; with_reducible rfl)
                rotate_left
                · (simp only [Act.put, List.setIfInBounds_toArray, List.set_cons_zero, List.set_cons_succ]; rfl)
                refine pure_ (i := 23) (N := (some 63)) (v := ?_) (a' := ?_) #[true, true, true, true, true, true, true, true, true, true, true, true, true, true, true, true, true, true, true, true, true, true, false, true, false, false, false, false, false, false, false, false] rfl rfl (by kernel_rfl) (fun _ _ _ h => h) (Or.inl ⟨by rfl, ?_⟩) ?_ ?_
                rotate_left
                · (intro w'; go_simp; with_reducible rfl)
                rotate_left
                · (simp only [Act.put, List.setIfInBounds_toArray, List.set_cons_zero, List.set_cons_succ]; rfl)
                refine pure_ (i := 24) (N := (some 64)) (v := ?_) (a' := ?_) #[true, true, true, true, true, true, true, true, true, true, true, true, true, true, true, true, true, true, true, true, true, true, false, true, true, false, false, false, false, false, false, false] rfl rfl (by kernel_rfl) (fun _ _ _ h => h) (Or.inl ⟨by rfl, ?_⟩) ?_ ?_
                rotate_left
                · (intro w'; go_simp; with_reducible rfl)
                rotate_left
                · (simp only [Act.put, List.setIfInBounds_toArray, List.set_cons_zero, List.set_cons_succ]; rfl)
                refine take_ (i := 22) (N := (some 62)) (v := ?_) (a' := ?_) #[true, true, true, true, true, true, true, true, true, true, true, true, true, true, true, true, true, true, true, true, true, true, true, true, true, false, false, false, false, false, false, false] rfl rfl (by kernel_rfl) (fun _ _ _ h => h) (Or.inl ⟨by rfl, ?_⟩) hHeld ?_ ?_
                rotate_left
                · (rintro w' ⟨s0, s1⟩; have d0 : w'.cell? ⟨w.heap.size, 0, none⟩ = some (.slice A1 g.terms.length c1) := (blk_cell s0 0).trans rfl; have d1 : w'.cell? ⟨w.heap.size, 1, none⟩ = some (.slice A2 g.names.length c2) := (blk_cell s0 1).trans rfl; have d2 : w'.cell? ⟨w.heap.size, 2, none⟩ = some (.slice A3 g.rules.length c3) := (blk_cell s0 2).trans rfl; have d3 : w'.cell? ⟨w.heap.size + 1, k, none⟩ = some (.int .i64 z) := (blk_cell s1 k).trans HZ.out; go_simp; with_reducible rfl)
                rotate_left
                · (simp only [Act.put, List.setIfInBounds_toArray, List.set_cons_zero, List.set_cons_succ]; rfl)
                refine take_ (i := 25) (N := (some 65)) (v := ?_) (a' := ?_) #[true, true, true, true, true, true, true, true, true, true, true, true, true, true, true, true, true, true, true, true, true, true, true, true, true, true, false, false, false, false, false, false] rfl rfl (by kernel_rfl) (fun _ _ _ h => h) (Or.inl ⟨by rfl, ?_⟩) hHeld ?_ ?_
                rotate_left
                · (rintro w' ⟨s0, s1⟩; have d0 : w'.cell? ⟨w.heap.size, 0, none⟩ = some (.slice A1 g.terms.length c1) := (blk_cell s0 0).trans rfl; have d1 : w'.cell? ⟨w.heap.size, 1, none⟩ = some (.slice A2 g.names.length c2) := (blk_cell s0 1).trans rfl; have d2 : w'.cell? ⟨w.heap.size, 2, none⟩ = some (.slice A3 g.rules.length c3) := (blk_cell s0 2).trans rfl; have d3 : w'.cell? ⟨w.heap.size + 1, k, none⟩ = some (.int .i64 z) := (blk_cell s1 k).trans HZ.out; go_simp; with_reducible rfl)
                rotate_left
                · (simp only [Act.put, List.setIfInBounds_toArray, List.set_cons_zero, List.set_cons_succ]; rfl)
                refine one_ (i := 26) (N := (some 66)) #[true, true, true, true, true, true, true, true, true, true, true, true, true, true, true, true, true, true, true, true, true, true, true, true, true, true, true, false, false, false, false, false] rfl rfl (by kernel_rfl) (by decide) (fun K hK => ?_)
                (refine goes_ Try.func25 (by kernel_rfl) rfl #[.agg #[.slice A1 g.terms.length c1, .slice A2 g.names.length c2, .slice A3 g.rules.length c3], .int .i64 z] (by rfl) rfl rfl (by simp [Act.eval]) ?_; refine (term_c g A1 A2 A3 c1 c2 c3 z _).mono ?_; rw [HTM.out]; rintro e w6 ⟨rfl, hb6⟩; refine ⟨_, rfl, ?_⟩; have HK6 := Aside0.mk (HK5.out.drew_.below_ hb6); clear hb6; refine hK.out _ _ ⟨HK6.out.p, HK6.out.q⟩ (fun hHeld => ?_))
                skip
                clear hK K
                refine norm_ (a' := ?_) ?_ ?_
                rotate_left
                · (show Act.put _ (some 66) _ = _; simp only [Act.put, List.setIfInBounds_toArray, List.set_cons_zero, List.set_cons_succ]; rfl)
                refine pure_ (i := 27) (N := (some 67)) (v := ?_) (a' := ?_) #[true, true, true, true, true, true, true, true, true, true, true, true, true, true, true, true, true, true, true, true, true, true, true, true, true, true, true, true, false, false, false, false] rfl rfl (by kernel_rfl) (fun _ _ _ h => h) (Or.inl ⟨by rfl, ?_⟩) ?_ ?_
                rotate_left
                · (intro w'; go_simp; with_reducible rfl)
                rotate_left
                · (simp only [Act.put, List.setIfInBounds_toArray, List.set_cons_zero, List.set_cons_succ]; rfl)
                refine pure_ (i := 28) (N := (some 68)) (v := ?_) (a' := ?_) #[true, true, true, true, true, true, true, true, true, true, true, true, true, true, true, true, true, true, true, true, true, true, true, true, true, true, true, true, true, false, false, false] rfl rfl (by kernel_rfl) (fun _ _ _ h => h) (Or.inl ⟨by rfl, ?_⟩) ?_ ?_
                rotate_left
                · (intro w'; go_simp; with_reducible rfl)
                rotate_left
                · (simp only [Act.put, List.setIfInBounds_toArray, List.set_cons_zero, List.set_cons_succ]; rfl)
                refine pure_ (i := 29) (N := (some 69)) (v := ?_) (a' := ?_) #[true, true, true, true, true, true, true, true, true, true, true, true, true, true, true, true, true, true, true, true, true, true, true, true, true, true, true, true, true, true, false, false] rfl rfl (by kernel_rfl) (fun _ _ _ h => h) (Or.inl ⟨by rfl, ?_⟩) ?_ ?_
                rotate_left
                · (intro w'; go_simp; with_reducible rfl)
                rotate_left
                · (simp only [Act.put, List.setIfInBounds_toArray, List.set_cons_zero, List.set_cons_succ]; rfl)
                refine pure_ (i := 30) (N := (some 70)) (v := ?_) (a' := ?_) #[true, true, true, true, true, true, true, true, true, true, true, true, true, true, true, true, true, true, true, true, true, true, true, true, true, true, true, true, true, true, true, false] rfl rfl (by kernel_rfl) (fun _ _ _ h => h) (Or.inl ⟨by rfl, ?_⟩) ?_ ?_
                rotate_left
                · (intro w'; go_simp; with_reducible rfl)
                rotate_left
                · (simp only [Act.put, List.setIfInBounds_toArray, List.set_cons_zero, List.set_cons_succ]; rfl)
                refine pure_ (i := 31) (N := (some 71)) (v := ?_) (a' := ?_) #[true, true, true, true, true, true, true, true, true, true, true, true, true, true, true, true, true, true, true, true, true, true, true, true, true, true, true, true, true, true, true, true] rfl rfl (by kernel_rfl) (fun _ _ _ h => h) (Or.inl ⟨by rfl, ?_⟩) ?_ ?_
                rotate_left
                · (intro w'; go_simp; with_reducible rfl)
                rotate_left
                · (simp only [Act.put, List.setIfInBounds_toArray, List.set_cons_zero, List.set_cons_succ]; rfl)
                refine done_ (by kernel_rfl) ?_
                go_wp2
                go_roundw
                case rel => exact ⟨k + 1, by omega, by go_num, HK6⟩
                case measure => simp [intOf]; omega
              | false =>
                have HTM := Aside0.mk hterm
                clear hterm
                go_wp2
                refine start_ (n := 10) (S := fun w' => w'.heap[w.heap.size]? = some (.cells #[.slice A1 g.terms.length c1, .slice A2 g.names.length c2, .slice A3 g.rules.length c3] 25 (0, 0)) ∧ w'.heap[w.heap.size + 1]? = some (.cells #[.int .i64 x, .int .i64 y] 52 (0, 0))) (ds := []) #[false, false, false, false, false, false, false, false, false, false] (by kernel_rfl) rfl rfl (⟨HK.out.drew_.p, HK.out.drew_.q⟩) (fun hHeld => ?_)
                refine pure_ (i := 1) (N := (some 34)) (v := ?_) (a' := ?_) #[false, true, false, false, false, false, false, false, false, false] rfl rfl (by kernel_rfl) (fun _ _ _ h => h) (Or.inl ⟨by rfl, ?_⟩) ?_ ?_
                rotate_left
                · (intro w'; go_simp; with_reducible rfl)
                rotate_left
                · (simp only [Act.put, List.setIfInBounds_toArray, List.set_cons_zero, List.set_cons_succ]; rfl)
                refine pure_ (i := 2) (N := (some 35)) (v := ?_) (a' := ?_) #[false, true, true, false, false, false, false, false, false, false] rfl rfl (by kernel_rfl) (fun _ _ _ h => h) (Or.inl ⟨by rfl, ?_⟩) ?_ ?_
                rotate_left
                · (intro w'; go_simp; with_reducible rfl)
                rotate_left
                · (simp only [Act.put, List.setIfInBounds_toArray, List.set_cons_zero, List.set_cons_succ]; rfl)
                refine take_ (i := 0) (N := (some 33)) (v := ?_) (a' := ?_) #[true, true, true, false, false, false, false, false, false, false] rfl rfl (by kernel_rfl) (fun _ _ _ h => h) (Or.inl ⟨by rfl, ?_⟩) hHeld ?_ ?_
                rotate_left
                · (rintro w' ⟨s0, s1⟩; have d0 : w'.cell? ⟨w.heap.size, 0, none⟩ = some (.slice A1 g.terms.length c1) := (blk_cell s0 0).trans rfl; have d1 : w'.cell? ⟨w.heap.size, 1, none⟩ = some (.slice A2 g.names.length c2) := (blk_cell s0 1).trans rfl; have d2 : w'.cell? ⟨w.heap.size, 2, none⟩ = some (.slice A3 g.rules.length c3) := (blk_cell s0 2).trans rfl; have d3 : w'.cell? ⟨w.heap.size + 1, k, none⟩ = some (.int .i64 z) := (blk_cell s1 k).trans HZ.out; go_simp; with_reducible rfl)
                rotate_left
                · (simp only [Act.put, List.setIfInBounds_toArray, List.set_cons_zero, List.set_cons_succ]; rfl)
                refine take_ (i := 3) (N := (some 36)) (v := ?_) (a' := ?_) #[true, true, true, true, false, false, false, false, false, false] rfl rfl (by kernel_rfl) (fun _ _ _ h => h) (Or.inl ⟨by rfl, ?_⟩) hHeld ?_ ?_
                rotate_left
                · (rintro w' ⟨s0, s1⟩; have d0 : w'.cell? ⟨w.heap.size, 0, none⟩ = some (.slice A1 g.terms.length c1) := (blk_cell s0 0).trans rfl; have d1 : w'.cell? ⟨w.heap.size, 1, none⟩ = some (.slice A2 g.names.length c2) := (blk_cell s0 1).trans rfl; have d2 : w'.cell? ⟨w.heap.size, 2, none⟩ = some (.slice A3 g.rules.length c3) := (blk_cell s0 2).trans rfl; have d3 : w'.cell? ⟨w.heap.size + 1, k, none⟩ = some (.int .i64 z) := (blk_cell s1 k).trans HZ.out; go_simp; with_reducible rfl)
                rotate_left
                · (simp only [Act.put, List.setIfInBounds_toArray, List.set_cons_zero, List.set_cons_succ]; rfl)
                refine one_ (i := 4) (N := (some 37)) #[true, true, true, true, true, false, false, false, false, false] rfl rfl (by kernel_rfl) (by decide) (fun K hK => ?_)
                (refine goes_ Try.func20 (by kernel_rfl) rfl #[.agg #[.slice A1 g.terms.length c1, .slice A2 g.names.length c2, .slice A3 g.rules.length c3], .int .i64 z] (by rfl) rfl rfl (by simp [Act.eval]) ?_; refine (name_c g A1 A2 A3 c1 c2 c3 z _ (HK.out.drew_).rep hsz hzb).mono ?_; rw [HNM.out]; rintro e w5 ⟨he, hb5⟩; obtain rfl : e = .returned (.tuple #[.string s, .bool true]) := he; refine ⟨_, rfl, ?_⟩; have HK5 := Aside0.mk (HK.out.drew_.below_ hb5); clear hb5; refine hK.out _ _ ⟨HK5.out.p, HK5.out.q⟩ (fun hHeld => ?_))
                skip
                clear hK K
                refine norm_ (a' := ?_) ?_ ?_
                rotate_left
                · (show Act.put _ (some 37) _ = _; simp only [Act.put, List.setIfInBounds_toArray, List.set_cons_zero, List.set_cons_succ]; rfl)
                refine pure_ (i := 5) (N := (some 32)) (v := ?_) (a' := ?_) #[true, true, true, true, true, true, false, false, false, false] rfl rfl (by kernel_rfl) (fun _ _ _ h => h) (Or.inl ⟨by rfl, ?_⟩) ?_ ?_
                rotate_left
                · (intro w'; go_simp; with_reducible rfl)
                rotate_left
                · (simp only [Act.put, List.setIfInBounds_toArray, List.set_cons_zero, List.set_cons_succ]; rfl)
                refine pure_ (i := 6) (N := (some 38)) (v := ?_) (a' := ?_) #[true, true, true, true, true, true, true, false, false, false] rfl rfl (by kernel_rfl) (fun _ _ _ h => h) (Or.inl ⟨by rfl, ?_⟩) ?_ ?_
                rotate_left
                · (intro w'; go_simp; with_reducible rfl)
                rotate_left
                · (simp only [Act.put, List.setIfInBounds_toArray, List.set_cons_zero, List.set_cons_succ]; rfl)
                refine pure_ (i := 7) (N := (some 39)) (v := ?_) (a' := ?_) #[true, true, true, true, true, true, true, true, false, false] rfl rfl (by kernel_rfl) (fun _ _ _ h => h) (Or.inl ⟨by rfl, ?_⟩) ?_ ?_
                rotate_left
                · (intro w'; go_simp; with_reducible rfl)
                rotate_left
                · (simp only [Act.put, List.setIfInBounds_toArray, List.set_cons_zero, List.set_cons_succ]; rfl)
                refine pure_ (i := 8) (N := (some 7)) (v := ?_) (a' := ?_) #[true, true, true, true, true, true, true, true, true, false] rfl rfl (by kernel_rfl) (fun _ _ _ h => h) (Or.inl ⟨by rfl, ?_⟩) ?_ ?_
                rotate_left
                · (intro w'; go_simp; with_reducible rfl)
                rotate_left
                · (simp only [Act.put, List.setIfInBounds_toArray, List.set_cons_zero, List.set_cons_succ]; rfl)
                refine pure_ (i := 9) (N := (some 8)) (v := ?_) (a' := ?_) #[true, true, true, true, true, true, true, true, true, true] rfl rfl (by kernel_rfl) (fun _ _ _ h => h) (Or.inl ⟨by rfl, ?_⟩) ?_ ?_
                rotate_left
                · (intro w'; go_simp; with_reducible rfl)
                rotate_left
                · (simp only [Act.put, List.setIfInBounds_toArray, List.set_cons_zero, List.set_cons_succ]; rfl)
                refine done_ (by kernel_rfl) ?_
                go_wp2
                refine start_ (n := 32) (S := fun w' => w'.heap[w.heap.size]? = some (.cells #[.slice A1 g.terms.length c1, .slice A2 g.names.length c2, .slice A3 g.rules.length c3] 25 (0, 0)) ∧ w'.heap[w.heap.size + 1]? = some (.cells #[.int .i64 x, .int .i64 y] 52 (0, 0))) (ds := []) #[false, false, false, false, false, false, false, false, false, false, false, false, false, false, false, false, false, false, false, false, false, false, false, false, false, false, false, false, false, false, false, false] (by kernel_rfl) rfl rfl (⟨HK5.out.drew_.p, HK5.out.drew_.q⟩) (fun hHeld => ?_)
                refine pure_ (i := 0) (N := (some 40)) (v := ?_) (a' := ?_) #[true, false, false, false, false, false, false, false, false, false, false, false, false, false, false, false, false, false, false, false, false, false, false, false, false, false, false, false, false, false, false, false] rfl rfl (by kernel_rfl) (fun _ _ _ h => h) (Or.inl ⟨by rfl, ?_⟩) ?_ ?_
                rotate_left
                · (intro w'; go_simp; with_reducible rfl)
                rotate_left
                · (simp only [Act.put, List.setIfInBounds_toArray, List.set_cons_zero, List.set_cons_succ]; rfl)
                refine pure_ (i := 1) (N := (some 41)) (v := ?_) (a' := ?_) #[true, true, false, false, false, false, false, false, false, false, false, false, false, false, false, false, false, false, false, false, false, false, false, false, false, false, false, false, false, false, false, false] rfl rfl (by kernel_rfl) (fun _ _ _ h => h) (Or.inl ⟨by rfl, ?_⟩) ?_ ?_
                rotate_left
                · (intro w'; go_simp; with_reducible rfl)
                rotate_left
                · (simp only [Act.put, List.setIfInBounds_toArray, List.set_cons_zero, List.set_cons_succ]; rfl)
                refine pure_ (i := 2) (N := (some 42)) (v := ?_) (a' := ?_) #[true, true, true, false, false, false, false, false, false, false, false, false, false, false, false, false, false, false, false, false, false, false, false, false, false, false, false, false, false, false, false, false] rfl rfl (by kernel_rfl) (fun _ _ _ h => h) (Or.inl ⟨by rfl, ?_⟩) ?_ ?_
                rotate_left
                · (intro w'; go_simp; with_reducible rfl)
                rotate_left
                · (simp only [Act.put, List.setIfInBounds_toArray, List.set_cons_zero, List.set_cons_succ]; rfl)
                refine take_ (i := 3) (N := (some 43)) (v := ?_) (a' := ?_) #[true, true, true, true, false, false, false, false, false, false, false, false, false, false, false, false, false, false, false, false, false, false, false, false, false, false, false, false, false, false, false, false] rfl rfl (by kernel_rfl) (fun _ _ _ h => h) (Or.inl ⟨by rfl, ?_⟩) hHeld ?_ ?_
                rotate_left
                · (rintro w' ⟨s0, s1⟩; have d0 : w'.cell? ⟨w.heap.size, 0, none⟩ = some (.slice A1 g.terms.length c1) := (blk_cell s0 0).trans rfl; have d1 : w'.cell? ⟨w.heap.size, 1, none⟩ = some (.slice A2 g.names.length c2) := (blk_cell s0 1).trans rfl; have d2 : w'.cell? ⟨w.heap.size, 2, none⟩ = some (.slice A3 g.rules.length c3) := (blk_cell s0 2).trans rfl; have d3 : w'.cell? ⟨w.heap.size + 1, k, none⟩ = some (.int .i64 z) := (blk_cell s1 k).trans HZ.out; go_simp; with_reducible rfl)
                rotate_left
                · (simp only [Act.put, List.setIfInBounds_toArray, List.set_cons_zero, List.set_cons_succ]; rfl)
                refine pure_ (i := 4) (N := (some 44)) (v := ?_) (a' := ?_) #[true, true, true, true, true, false, false, false, false, false, false, false, false, false, false, false, false, false, false, false, false, false, false, false, false, false, false, false, false, false, false, false] rfl rfl (by kernel_rfl) (fun _ _ _ h => h) (Or.inl ⟨by rfl, ?_⟩) ?_ ?_
                rotate_left
                · (intro w'; go_simp; with_reducible rfl)
                rotate_left
                · (simp only [Act.put, List.setIfInBounds_toArray, List.set_cons_zero, List.set_cons_succ]; rfl)
                refine pure_ (i := 5) (N := (some 45)) (v := ?_) (a' := ?_) #[true, true, true, true, true, true, false, false, false, false, false, false, false, false, false, false, false, false, false, false, false, false, false, false, false, false, false, false, false, false, false, false] rfl rfl (by kernel_rfl) (fun _ _ _ h => h) (Or.inl ⟨by rfl, ?_⟩) ?_ ?_
                rotate_left
                · (intro w'; go_simp; with_reducible rfl)
                rotate_left
                · (simp only [Act.put, List.setIfInBounds_toArray, List.set_cons_zero, List.set_cons_succ]; rfl)
                refine pure_ (i := 6) (N := (some 46)) (v := ?_) (a' := ?_) #[true, true, true, true, true, true, true, false, false, false, false, false, false, false, false, false, false, false, false, false, false, false, false, false, false, false, false, false, false, false, false, false] rfl rfl (by kernel_rfl) (fun _ _ _ h => h) (Or.inl ⟨by rfl, ?_⟩) ?_ ?_
                rotate_left
                · (intro w'; go_simp; with_reducible rfl)
                rotate_left
                · (simp only [Act.put, List.setIfInBounds_toArray, List.set_cons_zero, List.set_cons_succ]; rfl)
                refine pure_ (i := 7) (N := (some 47)) (v := ?_) (a' := ?_) #[true, true, true, true, true, true, true, true, false, false, false, false, false, false, false, false, false, false, false, false, false, false, false, false, false, false, false, false, false, false, false, false] rfl rfl (by kernel_rfl) (fun _ _ _ h => h) (Or.inl ⟨by rfl, ?_⟩) ?_ ?_
                rotate_left
                · (intro w'; go_simp; with_reducible rfl)
                rotate_left
                · (simp only [Act.put, List.setIfInBounds_toArray, List.set_cons_zero, List.set_cons_succ]; rfl)
                refine pure_ (i := 9) (N := (some 49)) (v := ?_) (a' := ?_) #[true, true, true, true, true, true, true, true, false, true, false, false, false, false, false, false, false, false, false, false, false, false, false, false, false, false, false, false, false, false, false, false] rfl rfl (by kernel_rfl) (fun _ _ _ h => h) (Or.inl ⟨by rfl, ?_⟩) ?_ ?_
                rotate_left
                · (intro w'; go_simp; with_reducible rfl)
                rotate_left
                · (simp only [Act.put, List.setIfInBounds_toArray, List.set_cons_zero, List.set_cons_succ]; rfl)
                refine take_ (i := 8) (N := (some 48)) (v := ?_) (a' := ?_) #[true, true, true, true, true, true, true, true, true, true, false, false, false, false, false, false, false, false, false, false, false, false, false, false, false, false, false, false, false, false, false, false] rfl rfl (by kernel_rfl) (fun _ _ _ h => h) (Or.inl ⟨by rfl, ?_⟩) hHeld ?_ ?_
                rotate_left
                · (rintro w' ⟨s0, s1⟩; have d0 : w'.cell? ⟨w.heap.size, 0, none⟩ = some (.slice A1 g.terms.length c1) := (blk_cell s0 0).trans rfl; have d1 : w'.cell? ⟨w.heap.size, 1, none⟩ = some (.slice A2 g.names.length c2) := (blk_cell s0 1).trans rfl; have d2 : w'.cell? ⟨w.heap.size, 2, none⟩ = some (.slice A3 g.rules.length c3) := (blk_cell s0 2).trans rfl; have d3 : w'.cell? ⟨w.heap.size + 1, k, none⟩ = some (.int .i64 z) := (blk_cell s1 k).trans HZ.out; go_simp; with_reducible rfl)
                rotate_left
                · (simp only [Act.put, List.setIfInBounds_toArray, List.set_cons_zero, List.set_cons_succ]; rfl)
                refine pure_ (i := 10) (N := (some 50)) (v := ?_) (a' := ?_) #[true, true, true, true, true, true, true, true, true, true, true, false, false, false, false, false, false, false, false, false, false, false, false, false, false, false, false, false, false, false, false, false] rfl rfl (by kernel_rfl) (fun _ _ _ h => h) (Or.inl ⟨by rfl, ?_⟩) ?_ ?_
                rotate_left
                · (intro w'; go_simp; with_reducible rfl)
                rotate_left
                · (simp only [Act.put, List.setIfInBounds_toArray, List.set_cons_zero, List.set_cons_succ]; rfl)
                refine pure_ (i := 11) (N := (some 51)) (v := ?_) (a' := ?_) #[true, true, true, true, true, true, true, true, true, true, true, true, false, false, false, false, false, false, false, false, false, false, false, false, false, false, false, false, false, false, false, false] rfl rfl (by kernel_rfl) (fun _ _ _ h => h) (Or.inl ⟨by rfl, ?_⟩) ?_ ?_
                rotate_left
                · (intro w'; go_simp; with_reducible rfl)
                rotate_left
                · (simp only [Act.put, List.setIfInBounds_toArray, List.set_cons_zero, List.set_cons_succ]; rfl)
                refine pure_ (i := 12) (N := (some 52)) (v := ?_) (a' := ?_) #[true, true, true, true, true, true, true, true, true, true, true, true, true, false, false, false, false, false, false, false, false, false, false, false, false, false, false, false, false, false, false, false] rfl rfl (by kernel_rfl) (fun _ _ _ h => h) (Or.inl ⟨by rfl, ?_⟩) ?_ ?_
                rotate_left
                · (intro w'; go_simp; with_reducible rfl)
                rotate_left
                · (simp only [Act.put, List.setIfInBounds_toArray, List.set_cons_zero, List.set_cons_succ]; rfl)
                refine pure_ (i := 13) (N := (some 53)) (v := ?_) (a' := ?_) #[true, true, true, true, true, true, true, true, true, true, true, true, true, true, false, false, false, false, false, false, false, false, false, false, false, false, false, false, false, false, false, false] rfl rfl (by kernel_rfl) (fun _ _ _ h => h) (Or.inl ⟨by rfl, ?_⟩) ?_ ?_
                rotate_left
                · (intro w'; go_simp; with_reducible rfl)
                rotate_left
                · (simp only [Act.put, List.setIfInBounds_toArray, List.set_cons_zero, List.set_cons_succ]; rfl)
                refine pure_ (i := 14) (N := (some 54)) (v := ?_) (a' := ?_) #[true, true, true, true, true, true, true, true, true, true, true, true, true, true, true, false, false, false, false, false, false, false, false, false, false, false, false, false, false, false, false, false] rfl rfl (by kernel_rfl) (fun _ _ _ h => h) (Or.inl ⟨by rfl, ?_⟩) ?_ ?_
                rotate_left
                · (intro w'; go_simp; with_reducible rfl)
                rotate_left
                · (simp only [Act.put, List.setIfInBounds_toArray, List.set_cons_zero, List.set_cons_succ]; rfl)
                refine pure_ (i := 15) (N := (some 55)) (v := ?_) (a' := ?_) #[true, true, true, true, true, true, true, true, true, true, true, true, true, true, true, true, false, false, false, false, false, false, false, false, false, false, false, false, false, false, false, false] rfl rfl (by kernel_rfl) (fun _ _ _ h => h) (Or.inl ⟨by rfl, ?_⟩) ?_ ?_
                rotate_left
                · (intro w'; go_simp; with_reducible rfl)
                rotate_left
                · (simp only [Act.put, List.setIfInBounds_toArray, List.set_cons_zero, List.set_cons_succ]; rfl)
                refine pure_ (i := 16) (N := (some 56)) (v := ?_) (a' := ?_) #[true, true, true, true, true, true, true, true, true, true, true, true, true, true, true, true, true, false, false, false, false, false, false, false, false, false, false, false, false, false, false, false] rfl rfl (by kernel_rfl) (fun _ _ _ h => h) (Or.inl ⟨by rfl, ?_⟩) ?_ ?_
                rotate_left
                · (intro w'; go_simp; with_reducible rfl)
                rotate_left
                · (simp only [Act.put, List.setIfInBounds_toArray, List.set_cons_zero, List.set_cons_succ]; rfl)
                refine pure_ (i := 17) (N := (some 57)) (v := undef) (a' := ?_) #[true, true, true, true, true, true, true, true, true, true, true, true, true, true, true, true, true, true, false, false, false, false, false, false, false, false, false, false, false, false, false, false] rfl rfl (by kernel_rfl) (fun _ _ _ h => h) (Or.inr ⟨by rfl, rfl⟩) ?_ ?_
                rotate_left
                · (simp only [Act.put, List.setIfInBounds_toArray, List.set_cons_zero, List.set_cons_succ]; rfl)
                refine pure_ (i := 18) (N := (some 58)) (v := undef) (a' := ?_) #[true, true, true, true, true, true, true, true, true, true, true, true, true, true, true, true, true, true, true, false, false, false, false, false, false, false, false, false, false, false, false, false] rfl rfl (by kernel_rfl) (fun _ _ _ h => h) (Or.inr ⟨by rfl, rfl⟩) ?_ ?_
                rotate_left
                · (simp only [Act.put, List.setIfInBounds_toArray, List.set_cons_zero, List.set_cons_succ]; rfl)
                refine pure_ (i := 19) (N := (some 59)) (v := ?_) (a' := ?_) #[true, true, true, true, true, true, true, true, true, true, true, true, true, true, true, true, true, true, true, true, false, false, false, false, false, false, false, false, false, false, false, false] rfl rfl (by kernel_rfl) (fun _ _ _ h => h) (Or.inl ⟨by rfl, ?_⟩) ?_ ?_
                rotate_left
                · (intro w'; go_simp; with_reducible rfl)
                rotate_left
                · (simp only [Act.put, List.setIfInBounds_toArray, List.set_cons_zero, List.set_cons_succ]; rfl)
                refine pure_ (i := 20) (N := (some 60)) (v := ?_) (a' := ?_) #[true, true, true, true, true, true, true, true, true, true, true, true, true, true, true, true, true, true, true, true, true, false, false, false, false, false, false, false, false, false, false, false] rfl rfl (by kernel_rfl) (fun _ _ _ h => h) (Or.inl ⟨by rfl, ?_⟩) ?_ ?_
                rotate_left
                · (intro w'; go_simp; with_reducible rfl)
                rotate_left
                · (simp only [Act.put, List.setIfInBounds_toArray, List.set_cons_zero, List.set_cons_succ]; rfl)
                refine pure_ (i := 21) (N := (some 61)) (v := ?_) (a' := ?_) #[true, true, true, true, true, true, true, true, true, true, true, true, true, true, true, true, true, true, true, true, true, true, false, false, false, false, false, false, false, false, false, false] rfl rfl (by kernel_rfl) (fun _ _ _ h => h) (Or.inl ⟨by rfl, ?_⟩) ?_ ?_
                rotate_left
                · (intro w'; go_simp; with_reducible rfl)
                rotate_left
                · (simp only [Act.put, List.setIfInBounds_toArray, List.set_cons_zero, List.set_cons_succ]; rfl)
                refine pure_ (i := 23) (N := (some 63)) (v := ?_) (a' := ?_) #[true, true, true, true, true, true, true, true, true, true, true, true, true, true, true, true, true, true, true, true, true, true, false, true, false, false, false, false, false, false, false, false] rfl rfl (by kernel_rfl) (fun _ _ _ h => h) (Or.inl ⟨by rfl, ?_⟩) ?_ ?_
                rotate_left
                · (intro w'; go_simp; with_reducible rfl)
                rotate_left
                · (simp only [Act.put, List.setIfInBounds_toArray, List.set_cons_zero, List.set_cons_succ]; rfl)
                refine pure_ (i := 24) (N := (some 64)) (v := ?_) (a' := ?_) #[true, true, true, true, true, true, true, true, true, true, true, true, true, true, true, true, true, true, true, true, true, true, false, true, true, false, false, false, false, false, false, false] rfl rfl (by kernel_rfl) (fun _ _ _ h => h) (Or.inl ⟨by rfl, ?_⟩) ?_ ?_
                rotate_left
                · (intro w'; go_simp; with_reducible rfl)
                rotate_left
                · (simp only [Act.put, List.setIfInBounds_toArray, List.set_cons_zero, List.set_cons_succ]; rfl)
                refine take_ (i := 22) (N := (some 62)) (v := ?_) (a' := ?_) #[true, true, true, true, true, true, true, true, true, true, true, true, true, true, true, true, true, true, true, true, true, true, true, true, true, false, false, false, false, false, false, false] rfl rfl (by kernel_rfl) (fun _ _ _ h => h) (Or.inl ⟨by rfl, ?_⟩) hHeld ?_ ?_
                rotate_left
                · (rintro w' ⟨s0, s1⟩; have d0 : w'.cell? ⟨w.heap.size, 0, none⟩ = some (.slice A1 g.terms.length c1) := (blk_cell s0 0).trans rfl; have d1 : w'.cell? ⟨w.heap.size, 1, none⟩ = some (.slice A2 g.names.length c2) := (blk_cell s0 1).trans rfl; have d2 : w'.cell? ⟨w.heap.size, 2, none⟩ = some (.slice A3 g.rules.length c3) := (blk_cell s0 2).trans rfl; have d3 : w'.cell? ⟨w.heap.size + 1, k, none⟩ = some (.int .i64 z) := (blk_cell s1 k).trans HZ.out; go_simp; with_reducible rfl)
                rotate_left
                · (simp only [Act.put, List.setIfInBounds_toArray, List.set_cons_zero, List.set_cons_succ]; rfl)
                refine take_ (i := 25) (N := (some 65)) (v := ?_) (a' := ?_) #[true, true, true, true, true, true, true, true, true, true, true, true, true, true, true, true, true, true, true, true, true, true, true, true, true, true, false, false, false, false, false, false] rfl rfl (by kernel_rfl) (fun _ _ _ h => h) (Or.inl ⟨by rfl, ?_⟩) hHeld ?_ ?_
                rotate_left
                · (rintro w' ⟨s0, s1⟩; have d0 : w'.cell? ⟨w.heap.size, 0, none⟩ = some (.slice A1 g.terms.length c1) := (blk_cell s0 0).trans rfl; have d1 : w'.cell? ⟨w.heap.size, 1, none⟩ = some (.slice A2 g.names.length c2) := (blk_cell s0 1).trans rfl; have d2 : w'.cell? ⟨w.heap.size, 2, none⟩ = some (.slice A3 g.rules.length c3) := (blk_cell s0 2).trans rfl; have d3 : w'.cell? ⟨w.heap.size + 1, k, none⟩ = some (.int .i64 z) := (blk_cell s1 k).trans HZ.out; go_simp; with_reducible rfl)
                rotate_left
                · (simp only [Act.put, List.setIfInBounds_toArray, List.set_cons_zero, List.set_cons_succ]; rfl)
                refine one_ (i := 26) (N := (some 66)) #[true, true, true, true, true, true, true, true, true, true, true, true, true, true, true, true, true, true, true, true, true, true, true, true, true, true, true, false, false, false, false, false] rfl rfl (by kernel_rfl) (by decide) (fun K hK => ?_)
                (refine goes_ Try.func25 (by kernel_rfl) rfl #[.agg #[.slice A1 g.terms.length c1, .slice A2 g.names.length c2, .slice A3 g.rules.length c3], .int .i64 z] (by rfl) rfl rfl (by simp [Act.eval]) ?_; refine (term_c g A1 A2 A3 c1 c2 c3 z _).mono ?_; rw [HTM.out]; rintro e w6 ⟨rfl, hb6⟩; refine ⟨_, rfl, ?_⟩; have HK6 := Aside0.mk (HK5.out.drew_.below_ hb6); clear hb6; refine hK.out _ _ ⟨HK6.out.p, HK6.out.q⟩ (fun hHeld => ?_))
                skip
                clear hK K
                refine norm_ (a' := ?_) ?_ ?_
                rotate_left
                · (show Act.put _ (some 66) _ = _; simp only [Act.put, List.setIfInBounds_toArray, List.set_cons_zero, List.set_cons_succ]; rfl)
                refine pure_ (i := 27) (N := (some 67)) (v := ?_) (a' := ?_) #[true, true, true, true, true, true, true, true, true, true, true, true, true, true, true, true, true, true, true, true, true, true, true, true, true, true, true, true, false, false, false, false] rfl rfl (by kernel_rfl) (fun _ _ _ h => h) (Or.inl ⟨by rfl, ?_⟩) ?_ ?_
                rotate_left
                · (intro w'; go_simp; with_reducible rfl)
                rotate_left
                · (simp only [Act.put, List.setIfInBounds_toArray, List.set_cons_zero, List.set_cons_succ]; rfl)
                refine pure_ (i := 28) (N := (some 68)) (v := undef) (a' := ?_) #[true, true, true, true, true, true, true, true, true, true, true, true, true, true, true, true, true, true, true, true, true, true, true, true, true, true, true, true, true, false, false, false] rfl rfl (by kernel_rfl) (fun _ _ _ h => h) (Or.inr ⟨by rfl, rfl⟩) ?_ ?_
                rotate_left
                · (simp only [Act.put, List.setIfInBounds_toArray, List.set_cons_zero, List.set_cons_succ]; rfl)
                refine pure_ (i := 29) (N := (some 69)) (v := undef) (a' := ?_) #[true, true, true, true, true, true, true, true, true, true, true, true, true, true, true, true, true, true, true, true, true, true, true, true, true, true, true, true, true, true, false, false] rfl rfl (by kernel_rfl) (fun _ _ _ h => h) (Or.inr ⟨by rfl, rfl⟩) ?_ ?_
                rotate_left
                · (simp only [Act.put, List.setIfInBounds_toArray, List.set_cons_zero, List.set_cons_succ]; rfl)
                refine pure_ (i := 30) (N := (some 70)) (v := ?_) (a' := ?_) #[true, true, true, true, true, true, true, true, true, true, true, true, true, true, true, true, true, true, true, true, true, true, true, true, true, true, true, true, true, true, true, false] rfl rfl (by kernel_rfl) (fun _ _ _ h => h) (Or.inl ⟨by rfl, ?_⟩) ?_ ?_
                rotate_left
                · (intro w'; go_simp; with_reducible rfl)
                rotate_left
                · (simp only [Act.put, List.setIfInBounds_toArray, List.set_cons_zero, List.set_cons_succ]; rfl)
                refine pure_ (i := 31) (N := (some 71)) (v := ?_) (a' := ?_) #[true, true, true, true, true, true, true, true, true, true, true, true, true, true, true, true, true, true, true, true, true, true, true, true, true, true, true, true, true, true, true, true] rfl rfl (by kernel_rfl) (fun _ _ _ h => h) (Or.inl ⟨by rfl, ?_⟩) ?_ ?_
                rotate_left
                · (intro w'; go_simp; with_reducible rfl)
                rotate_left
                · (simp only [Act.put, List.setIfInBounds_toArray, List.set_cons_zero, List.set_cons_succ]; rfl)
                refine done_ (by kernel_rfl) ?_
                go_wp2
                go_roundw
                case rel => exact ⟨k + 1, by omega, by go_num, HK6⟩
                case measure => simp [intOf]; omega
            · have HNM := Aside0.mk (name_out (g := g) (z := z) (Or.inr (by omega))).1
              have HTM := Aside0.mk (name_out (g := g) (z := z) (Or.inr (by omega))).2
              have dz : decide (z < (g.terms.length : Int) + (g.names.length : Int)) = false := decide_eq_false z1
              go_wp2
              refine start_ (n := 10) (S := fun w' => w'.heap[w.heap.size]? = some (.cells #[.slice A1 g.terms.length c1, .slice A2 g.names.length c2, .slice A3 g.rules.length c3] 25 (0, 0)) ∧ w'.heap[w.heap.size + 1]? = some (.cells #[.int .i64 x, .int .i64 y] 52 (0, 0))) (ds := []) #[false, false, false, false, false, false, false, false, false, false] (by kernel_rfl) rfl rfl (⟨HK.out.drew_.p, HK.out.drew_.q⟩) (fun hHeld => ?_)
              refine pure_ (i := 1) (N := (some 34)) (v := ?_) (a' := ?_) #[false, true, false, false, false, false, false, false, false, false] rfl rfl (by kernel_rfl) (fun _ _ _ h => h) (Or.inl ⟨by rfl, ?_⟩) ?_ ?_
              rotate_left
              · (intro w'; go_simp; with_reducible rfl)
              rotate_left
              · (simp only [Act.put, List.setIfInBounds_toArray, List.set_cons_zero, List.set_cons_succ]; rfl)
              refine pure_ (i := 2) (N := (some 35)) (v := ?_) (a' := ?_) #[false, true, true, false, false, false, false, false, false, false] rfl rfl (by kernel_rfl) (fun _ _ _ h => h) (Or.inl ⟨by rfl, ?_⟩) ?_ ?_
              rotate_left
              · (intro w'; go_simp; with_reducible rfl)
              rotate_left
              · (simp only [Act.put, List.setIfInBounds_toArray, List.set_cons_zero, List.set_cons_succ]; rfl)
              refine take_ (i := 0) (N := (some 33)) (v := ?_) (a' := ?_) #[true, true, true, false, false, false, false, false, false, false] rfl rfl (by kernel_rfl) (fun _ _ _ h => h) (Or.inl ⟨by rfl, ?_⟩) hHeld ?_ ?_
              rotate_left
              · (rintro w' ⟨s0, s1⟩; have d0 : w'.cell? ⟨w.heap.size, 0, none⟩ = some (.slice A1 g.terms.length c1) := (blk_cell s0 0).trans rfl; have d1 : w'.cell? ⟨w.heap.size, 1, none⟩ = some (.slice A2 g.names.length c2) := (blk_cell s0 1).trans rfl; have d2 : w'.cell? ⟨w.heap.size, 2, none⟩ = some (.slice A3 g.rules.length c3) := (blk_cell s0 2).trans rfl; have d3 : w'.cell? ⟨w.heap.size + 1, k, none⟩ = some (.int .i64 z) := (blk_cell s1 k).trans HZ.out; go_simp; with_reducible rfl)
              rotate_left
              · (simp only [Act.put, List.setIfInBounds_toArray, List.set_cons_zero, List.set_cons_succ]; rfl)
              refine take_ (i := 3) (N := (some 36)) (v := ?_) (a' := ?_) #[true, true, true, true, false, false, false, false, false, false] rfl rfl (by kernel_rfl) (fun _ _ _ h => h) (Or.inl ⟨by rfl, ?_⟩) hHeld ?_ ?_
              rotate_left
              · (rintro w' ⟨s0, s1⟩; have d0 : w'.cell? ⟨w.heap.size, 0, none⟩ = some (.slice A1 g.terms.length c1) := (blk_cell s0 0).trans rfl; have d1 : w'.cell? ⟨w.heap.size, 1, none⟩ = some (.slice A2 g.names.length c2) := (blk_cell s0 1).trans rfl; have d2 : w'.cell? ⟨w.heap.size, 2, none⟩ = some (.slice A3 g.rules.length c3) := (blk_cell s0 2).trans rfl; have d3 : w'.cell? ⟨w.heap.size + 1, k, none⟩ = some (.int .i64 z) := (blk_cell s1 k).trans HZ.out; go_simp; with_reducible rfl)
              rotate_left
              · (simp only [Act.put, List.setIfInBounds_toArray, List.set_cons_zero, List.set_cons_succ]; rfl)
              refine one_ (i := 4) (N := (some 37)) #[true, true, true, true, true, false, false, false, false, false] rfl rfl (by kernel_rfl) (by decide) (fun K hK => ?_)
              (refine goes_ Try.func20 (by kernel_rfl) rfl #[.agg #[.slice A1 g.terms.length c1, .slice A2 g.names.length c2, .slice A3 g.rules.length c3], .int .i64 z] (by rfl) rfl rfl (by simp [Act.eval]) ?_; refine (name_c g A1 A2 A3 c1 c2 c3 z _ (HK.out.drew_).rep hsz hzb).mono ?_; rw [HNM.out]; rintro e w5 ⟨he, hb5⟩; obtain rfl : e = .returned (.tuple #[.string ⟨#[]⟩, .bool false]) := he; refine ⟨_, rfl, ?_⟩; have HK5 := Aside0.mk (HK.out.drew_.below_ hb5); clear hb5; refine hK.out _ _ ⟨HK5.out.p, HK5.out.q⟩ (fun hHeld => ?_))
              skip
              clear hK K
              refine norm_ (a' := ?_) ?_ ?_
              rotate_left
              · (show Act.put _ (some 37) _ = _; simp only [Act.put, List.setIfInBounds_toArray, List.set_cons_zero, List.set_cons_succ]; rfl)
              refine pure_ (i := 5) (N := (some 32)) (v := ?_) (a' := ?_) #[true, true, true, true, true, true, false, false, false, false] rfl rfl (by kernel_rfl) (fun _ _ _ h => h) (Or.inl ⟨by rfl, ?_⟩) ?_ ?_
              rotate_left
              · (intro w'; go_simp; with_reducible rfl)
              rotate_left
              · (simp only [Act.put, List.setIfInBounds_toArray, List.set_cons_zero, List.set_cons_succ]; rfl)
              refine pure_ (i := 6) (N := (some 38)) (v := ?_) (a' := ?_) #[true, true, true, true, true, true, true, false, false, false] rfl rfl (by kernel_rfl) (fun _ _ _ h => h) (Or.inl ⟨by rfl, ?_⟩) ?_ ?_
              rotate_left
              · (intro w'; go_simp; with_reducible rfl)
              rotate_left
              · (simp only [Act.put, List.setIfInBounds_toArray, List.set_cons_zero, List.set_cons_succ]; rfl)
              refine pure_ (i := 7) (N := (some 39)) (v := ?_) (a' := ?_) #[true, true, true, true, true, true, true, true, false, false] rfl rfl (by kernel_rfl) (fun _ _ _ h => h) (Or.inl ⟨by rfl, ?_⟩) ?_ ?_
              rotate_left
              · (intro w'; go_simp; with_reducible rfl)
              rotate_left
              · (simp only [Act.put, List.setIfInBounds_toArray, List.set_cons_zero, List.set_cons_succ]; rfl)
              refine pure_ (i := 8) (N := (some 7)) (v := ?_) (a' := ?_) #[true, true, true, true, true, true, true, true, true, false] rfl rfl (by kernel_rfl) (fun _ _ _ h => h) (Or.inl ⟨by rfl, ?_⟩) ?_ ?_
              rotate_left
              · (intro w'; go_simp; with_reducible rfl)
              rotate_left
              · (simp only [Act.put, List.setIfInBounds_toArray, List.set_cons_zero, List.set_cons_succ]; rfl)
              refine pure_ (i := 9) (N := (some 8)) (v := ?_) (a' := ?_) #[true, true, true, true, true, true, true, true, true, true] rfl rfl (by kernel_rfl) (fun _ _ _ h => h) (Or.inl ⟨by rfl, ?_⟩) ?_ ?_
              rotate_left
              · (intro w'; go_simp; with_reducible rfl)
              rotate_left
              · (simp only [Act.put, List.setIfInBounds_toArray, List.set_cons_zero, List.set_cons_succ]; rfl)
              refine done_ (by kernel_rfl) ?_
              go_wp2
              refine start_ (n := 32) (S := fun w' => w'.heap[w.heap.size]? = some (.cells #[.slice A1 g.terms.length c1, .slice A2 g.names.length c2, .slice A3 g.rules.length c3] 25 (0, 0)) ∧ w'.heap[w.heap.size + 1]? = some (.cells #[.int .i64 x, .int .i64 y] 52 (0, 0))) (ds := []) #[false, false, false, false, false, false, false, false, false, false, false, false, false, false, false, false, false, false, false, false, false, false, false, false, false, false, false, false, false, false, false, false] (by kernel_rfl) rfl rfl (⟨HK5.out.drew_.p, HK5.out.drew_.q⟩) (fun hHeld => ?_)
              refine pure_ (i := 0) (N := (some 40)) (v := ?_) (a' := ?_) #[true, false, false, false, false, false, false, false, false, false, false, false, false, false, false, false, false, false, false, false, false, false, false, false, false, false, false, false, false, false, false, false] rfl rfl (by kernel_rfl) (fun _ _ _ h => h) (Or.inl ⟨by rfl, ?_⟩) ?_ ?_
              rotate_left
              · (intro w'; go_simp; with_reducible rfl)
              rotate_left
              · (simp only [Act.put, List.setIfInBounds_toArray, List.set_cons_zero, List.set_cons_succ]; rfl)
              refine pure_ (i := 1) (N := (some 41)) (v := ?_) (a' := ?_) #[true, true, false, false, false, false, false, false, false, false, false, false, false, false, false, false, false, false, false, false, false, false, false, false, false, false, false, false, false, false, false, false] rfl rfl (by kernel_rfl) (fun _ _ _ h => h) (Or.inl ⟨by rfl, ?_⟩) ?_ ?_
              rotate_left
              · (intro w'; go_simp; with_reducible rfl)
              rotate_left
              · (simp only [Act.put, List.setIfInBounds_toArray, List.set_cons_zero, List.set_cons_succ]; rfl)
              refine pure_ (i := 2) (N := (some 42)) (v := ?_) (a' := ?_) #[true, true, true, false, false, false, false, false, false, false, false, false, false, false, false, false, false, false, false, false, false, false, false, false, false, false, false, false, false, false, false, false] rfl rfl (by kernel_rfl) (fun _ _ _ h => h) (Or.inl ⟨by rfl, ?_⟩) ?_ ?_
              rotate_left
              · (intro w'; go_simp; with_reducible rfl)
              rotate_left
              · (simp only [Act.put, List.setIfInBounds_toArray, List.set_cons_zero, List.set_cons_succ]; rfl)
              refine take_ (i := 3) (N := (some 43)) (v := ?_) (a' := ?_) #[true, true, true, true, false, false, false, false, false, false, false, false, false, false, false, false, false, false, false, false, false, false, false, false, false, false, false, false, false, false, false, false] rfl rfl (by kernel_rfl) (fun _ _ _ h => h) (Or.inl ⟨by rfl, ?_⟩) hHeld ?_ ?_
              rotate_left
              · (rintro w' ⟨s0, s1⟩; have d0 : w'.cell? ⟨w.heap.size, 0, none⟩ = some (.slice A1 g.terms.length c1) := (blk_cell s0 0).trans rfl; have d1 : w'.cell? ⟨w.heap.size, 1, none⟩ = some (.slice A2 g.names.length c2) := (blk_cell s0 1).trans rfl; have d2 : w'.cell? ⟨w.heap.size, 2, none⟩ = some (.slice A3 g.rules.length c3) := (blk_cell s0 2).trans rfl; have d3 : w'.cell? ⟨w.heap.size + 1, k, none⟩ = some (.int .i64 z) := (blk_cell s1 k).trans HZ.out; go_simp; with_reducible rfl)
              rotate_left
              · (simp only [Act.put, List.setIfInBounds_toArray, List.set_cons_zero, List.set_cons_succ]; rfl)
              refine pure_ (i := 4) (N := (some 44)) (v := ?_) (a' := ?_) #[true, true, true, true, true, false, false, false, false, false, false, false, false, false, false, false, false, false, false, false, false, false, false, false, false, false, false, false, false, false, false, false] rfl rfl (by kernel_rfl) (fun _ _ _ h => h) (Or.inl ⟨by rfl, ?_⟩) ?_ ?_
              rotate_left
              · (intro w'; go_simp; with_reducible rfl)
              rotate_left
              · (simp only [Act.put, List.setIfInBounds_toArray, List.set_cons_zero, List.set_cons_succ]; rfl)
              refine pure_ (i := 5) (N := (some 45)) (v := ?_) (a' := ?_) #[true, true, true, true, true, true, false, false, false, false, false, false, false, false, false, false, false, false, false, false, false, false, false, false, false, false, false, false, false, false, false, false] rfl rfl (by kernel_rfl) (fun _ _ _ h => h) (Or.inl ⟨by rfl, ?_⟩) ?_ ?_
              rotate_left
              · (intro w'; go_simp; with_reducible rfl)
              rotate_left
              · (simp only [Act.put, List.setIfInBounds_toArray, List.set_cons_zero, List.set_cons_succ]; rfl)
              refine pure_ (i := 6) (N := (some 46)) (v := ?_) (a' := ?_) #[true, true, true, true, true, true, true, false, false, false, false, false, false, false, false, false, false, false, false, false, false, false, false, false, false, false, false, false, false, false, false, false] rfl rfl (by kernel_rfl) (fun _ _ _ h => h) (Or.inl ⟨by rfl, ?_⟩) ?_ ?_
              rotate_left
              · (intro w'; go_simp; with_reducible rfl)
              rotate_left
              · (simp only [Act.put, List.setIfInBounds_toArray, List.set_cons_zero, List.set_cons_succ]; rfl)
              refine pure_ (i := 7) (N := (some 47)) (v := ?_) (a' := ?_) #[true, true, true, true, true, true, true, true, false, false, false, false, false, false, false, false, false, false, false, false, false, false, false, false, false, false, false, false, false, false, false, false] rfl rfl (by kernel_rfl) (fun _ _ _ h => h) (Or.inl ⟨by rfl, ?_⟩) ?_ ?_
              rotate_left
              · (intro w'; go_simp; with_reducible rfl)
              rotate_left
              · (simp only [Act.put, List.setIfInBounds_toArray, List.set_cons_zero, List.set_cons_succ]; rfl)
              refine pure_ (i := 9) (N := (some 49)) (v := ?_) (a' := ?_) #[true, true, true, true, true, true, true, true, false, true, false, false, false, false, false, false, false, false, false, false, false, false, false, false, false, false, false, false, false, false, false, false] rfl rfl (by kernel_rfl) (fun _ _ _ h => h) (Or.inl ⟨by rfl, ?_⟩) ?_ ?_
              rotate_left
              · (intro w'; go_simp; with_reducible rfl)
              rotate_left
              · (simp only [Act.put, List.setIfInBounds_toArray, List.set_cons_zero, List.set_cons_succ]; rfl)
              refine take_ (i := 8) (N := (some 48)) (v := ?_) (a' := ?_) #[true, true, true, true, true, true, true, true, true, true, false, false, false, false, false, false, false, false, false, false, false, false, false, false, false, false, false, false, false, false, false, false] rfl rfl (by kernel_rfl) (fun _ _ _ h => h) (Or.inl ⟨by rfl, ?_⟩) hHeld ?_ ?_
              rotate_left
              · (rintro w' ⟨s0, s1⟩; have d0 : w'.cell? ⟨w.heap.size, 0, none⟩ = some (.slice A1 g.terms.length c1) := (blk_cell s0 0).trans rfl; have d1 : w'.cell? ⟨w.heap.size, 1, none⟩ = some (.slice A2 g.names.length c2) := (blk_cell s0 1).trans rfl; have d2 : w'.cell? ⟨w.heap.size, 2, none⟩ = some (.slice A3 g.rules.length c3) := (blk_cell s0 2).trans rfl; have d3 : w'.cell? ⟨w.heap.size + 1, k, none⟩ = some (.int .i64 z) := (blk_cell s1 k).trans HZ.out; go_simp; with_reducible rfl)
              rotate_left
              · (simp only [Act.put, List.setIfInBounds_toArray, List.set_cons_zero, List.set_cons_succ]; rfl)
              refine pure_ (i := 10) (N := (some 50)) (v := ?_) (a' := ?_) #[true, true, true, true, true, true, true, true, true, true, true, false, false, false, false, false, false, false, false, false, false, false, false, false, false, false, false, false, false, false, false, false] rfl rfl (by kernel_rfl) (fun _ _ _ h => h) (Or.inl ⟨by rfl, ?_⟩) ?_ ?_
              rotate_left
              · (intro w'; go_simp; with_reducible rfl)
              rotate_left
              · (simp only [Act.put, List.setIfInBounds_toArray, List.set_cons_zero, List.set_cons_succ]; rfl)
              refine pure_ (i := 11) (N := (some 51)) (v := ?_) (a' := ?_) #[true, true, true, true, true, true, true, true, true, true, true, true, false, false, false, false, false, false, false, false, false, false, false, false, false, false, false, false, false, false, false, false] rfl rfl (by kernel_rfl) (fun _ _ _ h => h) (Or.inl ⟨by rfl, ?_⟩) ?_ ?_
              rotate_left
              · (intro w'; go_simp; with_reducible rfl)
              rotate_left
              · (simp only [Act.put, List.setIfInBounds_toArray, List.set_cons_zero, List.set_cons_succ]; rfl)
              refine pure_ (i := 12) (N := (some 52)) (v := ?_) (a' := ?_) #[true, true, true, true, true, true, true, true, true, true, true, true, true, false, false, false, false, false, false, false, false, false, false, false, false, false, false, false, false, false, false, false] rfl rfl (by kernel_rfl) (fun _ _ _ h => h) (Or.inl ⟨by rfl, ?_⟩) ?_ ?_
              rotate_left
              · (intro w'; go_simp; with_reducible rfl)
              rotate_left
              · (simp only [Act.put, List.setIfInBounds_toArray, List.set_cons_zero, List.set_cons_succ]; rfl)
              refine pure_ (i := 13) (N := (some 53)) (v := ?_) (a' := ?_) #[true, true, true, true, true, true, true, true, true, true, true, true, true, true, false, false, false, false, false, false, false, false, false, false, false, false, false, false, false, false, false, false] rfl rfl (by kernel_rfl) (fun _ _ _ h => h) (Or.inl ⟨by rfl, ?_⟩) ?_ ?_
              rotate_left
              · (intro w'; go_simp; with_reducible rfl)
              rotate_left
              · (simp only [Act.put, List.setIfInBounds_toArray, List.set_cons_zero, List.set_cons_succ]; rfl)
              refine pure_ (i := 14) (N := (some 54)) (v := ?_) (a' := ?_) #[true, true, true, true, true, true, true, true, true, true, true, true, true, true, true, false, false, false, false, false, false, false, false, false, false, false, false, false, false, false, false, false] rfl rfl (by kernel_rfl) (fun _ _ _ h => h) (Or.inl ⟨by rfl, ?_⟩) ?_ ?_
              rotate_left
              · (intro w'; go_simp; with_reducible rfl)
              rotate_left
              · (simp only [Act.put, List.setIfInBounds_toArray, List.set_cons_zero, List.set_cons_succ]; rfl)
              refine pure_ (i := 15) (N := (some 55)) (v := ?_) (a' := ?_) #[true, true, true, true, true, true, true, true, true, true, true, true, true, true, true, true, false, false, false, false, false, false, false, false, false, false, false, false, false, false, false, false] rfl rfl (by kernel_rfl) (fun _ _ _ h => h) (Or.inl ⟨by rfl, ?_⟩) ?_ ?_
              rotate_left
              · (intro w'; go_simp; with_reducible rfl)
              rotate_left
              · (simp only [Act.put, List.setIfInBounds_toArray, List.set_cons_zero, List.set_cons_succ]; rfl)
              refine pure_ (i := 16) (N := (some 56)) (v := ?_) (a' := ?_) #[true, true, true, true, true, true, true, true, true, true, true, true, true, true, true, true, true, false, false, false, false, false, false, false, false, false, false, false, false, false, false, false] rfl rfl (by kernel_rfl) (fun _ _ _ h => h) (Or.inl ⟨by rfl, ?_⟩) ?_ ?_
              rotate_left
              · (intro w'; go_simp; with_reducible rfl)
              rotate_left
              · (simp only [Act.put, List.setIfInBounds_toArray, List.set_cons_zero, List.set_cons_succ]; rfl)
              refine pure_ (i := 17) (N := (some 57)) (v := ?_) (a' := ?_) #[true, true, true, true, true, true, true, true, true, true, true, true, true, true, true, true, true, true, false, false, false, false, false, false, false, false, false, false, false, false, false, false] rfl rfl (by kernel_rfl) (fun _ _ _ h => h) (Or.inl ⟨by rfl, ?_⟩) ?_ ?_
              rotate_left
              · (intro w'; go_simp; with_reducible rfl)
              rotate_left
              · (simp only [Act.put, List.setIfInBounds_toArray, List.set_cons_zero, List.set_cons_succ]; rfl)
              refine pure_ (i := 18) (N := (some 58)) (v := ?_) (a' := ?_) #[true, true, true, true, true, true, true, true, true, true, true, true, true, true, true, true, true, true, true, false, false, false, false, false, false, false, false, false, false, false, false, false] rfl rfl (by kernel_rfl) (fun _ _ _ h => h) (Or.inl ⟨by rfl, ?_⟩) ?_ ?_
              rotate_left
              · (intro w'; go_simp; with_reducible rfl)
              rotate_left
              · (simp only [Act.put, List.setIfInBounds_toArray, List.set_cons_zero, List.set_cons_succ]; rfl)
              refine pure_ (i := 19) (N := (some 59)) (v := ?_) (a' := ?_) #[true, true, true, true, true, true, true, true, true, true, true, true, true, true, true, true, true, true, true, true, false, false, false, false, false, false, false, false, false, false, false, false] rfl rfl (by kernel_rfl) (fun _ _ _ h => h) (Or.inl ⟨by rfl, ?_⟩) ?_ ?_
              rotate_left
              · (intro w'; go_simp; with_reducible rfl)
              rotate_left
              · (simp only [Act.put, List.setIfInBounds_toArray, List.set_cons_zero, List.set_cons_succ]; rfl)
              refine pure_ (i := 20) (N := (some 60)) (v := ?_) (a' := ?_) #[true, true, true, true, true, true, true, true, true, true, true, true, true, true, true, true, true, true, true, true, true, false, false, false, false, false, false, false, false, false, false, false] rfl rfl (by kernel_rfl) (fun _ _ _ h => h) (Or.inl ⟨by rfl, ?_⟩) ?_ ?_
              rotate_left
              · (intro w'; go_simp; with_reducible rfl)
              rotate_left
              · (simp only [Act.put, List.setIfInBounds_toArray, List.set_cons_zero, List.set_cons_succ]; rfl)
              refine pure_ (i := 21) (N := (some 61)) (v := ?_) (a' := ?_) #[true, true, true, true, true, true, true, true, true, true, true, true, true, true, true, true, true, true, true, true, true, true, false, false, false, false, false, false, false, false, false, false] rfl rfl (by kernel_rfl) (fun _ _ _ h => h) (Or.inl ⟨by rfl, ?_⟩) ?_ ?_
              rotate_left
              · (intro w'; go_simp; with_reducible rfl)
              rotate_left
              · (simp only [Act.put, List.setIfInBounds_toArray, List.set_cons_zero, List.set_cons_succ]; rfl)
              refine pure_ (i := 23) (N := (some 63)) (v := ?_) (a' := ?_) #[true, true, true, true, true, true, true, true, true, true, true, true, true, true, true, true, true, true, true, true, true, true, false, true, false, false, false, false, false, false, false, false] rfl rfl (by kernel_rfl) (fun _ _ _ h => h) (Or.inl ⟨by rfl, ?_⟩) ?_ ?_
              rotate_left
              · (intro w'; go_simp; with_reducible rfl)
              rotate_left
              · (simp only [Act.put, List.setIfInBounds_toArray, List.set_cons_zero, List.set_cons_succ]; rfl)
              refine pure_ (i := 24) (N := (some 64)) (v := ?_) (a' := ?_) #[true, true, true, true, true, true, true, true, true, true, true, true, true, true, true, true, true, true, true, true, true, true, false, true, true, false, false, false, false, false, false, false] rfl rfl (by kernel_rfl) (fun _ _ _ h => h) (Or.inl ⟨by rfl, ?_⟩) ?_ ?_
              rotate_left
              · (intro w'; go_simp; with_reducible rfl)
              rotate_left
              · (simp only [Act.put, List.setIfInBounds_toArray, List.set_cons_zero, List.set_cons_succ]; rfl)
              refine take_ (i := 22) (N := (some 62)) (v := ?_) (a' := ?_) #[true, true, true, true, true, true, true, true, true, true, true, true, true, true, true, true, true, true, true, true, true, true, true, true, true, false, false, false, false, false, false, false] rfl rfl (by kernel_rfl) (fun _ _ _ h => h) (Or.inl ⟨by rfl, ?_⟩) hHeld ?_ ?_
              rotate_left
              · (rintro w' ⟨s0, s1⟩; have d0 : w'.cell? ⟨w.heap.size, 0, none⟩ = some (.slice A1 g.terms.length c1) := (blk_cell s0 0).trans rfl; have d1 : w'.cell? ⟨w.heap.size, 1, none⟩ = some (.slice A2 g.names.length c2) := (blk_cell s0 1).trans rfl; have d2 : w'.cell? ⟨w.heap.size, 2, none⟩ = some (.slice A3 g.rules.length c3) := (blk_cell s0 2).trans rfl; have d3 : w'.cell? ⟨w.heap.size + 1, k, none⟩ = some (.int .i64 z) := (blk_cell s1 k).trans HZ.out; go_simp; with_reducible rfl)
              rotate_left
              · (simp only [Act.put, List.setIfInBounds_toArray, List.set_cons_zero, List.set_cons_succ]; rfl)
              refine take_ (i := 25) (N := (some 65)) (v := ?_) (a' := ?_) #[true, true, true, true, true, true, true, true, true, true, true, true, true, true, true, true, true, true, true, true, true, true, true, true, true, true, false, false, false, false, false, false] rfl rfl (by kernel_rfl) (fun _ _ _ h => h) (Or.inl ⟨by rfl, ?_⟩) hHeld ?_ ?_
              rotate_left
              · (rintro w' ⟨s0, s1⟩; have d0 : w'.cell? ⟨w.heap.size, 0, none⟩ = some (.slice A1 g.terms.length c1) := (blk_cell s0 0).trans rfl; have d1 : w'.cell? ⟨w.heap.size, 1, none⟩ = some (.slice A2 g.names.length c2) := (blk_cell s0 1).trans rfl; have d2 : w'.cell? ⟨w.heap.size, 2, none⟩ = some (.slice A3 g.rules.length c3) := (blk_cell s0 2).trans rfl; have d3 : w'.cell? ⟨w.heap.size + 1, k, none⟩ = some (.int .i64 z) := (blk_cell s1 k).trans HZ.out; go_simp; with_reducible rfl)
              rotate_left
              · (simp only [Act.put, List.setIfInBounds_toArray, List.set_cons_zero, List.set_cons_succ]; rfl)
              refine one_ (i := 26) (N := (some 66)) #[true, true, true, true, true, true, true, true, true, true, true, true, true, true, true, true, true, true, true, true, true, true, true, true, true, true, true, false, false, false, false, false] rfl rfl (by kernel_rfl) (by decide) (fun K hK => ?_)
              (refine goes_ Try.func25 (by kernel_rfl) rfl #[.agg #[.slice A1 g.terms.length c1, .slice A2 g.names.length c2, .slice A3 g.rules.length c3], .int .i64 z] (by rfl) rfl rfl (by simp [Act.eval]) ?_; refine (term_c g A1 A2 A3 c1 c2 c3 z _).mono ?_; rw [HTM.out]; rintro e w6 ⟨rfl, hb6⟩; refine ⟨_, rfl, ?_⟩; have HK6 := Aside0.mk (HK5.out.drew_.below_ hb6); clear hb6; refine hK.out _ _ ⟨HK6.out.p, HK6.out.q⟩ (fun hHeld => ?_))
              skip
              clear hK K
              refine norm_ (a' := ?_) ?_ ?_
              rotate_left
              · (show Act.put _ (some 66) _ = _; simp only [Act.put, List.setIfInBounds_toArray, List.set_cons_zero, List.set_cons_succ]; rfl)
              refine pure_ (i := 27) (N := (some 67)) (v := ?_) (a' := ?_) #[true, true, true, true, true, true, true, true, true, true, true, true, true, true, true, true, true, true, true, true, true, true, true, true, true, true, true, true, false, false, false, false] rfl rfl (by kernel_rfl) (fun _ _ _ h => h) (Or.inl ⟨by rfl, ?_⟩) ?_ ?_
              rotate_left
              · (intro w'; go_simp; with_reducible rfl)
              rotate_left
              · (simp only [Act.put, List.setIfInBounds_toArray, List.set_cons_zero, List.set_cons_succ]; rfl)
              refine pure_ (i := 28) (N := (some 68)) (v := undef) (a' := ?_) #[true, true, true, true, true, true, true, true, true, true, true, true, true, true, true, true, true, true, true, true, true, true, true, true, true, true, true, true, true, false, false, false] rfl rfl (by kernel_rfl) (fun _ _ _ h => h) (Or.inr ⟨by rfl, rfl⟩) ?_ ?_
              rotate_left
              · (simp only [Act.put, List.setIfInBounds_toArray, List.set_cons_zero, List.set_cons_succ]; rfl)
              refine pure_ (i := 29) (N := (some 69)) (v := undef) (a' := ?_) #[true, true, true, true, true, true, true, true, true, true, true, true, true, true, true, true, true, true, true, true, true, true, true, true, true, true, true, true, true, true, false, false] rfl rfl (by kernel_rfl) (fun _ _ _ h => h) (Or.inr ⟨by rfl, rfl⟩) ?_ ?_
              rotate_left
              · (simp only [Act.put, List.setIfInBounds_toArray, List.set_cons_zero, List.set_cons_succ]; rfl)
              refine pure_ (i := 30) (N := (some 70)) (v := ?_) (a' := ?_) #[true, true, true, true, true, true, true, true, true, true, true, true, true, true, true, true, true, true, true, true, true, true, true, true, true, true, true, true, true, true, true, false] rfl rfl (by kernel_rfl) (fun _ _ _ h => h) (Or.inl ⟨by rfl, ?_⟩) ?_ ?_
              rotate_left
              · (intro w'; go_simp; with_reducible rfl)
              rotate_left
              · (simp only [Act.put, List.setIfInBounds_toArray, List.set_cons_zero, List.set_cons_succ]; rfl)
              refine pure_ (i := 31) (N := (some 71)) (v := ?_) (a' := ?_) #[true, true, true, true, true, true, true, true, true, true, true, true, true, true, true, true, true, true, true, true, true, true, true, true, true, true, true, true, true, true, true, true] rfl rfl (by kernel_rfl) (fun _ _ _ h => h) (Or.inl ⟨by rfl, ?_⟩) ?_ ?_
              rotate_left
              · (intro w'; go_simp; with_reducible rfl)
              rotate_left
              · (simp only [Act.put, List.setIfInBounds_toArray, List.set_cons_zero, List.set_cons_succ]; rfl)
              refine done_ (by kernel_rfl) ?_
              go_wp2
              go_roundw
              case rel => exact ⟨k + 1, by omega, by go_num, HK6⟩
              case measure => simp [intOf]; omega
          · have HNM := Aside0.mk (name_out (g := g) (z := z) (Or.inl (by omega))).1
            have HTM := Aside0.mk (name_out (g := g) (z := z) (Or.inl (by omega))).2
            have dz : decide (0 ≤ z) = false := decide_eq_false z0
            go_wp2
            refine start_ (n := 10) (S := fun w' => w'.heap[w.heap.size]? = some (.cells #[.slice A1 g.terms.length c1, .slice A2 g.names.length c2, .slice A3 g.rules.length c3] 25 (0, 0)) ∧ w'.heap[w.heap.size + 1]? = some (.cells #[.int .i64 x, .int .i64 y] 52 (0, 0))) (ds := []) #[false, false, false, false, false, false, false, false, false, false] (by kernel_rfl) rfl rfl (⟨HK.out.drew_.p, HK.out.drew_.q⟩) (fun hHeld => ?_)
            refine pure_ (i := 1) (N := (some 34)) (v := ?_) (a' := ?_) #[false, true, false, false, false, false, false, false, false, false] rfl rfl (by kernel_rfl) (fun _ _ _ h => h) (Or.inl ⟨by rfl, ?_⟩) ?_ ?_
            rotate_left
            · (intro w'; go_simp; with_reducible rfl)
            rotate_left
            · (simp only [Act.put, List.setIfInBounds_toArray, List.set_cons_zero, List.set_cons_succ]; rfl)
            refine pure_ (i := 2) (N := (some 35)) (v := ?_) (a' := ?_) #[false, true, true, false, false, false, false, false, false, false] rfl rfl (by kernel_rfl) (fun _ _ _ h => h) (Or.inl ⟨by rfl, ?_⟩) ?_ ?_
            rotate_left
            · (intro w'; go_simp; with_reducible rfl)
            rotate_left
            · (simp only [Act.put, List.setIfInBounds_toArray, List.set_cons_zero, List.set_cons_succ]; rfl)
            refine take_ (i := 0) (N := (some 33)) (v := ?_) (a' := ?_) #[true, true, true, false, false, false, false, false, false, false] rfl rfl (by kernel_rfl) (fun _ _ _ h => h) (Or.inl ⟨by rfl, ?_⟩) hHeld ?_ ?_
            rotate_left
            · (rintro w' ⟨s0, s1⟩; have d0 : w'.cell? ⟨w.heap.size, 0, none⟩ = some (.slice A1 g.terms.length c1) := (blk_cell s0 0).trans rfl; have d1 : w'.cell? ⟨w.heap.size, 1, none⟩ = some (.slice A2 g.names.length c2) := (blk_cell s0 1).trans rfl; have d2 : w'.cell? ⟨w.heap.size, 2, none⟩ = some (.slice A3 g.rules.length c3) := (blk_cell s0 2).trans rfl; have d3 : w'.cell? ⟨w.heap.size + 1, k, none⟩ = some (.int .i64 z) := (blk_cell s1 k).trans HZ.out; go_simp; with_reducible rfl)
            rotate_left
            · (simp only [Act.put, List.setIfInBounds_toArray, List.set_cons_zero, List.set_cons_succ]; rfl)
            refine take_ (i := 3) (N := (some 36)) (v := ?_) (a' := ?_) #[true, true, true, true, false, false, false, false, false, false] rfl rfl (by kernel_rfl) (fun _ _ _ h => h) (Or.inl ⟨by rfl, ?_⟩) hHeld ?_ ?_
            rotate_left
            · (rintro w' ⟨s0, s1⟩; have d0 : w'.cell? ⟨w.heap.size, 0, none⟩ = some (.slice A1 g.terms.length c1) := (blk_cell s0 0).trans rfl; have d1 : w'.cell? ⟨w.heap.size, 1, none⟩ = some (.slice A2 g.names.length c2) := (blk_cell s0 1).trans rfl; have d2 : w'.cell? ⟨w.heap.size, 2, none⟩ = some (.slice A3 g.rules.length c3) := (blk_cell s0 2).trans rfl; have d3 : w'.cell? ⟨w.heap.size + 1, k, none⟩ = some (.int .i64 z) := (blk_cell s1 k).trans HZ.out; go_simp; with_reducible rfl)
            rotate_left
            · (simp only [Act.put, List.setIfInBounds_toArray, List.set_cons_zero, List.set_cons_succ]; rfl)
            refine one_ (i := 4) (N := (some 37)) #[true, true, true, true, true, false, false, false, false, false] rfl rfl (by kernel_rfl) (by decide) (fun K hK => ?_)
            (refine goes_ Try.func20 (by kernel_rfl) rfl #[.agg #[.slice A1 g.terms.length c1, .slice A2 g.names.length c2, .slice A3 g.rules.length c3], .int .i64 z] (by rfl) rfl rfl (by simp [Act.eval]) ?_; refine (name_c g A1 A2 A3 c1 c2 c3 z _ (HK.out.drew_).rep hsz hzb).mono ?_; rw [HNM.out]; rintro e w5 ⟨he, hb5⟩; obtain rfl : e = .returned (.tuple #[.string ⟨#[]⟩, .bool false]) := he; refine ⟨_, rfl, ?_⟩; have HK5 := Aside0.mk (HK.out.drew_.below_ hb5); clear hb5; refine hK.out _ _ ⟨HK5.out.p, HK5.out.q⟩ (fun hHeld => ?_))
            skip
            clear hK K
            refine norm_ (a' := ?_) ?_ ?_
            rotate_left
            · (show Act.put _ (some 37) _ = _; simp only [Act.put, List.setIfInBounds_toArray, List.set_cons_zero, List.set_cons_succ]; rfl)
            refine pure_ (i := 5) (N := (some 32)) (v := ?_) (a' := ?_) #[true, true, true, true, true, true, false, false, false, false] rfl rfl (by kernel_rfl) (fun _ _ _ h => h) (Or.inl ⟨by rfl, ?_⟩) ?_ ?_
            rotate_left
            · (intro w'; go_simp; with_reducible rfl)
            rotate_left
            · (simp only [Act.put, List.setIfInBounds_toArray, List.set_cons_zero, List.set_cons_succ]; rfl)
            refine pure_ (i := 6) (N := (some 38)) (v := ?_) (a' := ?_) #[true, true, true, true, true, true, true, false, false, false] rfl rfl (by kernel_rfl) (fun _ _ _ h => h) (Or.inl ⟨by rfl, ?_⟩) ?_ ?_
            rotate_left
            · (intro w'; go_simp; with_reducible rfl)
            rotate_left
            · (simp only [Act.put, List.setIfInBounds_toArray, List.set_cons_zero, List.set_cons_succ]; rfl)
            refine pure_ (i := 7) (N := (some 39)) (v := ?_) (a' := ?_) #[true, true, true, true, true, true, true, true, false, false] rfl rfl (by kernel_rfl) (fun _ _ _ h => h) (Or.inl ⟨by rfl, ?_⟩) ?_ ?_
            rotate_left
            · (intro w'; go_simp; with_reducible rfl)
            rotate_left
            · (simp only [Act.put, List.setIfInBounds_toArray, List.set_cons_zero, List.set_cons_succ]; rfl)
            refine pure_ (i := 8) (N := (some 7)) (v := ?_) (a' := ?_) #[true, true, true, true, true, true, true, true, true, false] rfl rfl (by kernel_rfl) (fun _ _ _ h => h) (Or.inl ⟨by rfl, ?_⟩) ?_ ?_
            rotate_left
            · (intro w'; go_simp; with_reducible rfl)
            rotate_left
            · (simp only [Act.put, List.setIfInBounds_toArray, List.set_cons_zero, List.set_cons_succ]; rfl)
            refine pure_ (i := 9) (N := (some 8)) (v := ?_) (a' := ?_) #[true, true, true, true, true, true, true, true, true, true] rfl rfl (by kernel_rfl) (fun _ _ _ h => h) (Or.inl ⟨by rfl, ?_⟩) ?_ ?_
            rotate_left
            · (intro w'; go_simp; with_reducible rfl)
            rotate_left
            · (simp only [Act.put, List.setIfInBounds_toArray, List.set_cons_zero, List.set_cons_succ]; rfl)
            refine done_ (by kernel_rfl) ?_
            go_wp2
            refine start_ (n := 32) (S := fun w' => w'.heap[w.heap.size]? = some (.cells #[.slice A1 g.terms.length c1, .slice A2 g.names.length c2, .slice A3 g.rules.length c3] 25 (0, 0)) ∧ w'.heap[w.heap.size + 1]? = some (.cells #[.int .i64 x, .int .i64 y] 52 (0, 0))) (ds := []) #[false, false, false, false, false, false, false, false, false, false, false, false, false, false, false, false, false, false, false, false, false, false, false, false, false, false, false, false, false, false, false, false] (by kernel_rfl) rfl rfl (⟨HK5.out.drew_.p, HK5.out.drew_.q⟩) (fun hHeld => ?_)
            refine pure_ (i := 0) (N := (some 40)) (v := ?_) (a' := ?_) #[true, false, false, false, false, false, false, false, false, false, false, false, false, false, false, false, false, false, false, false, false, false, false, false, false, false, false, false, false, false, false, false] rfl rfl (by kernel_rfl) (fun _ _ _ h => h) (Or.inl ⟨by rfl, ?_⟩) ?_ ?_
            rotate_left
            · (intro w'; go_simp; with_reducible rfl)
            rotate_left
            · (simp only [Act.put, List.setIfInBounds_toArray, List.set_cons_zero, List.set_cons_succ]; rfl)
            refine pure_ (i := 1) (N := (some 41)) (v := ?_) (a' := ?_) #[true, true, false, false, false, false, false, false, false, false, false, false, false, false, false, false, false, false, false, false, false, false, false, false, false, false, false, false, false, false, false, false] rfl rfl (by kernel_rfl) (fun _ _ _ h => h) (Or.inl ⟨by rfl, ?_⟩) ?_ ?_
            rotate_left
            · (intro w'; go_simp; with_reducible rfl)
            rotate_left
            · (simp only [Act.put, List.setIfInBounds_toArray, List.set_cons_zero, List.set_cons_succ]; rfl)
            refine pure_ (i := 2) (N := (some 42)) (v := ?_) (a' := ?_) #[true, true, true, false, false, false, false, false, false, false, false, false, false, false, false, false, false, false, false, false, false, false, false, false, false, false, false, false, false, false, false, false] rfl rfl (by kernel_rfl) (fun _ _ _ h => h) (Or.inl ⟨by rfl, ?_⟩) ?_ ?_
            rotate_left
            · (intro w'; go_simp; with_reducible rfl)
            rotate_left
            · (simp only [Act.put, List.setIfInBounds_toArray, List.set_cons_zero, List.set_cons_succ]; rfl)
            refine take_ (i := 3) (N := (some 43)) (v := ?_) (a' := ?_) #[true, true, true, true, false, false, false, false, false, false, false, false, false, false, false, false, false, false, false, false, false, false, false, false, false, false, false, false, false, false, false, false] rfl rfl (by kernel_rfl) (fun _ _ _ h => h) (Or.inl ⟨by rfl, ?_⟩) hHeld ?_ ?_
            rotate_left
            · (rintro w' ⟨s0, s1⟩; have d0 : w'.cell? ⟨w.heap.size, 0, none⟩ = some (.slice A1 g.terms.length c1) := (blk_cell s0 0).trans rfl; have d1 : w'.cell? ⟨w.heap.size, 1, none⟩ = some (.slice A2 g.names.length c2) := (blk_cell s0 1).trans rfl; have d2 : w'.cell? ⟨w.heap.size, 2, none⟩ = some (.slice A3 g.rules.length c3) := (blk_cell s0 2).trans rfl; have d3 : w'.cell? ⟨w.heap.size + 1, k, none⟩ = some (.int .i64 z) := (blk_cell s1 k).trans HZ.out; go_simp; with_reducible rfl)
            rotate_left
            · (simp only [Act.put, List.setIfInBounds_toArray, List.set_cons_zero, List.set_cons_succ]; rfl)
            refine pure_ (i := 4) (N := (some 44)) (v := ?_) (a' := ?_) #[true, true, true, true, true, false, false, false, false, false, false, false, false, false, false, false, false, false, false, false, false, false, false, false, false, false, false, false, false, false, false, false] rfl rfl (by kernel_rfl) (fun _ _ _ h => h) (Or.inl ⟨by rfl, ?_⟩) ?_ ?_
            rotate_left
            · (intro w'; go_simp; with_reducible rfl)
            rotate_left
            · (simp only [Act.put, List.setIfInBounds_toArray, List.set_cons_zero, List.set_cons_succ]; rfl)
            refine pure_ (i := 5) (N := (some 45)) (v := ?_) (a' := ?_) #[true, true, true, true, true, true, false, false, false, false, false, false, false, false, false, false, false, false, false, false, false, false, false, false, false, false, false, false, false, false, false, false] rfl rfl (by kernel_rfl) (fun _ _ _ h => h) (Or.inl ⟨by rfl, ?_⟩) ?_ ?_
            rotate_left
            · (intro w'; go_simp; with_reducible rfl)
            rotate_left
            · (simp only [Act.put, List.setIfInBounds_toArray, List.set_cons_zero, List.set_cons_succ]; rfl)
            refine pure_ (i := 6) (N := (some 46)) (v := undef) (a' := ?_) #[true, true, true, true, true, true, true, false, false, false, false, false, false, false, false, false, false, false, false, false, false, false, false, false, false, false, false, false, false, false, false, false] rfl rfl (by kernel_rfl) (fun _ _ _ h => h) (Or.inr ⟨by rfl, rfl⟩) ?_ ?_
            rotate_left
            · (simp only [Act.put, List.setIfInBounds_toArray, List.set_cons_zero, List.set_cons_succ]; rfl)
            refine pure_ (i := 7) (N := (some 47)) (v := undef) (a' := ?_) #[true, true, true, true, true, true, true, true, false, false, false, false, false, false, false, false, false, false, false, false, false, false, false, false, false, false, false, false, false, false, false, false] rfl rfl (by kernel_rfl) (fun _ _ _ h => h) (Or.inr ⟨by rfl, rfl⟩) ?_ ?_
            rotate_left
            · (simp only [Act.put, List.setIfInBounds_toArray, List.set_cons_zero, List.set_cons_succ]; rfl)
            refine pure_ (i := 9) (N := (some 49)) (v := undef) (a' := ?_) #[true, true, true, true, true, true, true, true, false, true, false, false, false, false, false, false, false, false, false, false, false, false, false, false, false, false, false, false, false, false, false, false] rfl rfl (by kernel_rfl) (fun _ _ _ h => h) (Or.inr ⟨by rfl, rfl⟩) ?_ ?_
            rotate_left
            · (simp only [Act.put, List.setIfInBounds_toArray, List.set_cons_zero, List.set_cons_succ]; rfl)
            refine pure_ (i := 8) (N := (some 48)) (v := undef) (a' := ?_) #[true, true, true, true, true, true, true, true, true, true, false, false, false, false, false, false, false, false, false, false, false, false, false, false, false, false, false, false, false, false, false, false] rfl rfl (by kernel_rfl) (fun _ _ _ h => h) (Or.inr ⟨by rfl, rfl⟩) ?_ ?_
            rotate_left
            · (simp only [Act.put, List.setIfInBounds_toArray, List.set_cons_zero, List.set_cons_succ]; rfl)
            refine pure_ (i := 10) (N := (some 50)) (v := undef) (a' := ?_) #[true, true, true, true, true, true, true, true, true, true, true, false, false, false, false, false, false, false, false, false, false, false, false, false, false, false, false, false, false, false, false, false] rfl rfl (by kernel_rfl) (fun _ _ _ h => h) (Or.inr ⟨by rfl, rfl⟩) ?_ ?_
            rotate_left
            · (simp only [Act.put, List.setIfInBounds_toArray, List.set_cons_zero, List.set_cons_succ]; rfl)
            refine pure_ (i := 11) (N := (some 51)) (v := ?_) (a' := ?_) #[true, true, true, true, true, true, true, true, true, true, true, true, false, false, false, false, false, false, false, false, false, false, false, false, false, false, false, false, false, false, false, false] rfl rfl (by kernel_rfl) (fun _ _ _ h => h) (Or.inl ⟨by rfl, ?_⟩) ?_ ?_
            rotate_left
            · (intro w'; go_simp; with_reducible rfl)
            rotate_left
            · (simp only [Act.put, List.setIfInBounds_toArray, List.set_cons_zero, List.set_cons_succ]; rfl)
            refine pure_ (i := 12) (N := (some 52)) (v := ?_) (a' := ?_) #[true, true, true, true, true, true, true, true, true, true, true, true, true, false, false, false, false, false, false, false, false, false, false, false, false, false, false, false, false, false, false, false] rfl rfl (by kernel_rfl) (fun _ _ _ h => h) (Or.inl ⟨by rfl, ?_⟩) ?_ ?_
            rotate_left
            · (intro w'; go_simp; with_reducible rfl)
            rotate_left
            · (simp only [Act.put, List.setIfInBounds_toArray, List.set_cons_zero, List.set_cons_succ]; rfl)
            refine pure_ (i := 13) (N := (some 53)) (v := ?_) (a' := ?_) #[true, true, true, true, true, true, true, true, true, true, true, true, true, true, false, false, false, false, false, false, false, false, false, false, false, false, false, false, false, false, false, false] rfl rfl (by kernel_rfl) (fun _ _ _ h => h) (Or.inl ⟨by rfl, ?_⟩) ?_ ?_
            rotate_left
            · (intro w'; go_simp; with_reducible rfl)
            rotate_left
            · (simp only [Act.put, List.setIfInBounds_toArray, List.set_cons_zero, List.set_cons_succ]; rfl)
            refine pure_ (i := 14) (N := (some 54)) (v := ?_) (a' := ?_) #[true, true, true, true, true, true, true, true, true, true, true, true, true, true, true, false, false, false, false, false, false, false, false, false, false, false, false, false, false, false, false, false] rfl rfl (by kernel_rfl) (fun _ _ _ h => h) (Or.inl ⟨by rfl, ?_⟩) ?_ ?_
            rotate_left
            · (intro w'; go_simp; with_reducible rfl)
            rotate_left
            · (simp only [Act.put, List.setIfInBounds_toArray, List.set_cons_zero, List.set_cons_succ]; rfl)
            refine pure_ (i := 15) (N := (some 55)) (v := ?_) (a' := ?_) #[true, true, true, true, true, true, true, true, true, true, true, true, true, true, true, true, false, false, false, false, false, false, false, false, false, false, false, false, false, false, false, false] rfl rfl (by kernel_rfl) (fun _ _ _ h => h) (Or.inl ⟨by rfl, ?_⟩) ?_ ?_
            rotate_left
            · (intro w'; go_simp; with_reducible rfl)
            rotate_left
            · (simp only [Act.put, List.setIfInBounds_toArray, List.set_cons_zero, List.set_cons_succ]; rfl)
            refine pure_ (i := 16) (N := (some 56)) (v := ?_) (a' := ?_) #[true, true, true, true, true, true, true, true, true, true, true, true, true, true, true, true, true, false, false, false, false, false, false, false, false, false, false, false, false, false, false, false] rfl rfl (by kernel_rfl) (fun _ _ _ h => h) (Or.inl ⟨by rfl, ?_⟩) ?_ ?_
            rotate_left
            · (intro w'; go_simp; with_reducible rfl)
            rotate_left
            · (simp only [Act.put, List.setIfInBounds_toArray, List.set_cons_zero, List.set_cons_succ]; rfl)
            refine pure_ (i := 17) (N := (some 57)) (v := ?_) (a' := ?_) #[true, true, true, true, true, true, true, true, true, true, true, true, true, true, true, true, true, true, false, false, false, false, false, false, false, false, false, false, false, false, false, false] rfl rfl (by kernel_rfl) (fun _ _ _ h => h) (Or.inl ⟨by rfl, ?_⟩) ?_ ?_
            rotate_left
            · (intro w'; go_simp; with_reducible rfl)
            rotate_left
            · (simp only [Act.put, List.setIfInBounds_toArray, List.set_cons_zero, List.set_cons_succ]; rfl)
            refine pure_ (i := 18) (N := (some 58)) (v := ?_) (a' := ?_) #[true, true, true, true, true, true, true, true, true, true, true, true, true, true, true, true, true, true, true, false, false, false, false, false, false, false, false, false, false, false, false, false] rfl rfl (by kernel_rfl) (fun _ _ _ h => h) (Or.inl ⟨by rfl, ?_⟩) ?_ ?_
            rotate_left
            · (intro w'; go_simp; with_reducible rfl)
            rotate_left
            · (simp only [Act.put, List.setIfInBounds_toArray, List.set_cons_zero, List.set_cons_succ]; rfl)
            refine pure_ (i := 19) (N := (some 59)) (v := ?_) (a' := ?_) #[true, true, true, true, true, true, true, true, true, true, true, true, true, true, true, true, true, true, true, true, false, false, false, false, false, false, false, false, false, false, false, false] rfl rfl (by kernel_rfl) (fun _ _ _ h => h) (Or.inl ⟨by rfl, ?_⟩) ?_ ?_
            rotate_left
            · (intro w'; go_simp; with_reducible rfl)
            rotate_left
            · (simp only [Act.put, List.setIfInBounds_toArray, List.set_cons_zero, List.set_cons_succ]; rfl)
            refine pure_ (i := 20) (N := (some 60)) (v := ?_) (a' := ?_) #[true, true, true, true, true, true, true, true, true, true, true, true, true, true, true, true, true, true, true, true, true, false, false, false, false, false, false, false, false, false, false, false] rfl rfl (by kernel_rfl) (fun _ _ _ h => h) (Or.inl ⟨by rfl, ?_⟩) ?_ ?_
            rotate_left
            · (intro w'; go_simp; with_reducible rfl)
            rotate_left
            · (simp only [Act.put, List.setIfInBounds_toArray, List.set_cons_zero, List.set_cons_succ]; rfl)
            refine pure_ (i := 21) (N := (some 61)) (v := ?_) (a' := ?_) #[true, true, true, true, true, true, true, true, true, true, true, true, true, true, true, true, true, true, true, true, true, true, false, false, false, false, false, false, false, false, false, false] rfl rfl (by kernel_rfl) (fun _ _ _ h => h) (Or.inl ⟨by rfl, ?_⟩) ?_ ?_
            rotate_left
            · (intro w'; go_simp; with_reducible rfl)
            rotate_left
            · (simp only [Act.put, List.setIfInBounds_toArray, List.set_cons_zero, List.set_cons_succ]; rfl)
            refine pure_ (i := 23) (N := (some 63)) (v := ?_) (a' := ?_) #[true, true, true, true, true, true, true, true, true, true, true, true, true, true, true, true, true, true, true, true, true, true, false, true, false, false, false, false, false, false, false, false] rfl rfl (by kernel_rfl) (fun _ _ _ h => h) (Or.inl ⟨by rfl, ?_⟩) ?_ ?_
            rotate_left
            · (intro w'; go_simp; with_reducible rfl)
            rotate_left
            · (simp only [Act.put, List.setIfInBounds_toArray, List.set_cons_zero, List.set_cons_succ]; rfl)
            refine pure_ (i := 24) (N := (some 64)) (v := ?_) (a' := ?_) #[true, true, true, true, true, true, true, true, true, true, true, true, true, true, true, true, true, true, true, true, true, true, false, true, true, false, false, false, false, false, false, false] rfl rfl (by kernel_rfl) (fun _ _ _ h => h) (Or.inl ⟨by rfl, ?_⟩) ?_ ?_
            rotate_left
            · (intro w'; go_simp; with_reducible rfl)
            rotate_left
            · (simp only [Act.put, List.setIfInBounds_toArray, List.set_cons_zero, List.set_cons_succ]; rfl)
            refine take_ (i := 22) (N := (some 62)) (v := ?_) (a' := ?_) #[true, true, true, true, true, true, true, true, true, true, true, true, true, true, true, true, true, true, true, true, true, true, true, true, true, false, false, false, false, false, false, false] rfl rfl (by kernel_rfl) (fun _ _ _ h => h) (Or.inl ⟨by rfl, ?_⟩) hHeld ?_ ?_
            rotate_left
            · (rintro w' ⟨s0, s1⟩; have d0 : w'.cell? ⟨w.heap.size, 0, none⟩ = some (.slice A1 g.terms.length c1) := (blk_cell s0 0).trans rfl; have d1 : w'.cell? ⟨w.heap.size, 1, none⟩ = some (.slice A2 g.names.length c2) := (blk_cell s0 1).trans rfl; have d2 : w'.cell? ⟨w.heap.size, 2, none⟩ = some (.slice A3 g.rules.length c3) := (blk_cell s0 2).trans rfl; have d3 : w'.cell? ⟨w.heap.size + 1, k, none⟩ = some (.int .i64 z) := (blk_cell s1 k).trans HZ.out; go_simp; with_reducible rfl)
            rotate_left
            · (simp only [Act.put, List.setIfInBounds_toArray, List.set_cons_zero, List.set_cons_succ]; rfl)
            refine take_ (i := 25) (N := (some 65)) (v := ?_) (a' := ?_) #[true, true, true, true, true, true, true, true, true, true, true, true, true, true, true, true, true, true, true, true, true, true, true, true, true, true, false, false, false, false, false, false] rfl rfl (by kernel_rfl) (fun _ _ _ h => h) (Or.inl ⟨by rfl, ?_⟩) hHeld ?_ ?_
            rotate_left
            · (rintro w' ⟨s0, s1⟩; have d0 : w'.cell? ⟨w.heap.size, 0, none⟩ = some (.slice A1 g.terms.length c1) := (blk_cell s0 0).trans rfl; have d1 : w'.cell? ⟨w.heap.size, 1, none⟩ = some (.slice A2 g.names.length c2) := (blk_cell s0 1).trans rfl; have d2 : w'.cell? ⟨w.heap.size, 2, none⟩ = some (.slice A3 g.rules.length c3) := (blk_cell s0 2).trans rfl; have d3 : w'.cell? ⟨w.heap.size + 1, k, none⟩ = some (.int .i64 z) := (blk_cell s1 k).trans HZ.out; go_simp; with_reducible rfl)
            rotate_left
            · (simp only [Act.put, List.setIfInBounds_toArray, List.set_cons_zero, List.set_cons_succ]; rfl)
            refine one_ (i := 26) (N := (some 66)) #[true, true, true, true, true, true, true, true, true, true, true, true, true, true, true, true, true, true, true, true, true, true, true, true, true, true, true, false, false, false, false, false] rfl rfl (by kernel_rfl) (by decide) (fun K hK => ?_)
            (refine goes_ Try.func25 (by kernel_rfl) rfl #[.agg #[.slice A1 g.terms.length c1, .slice A2 g.names.length c2, .slice A3 g.rules.length c3], .int .i64 z] (by rfl) rfl rfl (by simp [Act.eval]) ?_; refine (term_c g A1 A2 A3 c1 c2 c3 z _).mono ?_; rw [HTM.out]; rintro e w6 ⟨rfl, hb6⟩; refine ⟨_, rfl, ?_⟩; have HK6 := Aside0.mk (HK5.out.drew_.below_ hb6); clear hb6; refine hK.out _ _ ⟨HK6.out.p, HK6.out.q⟩ (fun hHeld => ?_))
            skip
            clear hK K
            refine norm_ (a' := ?_) ?_ ?_
            rotate_left
            · (show Act.put _ (some 66) _ = _; simp only [Act.put, List.setIfInBounds_toArray, List.set_cons_zero, List.set_cons_succ]; rfl)
            refine pure_ (i := 27) (N := (some 67)) (v := ?_) (a' := ?_) #[true, true, true, true, true, true, true, true, true, true, true, true, true, true, true, true, true, true, true, true, true, true, true, true, true, true, true, true, false, false, false, false] rfl rfl (by kernel_rfl) (fun _ _ _ h => h) (Or.inl ⟨by rfl, ?_⟩) ?_ ?_
            rotate_left
            · (intro w'; go_simp; with_reducible rfl)
            rotate_left
            · (simp only [Act.put, List.setIfInBounds_toArray, List.set_cons_zero, List.set_cons_succ]; rfl)
            refine pure_ (i := 28) (N := (some 68)) (v := undef) (a' := ?_) #[true, true, true, true, true, true, true, true, true, true, true, true, true, true, true, true, true, true, true, true, true, true, true, true, true, true, true, true, true, false, false, false] rfl rfl (by kernel_rfl) (fun _ _ _ h => h) (Or.inr ⟨by rfl, rfl⟩) ?_ ?_
            rotate_left
            · (simp only [Act.put, List.setIfInBounds_toArray, List.set_cons_zero, List.set_cons_succ]; rfl)
            refine pure_ (i := 29) (N := (some 69)) (v := undef) (a' := ?_) #[true, true, true, true, true, true, true, true, true, true, true, true, true, true, true, true, true, true, true, true, true, true, true, true, true, true, true, true, true, true, false, false] rfl rfl (by kernel_rfl) (fun _ _ _ h => h) (Or.inr ⟨by rfl, rfl⟩) ?_ ?_
            rotate_left
            · (simp only [Act.put, List.setIfInBounds_toArray, List.set_cons_zero, List.set_cons_succ]; rfl)
            refine pure_ (i := 30) (N := (some 70)) (v := ?_) (a' := ?_) #[true, true, true, true, true, true, true, true, true, true, true, true, true, true, true, true, true, true, true, true, true, true, true, true, true, true, true, true, true, true, true, false] rfl rfl (by kernel_rfl) (fun _ _ _ h => h) (Or.inl ⟨by rfl, ?_⟩) ?_ ?_
            rotate_left
            · (intro w'; go_simp; with_reducible rfl)
            rotate_left
            · (simp only [Act.put, List.setIfInBounds_toArray, List.set_cons_zero, List.set_cons_succ]; rfl)
            refine pure_ (i := 31) (N := (some 71)) (v := ?_) (a' := ?_) #[true, true, true, true, true, true, true, true, true, true, true, true, true, true, true, true, true, true, true, true, true, true, true, true, true, true, true, true, true, true, true, true] rfl rfl (by kernel_rfl) (fun _ _ _ h => h) (Or.inl ⟨by rfl, ?_⟩) ?_ ?_
            rotate_left
            · (intro w'; go_simp; with_reducible rfl)
            rotate_left
            · (simp only [Act.put, List.setIfInBounds_toArray, List.set_cons_zero, List.set_cons_succ]; rfl)
            refine done_ (by kernel_rfl) ?_
            go_wp2
            go_roundw
            case rel => exact ⟨k + 1, by omega, by go_num, HK6⟩
            case measure => simp [intOf]; omega
        · obtain ⟨r1, r2, r3, r4, r5⟩ := HK.out.cells
          cases hnx : nameF g x with
          | none =>
            have HNX := Aside0.mk hnx
            cases hny : nameF g y with
            | none =>
              have HNY := Aside0.mk hny
              clear hnx hny
              go_wp2_with (first | (have hx := HKa.out; go_at_call 20; go_loud (refine (name_c g A1 A2 A3 c1 c2 c3 y _ HKa.out.rep hsz HY.out).mono ?_; rw [HNY.out]; rintro e w5 ⟨he, hb5⟩; obtain rfl : e = .returned (.tuple #[.string ⟨#[]⟩, .bool false]) := he; have HKb := Aside0.mk (HKa.out.below_ hb5); clear hb5)) | (go_at_call 20; go_loud (refine (name_c g A1 A2 A3 c1 c2 c3 x _ HK.out.rep hsz HX.out).mono ?_; rw [HNX.out]; rintro e w4 ⟨he, hb4⟩; obtain rfl : e = .returned (.tuple #[.string ⟨#[]⟩, .bool false]) := he; have HKa := Aside0.mk (HK.out.below_ hb4); obtain ⟨u1, u2, u3, u4, u5⟩ := HKa.out.cells; clear hb4)))
              have HKc := Aside0.mk HKb.out.drew_
              refine start_ (n := 27) (S := fun w' => w'.heap[w.heap.size]? = some (.cells #[.slice A1 g.terms.length c1, .slice A2 g.names.length c2, .slice A3 g.rules.length c3] 25 (0, 0)) ∧ w'.heap[w.heap.size + 1]? = some (.cells #[.int .i64 x, .int .i64 y] 52 (0, 0))) (ds := []) #[false, false, false, false, false, false, false, false, false, false, false, false, false, false, false, false, false, false, false, false, false, false, false, false, false, false, false] (by kernel_rfl) rfl rfl (⟨HKc.out.p, HKc.out.q⟩) (fun hHeld => ?_)
              refine pure_ (i := 0) (N := (some 86)) (v := ?_) (a' := ?_) #[true, false, false, false, false, false, false, false, false, false, false, false, false, false, false, false, false, false, false, false, false, false, false, false, false, false, false] rfl rfl (by kernel_rfl) (fun _ _ _ h => h) (Or.inl ⟨by rfl, ?_⟩) ?_ ?_
              rotate_left
              · (intro w'; go_simp; with_reducible rfl)
              rotate_left
              · (simp only [Act.put, List.setIfInBounds_toArray, List.set_cons_zero, List.set_cons_succ]; rfl)
              refine pure_ (i := 1) (N := (some 87)) (v := ?_) (a' := ?_) #[true, true, false, false, false, false, false, false, false, false, false, false, false, false, false, false, false, false, false, false, false, false, false, false, false, false, false] rfl rfl (by kernel_rfl) (fun _ _ _ h => h) (Or.inl ⟨by rfl, ?_⟩) ?_ ?_
              rotate_left
              · (intro w'; go_simp; with_reducible rfl)
              rotate_left
              · (simp only [Act.put, List.setIfInBounds_toArray, List.set_cons_zero, List.set_cons_succ]; rfl)
              refine pure_ (i := 2) (N := (some 88)) (v := undef) (a' := ?_) #[true, true, true, false, false, false, false, false, false, false, false, false, false, false, false, false, false, false, false, false, false, false, false, false, false, false, false] rfl rfl (by kernel_rfl) (fun _ _ _ h => h) (Or.inr ⟨by rfl, rfl⟩) ?_ ?_
              rotate_left
              · (simp only [Act.put, List.setIfInBounds_toArray, List.set_cons_zero, List.set_cons_succ]; rfl)
              refine pure_ (i := 3) (N := (some 89)) (v := ?_) (a' := ?_) #[true, true, true, true, false, false, false, false, false, false, false, false, false, false, false, false, false, false, false, false, false, false, false, false, false, false, false] rfl rfl (by kernel_rfl) (fun _ _ _ h => h) (Or.inl ⟨by rfl, ?_⟩) ?_ ?_
              rotate_left
              · (intro w'; go_simp; with_reducible rfl)
              rotate_left
              · (simp only [Act.put, List.setIfInBounds_toArray, List.set_cons_zero, List.set_cons_succ]; rfl)
              refine pure_ (i := 4) (N := (some 90)) (v := ?_) (a' := ?_) #[true, true, true, true, true, false, false, false, false, false, false, false, false, false, false, false, false, false, false, false, false, false, false, false, false, false, false] rfl rfl (by kernel_rfl) (fun _ _ _ h => h) (Or.inl ⟨by rfl, ?_⟩) ?_ ?_
              rotate_left
              · (intro w'; go_simp; with_reducible rfl)
              rotate_left
              · (simp only [Act.put, List.setIfInBounds_toArray, List.set_cons_zero, List.set_cons_succ]; rfl)
              refine pure_ (i := 5) (N := (some 91)) (v := undef) (a' := ?_) #[true, true, true, true, true, true, false, false, false, false, false, false, false, false, false, false, false, false, false, false, false, false, false, false, false, false, false] rfl rfl (by kernel_rfl) (fun _ _ _ h => h) (Or.inr ⟨by rfl, rfl⟩) ?_ ?_
              rotate_left
              · (simp only [Act.put, List.setIfInBounds_toArray, List.set_cons_zero, List.set_cons_succ]; rfl)
              refine pure_ (i := 7) (N := (some 93)) (v := undef) (a' := ?_) #[true, true, true, true, true, true, false, true, false, false, false, false, false, false, false, false, false, false, false, false, false, false, false, false, false, false, false] rfl rfl (by kernel_rfl) (fun _ _ _ h => h) (Or.inr ⟨by rfl, rfl⟩) ?_ ?_
              rotate_left
              · (simp only [Act.put, List.setIfInBounds_toArray, List.set_cons_zero, List.set_cons_succ]; rfl)
              refine pure_ (i := 6) (N := (some 92)) (v := undef) (a' := ?_) #[true, true, true, true, true, true, true, true, false, false, false, false, false, false, false, false, false, false, false, false, false, false, false, false, false, false, false] rfl rfl (by kernel_rfl) (fun _ _ _ h => h) (Or.inr ⟨by rfl, rfl⟩) ?_ ?_
              rotate_left
              · (simp only [Act.put, List.setIfInBounds_toArray, List.set_cons_zero, List.set_cons_succ]; rfl)
              refine pure_ (i := 8) (N := (some 94)) (v := undef) (a' := ?_) #[true, true, true, true, true, true, true, true, true, false, false, false, false, false, false, false, false, false, false, false, false, false, false, false, false, false, false] rfl rfl (by kernel_rfl) (fun _ _ _ h => h) (Or.inr ⟨by rfl, rfl⟩) ?_ ?_
              rotate_left
              · (simp only [Act.put, List.setIfInBounds_toArray, List.set_cons_zero, List.set_cons_succ]; rfl)
              refine pure_ (i := 9) (N := (some 95)) (v := undef) (a' := ?_) #[true, true, true, true, true, true, true, true, true, true, false, false, false, false, false, false, false, false, false, false, false, false, false, false, false, false, false] rfl rfl (by kernel_rfl) (fun _ _ _ h => h) (Or.inr ⟨by rfl, rfl⟩) ?_ ?_
              rotate_left
              · (simp only [Act.put, List.setIfInBounds_toArray, List.set_cons_zero, List.set_cons_succ]; rfl)
              refine pure_ (i := 10) (N := (some 96)) (v := ?_) (a' := ?_) #[true, true, true, true, true, true, true, true, true, true, true, false, false, false, false, false, false, false, false, false, false, false, false, false, false, false, false] rfl rfl (by kernel_rfl) (fun _ _ _ h => h) (Or.inl ⟨by rfl, ?_⟩) ?_ ?_
              rotate_left
              · (intro w'; go_simp; with_reducible rfl)
              rotate_left
              · (simp only [Act.put, List.setIfInBounds_toArray, List.set_cons_zero, List.set_cons_succ]; rfl)
              refine pure_ (i := 11) (N := (some 97)) (v := ?_) (a' := ?_) #[true, true, true, true, true, true, true, true, true, true, true, true, false, false, false, false, false, false, false, false, false, false, false, false, false, false, false] rfl rfl (by kernel_rfl) (fun _ _ _ h => h) (Or.inl ⟨by rfl, ?_⟩) ?_ ?_
              rotate_left
              · (intro w'; go_simp; with_reducible rfl)
              rotate_left
              · (simp only [Act.put, List.setIfInBounds_toArray, List.set_cons_zero, List.set_cons_succ]; rfl)
              refine pure_ (i := 12) (N := (some 98)) (v := undef) (a' := ?_) #[true, true, true, true, true, true, true, true, true, true, true, true, true, false, false, false, false, false, false, false, false, false, false, false, false, false, false] rfl rfl (by kernel_rfl) (fun _ _ _ h => h) (Or.inr ⟨by rfl, rfl⟩) ?_ ?_
              rotate_left
              · (simp only [Act.put, List.setIfInBounds_toArray, List.set_cons_zero, List.set_cons_succ]; rfl)
              refine pure_ (i := 13) (N := (some 99)) (v := undef) (a' := ?_) #[true, true, true, true, true, true, true, true, true, true, true, true, true, true, false, false, false, false, false, false, false, false, false, false, false, false, false] rfl rfl (by kernel_rfl) (fun _ _ _ h => h) (Or.inr ⟨by rfl, rfl⟩) ?_ ?_
              rotate_left
              · (simp only [Act.put, List.setIfInBounds_toArray, List.set_cons_zero, List.set_cons_succ]; rfl)
              refine pure_ (i := 14) (N := (some 100)) (v := undef) (a' := ?_) #[true, true, true, true, true, true, true, true, true, true, true, true, true, true, true, false, false, false, false, false, false, false, false, false, false, false, false] rfl rfl (by kernel_rfl) (fun _ _ _ h => h) (Or.inr ⟨by rfl, rfl⟩) ?_ ?_
              rotate_left
              · (simp only [Act.put, List.setIfInBounds_toArray, List.set_cons_zero, List.set_cons_succ]; rfl)
              refine pure_ (i := 15) (N := (some 101)) (v := ?_) (a' := ?_) #[true, true, true, true, true, true, true, true, true, true, true, true, true, true, true, true, false, false, false, false, false, false, false, false, false, false, false] rfl rfl (by kernel_rfl) (fun _ _ _ h => h) (Or.inl ⟨by rfl, ?_⟩) ?_ ?_
              rotate_left
              · (intro w'; go_simp; with_reducible rfl)
              rotate_left
              · (simp only [Act.put, List.setIfInBounds_toArray, List.set_cons_zero, List.set_cons_succ]; rfl)
              refine pure_ (i := 16) (N := (some 102)) (v := ?_) (a' := ?_) #[true, true, true, true, true, true, true, true, true, true, true, true, true, true, true, true, true, false, false, false, false, false, false, false, false, false, false] rfl rfl (by kernel_rfl) (fun _ _ _ h => h) (Or.inl ⟨by rfl, ?_⟩) ?_ ?_
              rotate_left
              · (intro w'; go_simp; with_reducible rfl)
              rotate_left
              · (simp only [Act.put, List.setIfInBounds_toArray, List.set_cons_zero, List.set_cons_succ]; rfl)
              refine pure_ (i := 18) (N := (some 104)) (v := undef) (a' := ?_) #[true, true, true, true, true, true, true, true, true, true, true, true, true, true, true, true, true, false, true, false, false, false, false, false, false, false, false] rfl rfl (by kernel_rfl) (fun _ _ _ h => h) (Or.inr ⟨by rfl, rfl⟩) ?_ ?_
              rotate_left
              · (simp only [Act.put, List.setIfInBounds_toArray, List.set_cons_zero, List.set_cons_succ]; rfl)
              refine pure_ (i := 22) (N := (some 108)) (v := undef) (a' := ?_) #[true, true, true, true, true, true, true, true, true, true, true, true, true, true, true, true, true, false, true, false, false, false, true, false, false, false, false] rfl rfl (by kernel_rfl) (fun _ _ _ h => h) (Or.inr ⟨by rfl, rfl⟩) ?_ ?_
              rotate_left
              · (simp only [Act.put, List.setIfInBounds_toArray, List.set_cons_zero, List.set_cons_succ]; rfl)
              refine pure_ (i := 17) (N := (some 103)) (v := undef) (a' := ?_) #[true, true, true, true, true, true, true, true, true, true, true, true, true, true, true, true, true, true, true, false, false, false, true, false, false, false, false] rfl rfl (by kernel_rfl) (fun _ _ _ h => h) (Or.inr ⟨by rfl, rfl⟩) ?_ ?_
              rotate_left
              · (simp only [Act.put, List.setIfInBounds_toArray, List.set_cons_zero, List.set_cons_succ]; rfl)
              refine pure_ (i := 19) (N := (some 105)) (v := undef) (a' := ?_) #[true, true, true, true, true, true, true, true, true, true, true, true, true, true, true, true, true, true, true, true, false, false, true, false, false, false, false] rfl rfl (by kernel_rfl) (fun _ _ _ h => h) (Or.inr ⟨by rfl, rfl⟩) ?_ ?_
              rotate_left
              · (simp only [Act.put, List.setIfInBounds_toArray, List.set_cons_zero, List.set_cons_succ]; rfl)
              refine pure_ (i := 21) (N := (some 107)) (v := undef) (a' := ?_) #[true, true, true, true, true, true, true, true, true, true, true, true, true, true, true, true, true, true, true, true, false, true, true, false, false, false, false] rfl rfl (by kernel_rfl) (fun _ _ _ h => h) (Or.inr ⟨by rfl, rfl⟩) ?_ ?_
              rotate_left
              · (simp only [Act.put, List.setIfInBounds_toArray, List.set_cons_zero, List.set_cons_succ]; rfl)
              refine pure_ (i := 23) (N := (some 109)) (v := undef) (a' := ?_) #[true, true, true, true, true, true, true, true, true, true, true, true, true, true, true, true, true, true, true, true, false, true, true, true, false, false, false] rfl rfl (by kernel_rfl) (fun _ _ _ h => h) (Or.inr ⟨by rfl, rfl⟩) ?_ ?_
              rotate_left
              · (simp only [Act.put, List.setIfInBounds_toArray, List.set_cons_zero, List.set_cons_succ]; rfl)
              refine one_ (i := 20) (N := (some 106)) #[true, true, true, true, true, true, true, true, true, true, true, true, true, true, true, true, true, true, true, true, true, true, true, true, false, false, false] rfl rfl (by kernel_rfl) (by decide) (fun K hK => ?_)
              refine off_ (by rfl) ?_
              refine hK.out _ _ hHeld (fun hHeld => ?_)
              clear hK K
              refine norm_ (a' := ?_) ?_ ?_
              rotate_left
              · (show Act.put _ (some 106) _ = _; simp only [Act.put, List.setIfInBounds_toArray, List.set_cons_zero, List.set_cons_succ]; rfl)
              refine one_ (i := 24) (N := (some 110)) #[true, true, true, true, true, true, true, true, true, true, true, true, true, true, true, true, true, true, true, true, true, true, true, true, true, false, false] rfl rfl (by kernel_rfl) (by decide) (fun K hK => ?_)
              refine off_ (by rfl) ?_
              refine hK.out _ _ hHeld (fun hHeld => ?_)
              clear hK K
              refine norm_ (a' := ?_) ?_ ?_
              rotate_left
              · (show Act.put _ (some 110) _ = _; simp only [Act.put, List.setIfInBounds_toArray, List.set_cons_zero, List.set_cons_succ]; rfl)
              refine pure_ (i := 25) (N := (some 111)) (v := undef) (a' := ?_) #[true, true, true, true, true, true, true, true, true, true, true, true, true, true, true, true, true, true, true, true, true, true, true, true, true, true, false] rfl rfl (by kernel_rfl) (fun _ _ _ h => h) (Or.inr ⟨by rfl, rfl⟩) ?_ ?_
              rotate_left
              · (simp only [Act.put, List.setIfInBounds_toArray, List.set_cons_zero, List.set_cons_succ]; rfl)
              refine pure_ (i := 26) (N := (some 112)) (v := ?_) (a' := ?_) #[true, true, true, true, true, true, true, true, true, true, true, true, true, true, true, true, true, true, true, true, true, true, true, true, true, true, true] rfl rfl (by kernel_rfl) (fun _ _ _ h => h) (Or.inl ⟨by rfl, ?_⟩) ?_ ?_
              rotate_left
              · (intro w'; go_simp; with_reducible rfl)
              rotate_left
              · (simp only [Act.put, List.setIfInBounds_toArray, List.set_cons_zero, List.set_cons_succ]; rfl)
              refine done_ (by kernel_rfl) ?_
              go_wp2_with (go_at_call 16; go_loud (refine (wakes03_c _).mono ?_; rintro e w9 ⟨rfl, hb9⟩; have HB9 := Aside0.mk (below_then HKc.out.b HKc.out.b.size hb9); clear hb9))
              go_ret
              exact ⟨ret_bool rfl, HB9.out⟩
            | some s2 =>
              have HNY := Aside0.mk hny
              clear hnx hny
              go_wp2_with (first | (have hx := HKa.out; go_at_call 20; go_loud (refine (name_c g A1 A2 A3 c1 c2 c3 y _ HKa.out.rep hsz HY.out).mono ?_; rw [HNY.out]; rintro e w5 ⟨he, hb5⟩; obtain rfl : e = .returned (.tuple #[.string s2, .bool true]) := he; have HKb := Aside0.mk (HKa.out.below_ hb5); clear hb5)) | (go_at_call 20; go_loud (refine (name_c g A1 A2 A3 c1 c2 c3 x _ HK.out.rep hsz HX.out).mono ?_; rw [HNX.out]; rintro e w4 ⟨he, hb4⟩; obtain rfl : e = .returned (.tuple #[.string ⟨#[]⟩, .bool false]) := he; have HKa := Aside0.mk (HK.out.below_ hb4); obtain ⟨u1, u2, u3, u4, u5⟩ := HKa.out.cells; clear hb4)))
              have HKc := Aside0.mk HKb.out.drew_
              refine start_ (n := 27) (S := fun w' => w'.heap[w.heap.size]? = some (.cells #[.slice A1 g.terms.length c1, .slice A2 g.names.length c2, .slice A3 g.rules.length c3] 25 (0, 0)) ∧ w'.heap[w.heap.size + 1]? = some (.cells #[.int .i64 x, .int .i64 y] 52 (0, 0))) (ds := []) #[false, false, false, false, false, false, false, false, false, false, false, false, false, false, false, false, false, false, false, false, false, false, false, false, false, false, false] (by kernel_rfl) rfl rfl (⟨HKc.out.p, HKc.out.q⟩) (fun hHeld => ?_)
              refine pure_ (i := 0) (N := (some 86)) (v := ?_) (a' := ?_) #[true, false, false, false, false, false, false, false, false, false, false, false, false, false, false, false, false, false, false, false, false, false, false, false, false, false, false] rfl rfl (by kernel_rfl) (fun _ _ _ h => h) (Or.inl ⟨by rfl, ?_⟩) ?_ ?_
              rotate_left
              · (intro w'; go_simp; with_reducible rfl)
              rotate_left
              · (simp only [Act.put, List.setIfInBounds_toArray, List.set_cons_zero, List.set_cons_succ]; rfl)
              refine pure_ (i := 1) (N := (some 87)) (v := ?_) (a' := ?_) #[true, true, false, false, false, false, false, false, false, false, false, false, false, false, false, false, false, false, false, false, false, false, false, false, false, false, false] rfl rfl (by kernel_rfl) (fun _ _ _ h => h) (Or.inl ⟨by rfl, ?_⟩) ?_ ?_
              rotate_left
              · (intro w'; go_simp; with_reducible rfl)
              rotate_left
              · (simp only [Act.put, List.setIfInBounds_toArray, List.set_cons_zero, List.set_cons_succ]; rfl)
              refine pure_ (i := 2) (N := (some 88)) (v := undef) (a' := ?_) #[true, true, true, false, false, false, false, false, false, false, false, false, false, false, false, false, false, false, false, false, false, false, false, false, false, false, false] rfl rfl (by kernel_rfl) (fun _ _ _ h => h) (Or.inr ⟨by rfl, rfl⟩) ?_ ?_
              rotate_left
              · (simp only [Act.put, List.setIfInBounds_toArray, List.set_cons_zero, List.set_cons_succ]; rfl)
              refine pure_ (i := 3) (N := (some 89)) (v := ?_) (a' := ?_) #[true, true, true, true, false, false, false, false, false, false, false, false, false, false, false, false, false, false, false, false, false, false, false, false, false, false, false] rfl rfl (by kernel_rfl) (fun _ _ _ h => h) (Or.inl ⟨by rfl, ?_⟩) ?_ ?_
              rotate_left
              · (intro w'; go_simp; with_reducible rfl)
              rotate_left
              · (simp only [Act.put, List.setIfInBounds_toArray, List.set_cons_zero, List.set_cons_succ]; rfl)
              refine pure_ (i := 4) (N := (some 90)) (v := ?_) (a' := ?_) #[true, true, true, true, true, false, false, false, false, false, false, false, false, false, false, false, false, false, false, false, false, false, false, false, false, false, false] rfl rfl (by kernel_rfl) (fun _ _ _ h => h) (Or.inl ⟨by rfl, ?_⟩) ?_ ?_
              rotate_left
              · (intro w'; go_simp; with_reducible rfl)
              rotate_left
              · (simp only [Act.put, List.setIfInBounds_toArray, List.set_cons_zero, List.set_cons_succ]; rfl)
              refine pure_ (i := 5) (N := (some 91)) (v := undef) (a' := ?_) #[true, true, true, true, true, true, false, false, false, false, false, false, false, false, false, false, false, false, false, false, false, false, false, false, false, false, false] rfl rfl (by kernel_rfl) (fun _ _ _ h => h) (Or.inr ⟨by rfl, rfl⟩) ?_ ?_
              rotate_left
              · (simp only [Act.put, List.setIfInBounds_toArray, List.set_cons_zero, List.set_cons_succ]; rfl)
              refine pure_ (i := 7) (N := (some 93)) (v := undef) (a' := ?_) #[true, true, true, true, true, true, false, true, false, false, false, false, false, false, false, false, false, false, false, false, false, false, false, false, false, false, false] rfl rfl (by kernel_rfl) (fun _ _ _ h => h) (Or.inr ⟨by rfl, rfl⟩) ?_ ?_
              rotate_left
              · (simp only [Act.put, List.setIfInBounds_toArray, List.set_cons_zero, List.set_cons_succ]; rfl)
              refine pure_ (i := 6) (N := (some 92)) (v := undef) (a' := ?_) #[true, true, true, true, true, true, true, true, false, false, false, false, false, false, false, false, false, false, false, false, false, false, false, false, false, false, false] rfl rfl (by kernel_rfl) (fun _ _ _ h => h) (Or.inr ⟨by rfl, rfl⟩) ?_ ?_
              rotate_left
              · (simp only [Act.put, List.setIfInBounds_toArray, List.set_cons_zero, List.set_cons_succ]; rfl)
              refine pure_ (i := 8) (N := (some 94)) (v := undef) (a' := ?_) #[true, true, true, true, true, true, true, true, true, false, false, false, false, false, false, false, false, false, false, false, false, false, false, false, false, false, false] rfl rfl (by kernel_rfl) (fun _ _ _ h => h) (Or.inr ⟨by rfl, rfl⟩) ?_ ?_
              rotate_left
              · (simp only [Act.put, List.setIfInBounds_toArray, List.set_cons_zero, List.set_cons_succ]; rfl)
              refine pure_ (i := 9) (N := (some 95)) (v := undef) (a' := ?_) #[true, true, true, true, true, true, true, true, true, true, false, false, false, false, false, false, false, false, false, false, false, false, false, false, false, false, false] rfl rfl (by kernel_rfl) (fun _ _ _ h => h) (Or.inr ⟨by rfl, rfl⟩) ?_ ?_
              rotate_left
              · (simp only [Act.put, List.setIfInBounds_toArray, List.set_cons_zero, List.set_cons_succ]; rfl)
              refine pure_ (i := 10) (N := (some 96)) (v := ?_) (a' := ?_) #[true, true, true, true, true, true, true, true, true, true, true, false, false, false, false, false, false, false, false, false, false, false, false, false, false, false, false] rfl rfl (by kernel_rfl) (fun _ _ _ h => h) (Or.inl ⟨by rfl, ?_⟩) ?_ ?_
              rotate_left
              · (intro w'; go_simp; with_reducible rfl)
              rotate_left
              · (simp only [Act.put, List.setIfInBounds_toArray, List.set_cons_zero, List.set_cons_succ]; rfl)
              refine pure_ (i := 11) (N := (some 97)) (v := ?_) (a' := ?_) #[true, true, true, true, true, true, true, true, true, true, true, true, false, false, false, false, false, false, false, false, false, false, false, false, false, false, false] rfl rfl (by kernel_rfl) (fun _ _ _ h => h) (Or.inl ⟨by rfl, ?_⟩) ?_ ?_
              rotate_left
              · (intro w'; go_simp; with_reducible rfl)
              rotate_left
              · (simp only [Act.put, List.setIfInBounds_toArray, List.set_cons_zero, List.set_cons_succ]; rfl)
              refine pure_ (i := 12) (N := (some 98)) (v := undef) (a' := ?_) #[true, true, true, true, true, true, true, true, true, true, true, true, true, false, false, false, false, false, false, false, false, false, false, false, false, false, false] rfl rfl (by kernel_rfl) (fun _ _ _ h => h) (Or.inr ⟨by rfl, rfl⟩) ?_ ?_
              rotate_left
              · (simp only [Act.put, List.setIfInBounds_toArray, List.set_cons_zero, List.set_cons_succ]; rfl)
              refine pure_ (i := 13) (N := (some 99)) (v := undef) (a' := ?_) #[true, true, true, true, true, true, true, true, true, true, true, true, true, true, false, false, false, false, false, false, false, false, false, false, false, false, false] rfl rfl (by kernel_rfl) (fun _ _ _ h => h) (Or.inr ⟨by rfl, rfl⟩) ?_ ?_
              rotate_left
              · (simp only [Act.put, List.setIfInBounds_toArray, List.set_cons_zero, List.set_cons_succ]; rfl)
              refine pure_ (i := 14) (N := (some 100)) (v := undef) (a' := ?_) #[true, true, true, true, true, true, true, true, true, true, true, true, true, true, true, false, false, false, false, false, false, false, false, false, false, false, false] rfl rfl (by kernel_rfl) (fun _ _ _ h => h) (Or.inr ⟨by rfl, rfl⟩) ?_ ?_
              rotate_left
              · (simp only [Act.put, List.setIfInBounds_toArray, List.set_cons_zero, List.set_cons_succ]; rfl)
              refine pure_ (i := 15) (N := (some 101)) (v := ?_) (a' := ?_) #[true, true, true, true, true, true, true, true, true, true, true, true, true, true, true, true, false, false, false, false, false, false, false, false, false, false, false] rfl rfl (by kernel_rfl) (fun _ _ _ h => h) (Or.inl ⟨by rfl, ?_⟩) ?_ ?_
              rotate_left
              · (intro w'; go_simp; with_reducible rfl)
              rotate_left
              · (simp only [Act.put, List.setIfInBounds_toArray, List.set_cons_zero, List.set_cons_succ]; rfl)
              refine pure_ (i := 16) (N := (some 102)) (v := ?_) (a' := ?_) #[true, true, true, true, true, true, true, true, true, true, true, true, true, true, true, true, true, false, false, false, false, false, false, false, false, false, false] rfl rfl (by kernel_rfl) (fun _ _ _ h => h) (Or.inl ⟨by rfl, ?_⟩) ?_ ?_
              rotate_left
              · (intro w'; go_simp; with_reducible rfl)
              rotate_left
              · (simp only [Act.put, List.setIfInBounds_toArray, List.set_cons_zero, List.set_cons_succ]; rfl)
              refine pure_ (i := 18) (N := (some 104)) (v := undef) (a' := ?_) #[true, true, true, true, true, true, true, true, true, true, true, true, true, true, true, true, true, false, true, false, false, false, false, false, false, false, false] rfl rfl (by kernel_rfl) (fun _ _ _ h => h) (Or.inr ⟨by rfl, rfl⟩) ?_ ?_
              rotate_left
              · (simp only [Act.put, List.setIfInBounds_toArray, List.set_cons_zero, List.set_cons_succ]; rfl)
              refine pure_ (i := 22) (N := (some 108)) (v := undef) (a' := ?_) #[true, true, true, true, true, true, true, true, true, true, true, true, true, true, true, true, true, false, true, false, false, false, true, false, false, false, false] rfl rfl (by kernel_rfl) (fun _ _ _ h => h) (Or.inr ⟨by rfl, rfl⟩) ?_ ?_
              rotate_left
              · (simp only [Act.put, List.setIfInBounds_toArray, List.set_cons_zero, List.set_cons_succ]; rfl)
              refine pure_ (i := 17) (N := (some 103)) (v := undef) (a' := ?_) #[true, true, true, true, true, true, true, true, true, true, true, true, true, true, true, true, true, true, true, false, false, false, true, false, false, false, false] rfl rfl (by kernel_rfl) (fun _ _ _ h => h) (Or.inr ⟨by rfl, rfl⟩) ?_ ?_
              rotate_left
              · (simp only [Act.put, List.setIfInBounds_toArray, List.set_cons_zero, List.set_cons_succ]; rfl)
              refine pure_ (i := 19) (N := (some 105)) (v := undef) (a' := ?_) #[true, true, true, true, true, true, true, true, true, true, true, true, true, true, true, true, true, true, true, true, false, false, true, false, false, false, false] rfl rfl (by kernel_rfl) (fun _ _ _ h => h) (Or.inr ⟨by rfl, rfl⟩) ?_ ?_
              rotate_left
              · (simp only [Act.put, List.setIfInBounds_toArray, List.set_cons_zero, List.set_cons_succ]; rfl)
              refine pure_ (i := 21) (N := (some 107)) (v := undef) (a' := ?_) #[true, true, true, true, true, true, true, true, true, true, true, true, true, true, true, true, true, true, true, true, false, true, true, false, false, false, false] rfl rfl (by kernel_rfl) (fun _ _ _ h => h) (Or.inr ⟨by rfl, rfl⟩) ?_ ?_
              rotate_left
              · (simp only [Act.put, List.setIfInBounds_toArray, List.set_cons_zero, List.set_cons_succ]; rfl)
              refine pure_ (i := 23) (N := (some 109)) (v := undef) (a' := ?_) #[true, true, true, true, true, true, true, true, true, true, true, true, true, true, true, true, true, true, true, true, false, true, true, true, false, false, false] rfl rfl (by kernel_rfl) (fun _ _ _ h => h) (Or.inr ⟨by rfl, rfl⟩) ?_ ?_
              rotate_left
              · (simp only [Act.put, List.setIfInBounds_toArray, List.set_cons_zero, List.set_cons_succ]; rfl)
              refine one_ (i := 20) (N := (some 106)) #[true, true, true, true, true, true, true, true, true, true, true, true, true, true, true, true, true, true, true, true, true, true, true, true, false, false, false] rfl rfl (by kernel_rfl) (by decide) (fun K hK => ?_)
              refine off_ (by rfl) ?_
              refine hK.out _ _ hHeld (fun hHeld => ?_)
              clear hK K
              refine norm_ (a' := ?_) ?_ ?_
              rotate_left
              · (show Act.put _ (some 106) _ = _; simp only [Act.put, List.setIfInBounds_toArray, List.set_cons_zero, List.set_cons_succ]; rfl)
              refine one_ (i := 24) (N := (some 110)) #[true, true, true, true, true, true, true, true, true, true, true, true, true, true, true, true, true, true, true, true, true, true, true, true, true, false, false] rfl rfl (by kernel_rfl) (by decide) (fun K hK => ?_)
              refine off_ (by rfl) ?_
              refine hK.out _ _ hHeld (fun hHeld => ?_)
              clear hK K
              refine norm_ (a' := ?_) ?_ ?_
              rotate_left
              · (show Act.put _ (some 110) _ = _; simp only [Act.put, List.setIfInBounds_toArray, List.set_cons_zero, List.set_cons_succ]; rfl)
              refine pure_ (i := 25) (N := (some 111)) (v := undef) (a' := ?_) #[true, true, true, true, true, true, true, true, true, true, true, true, true, true, true, true, true, true, true, true, true, true, true, true, true, true, false] rfl rfl (by kernel_rfl) (fun _ _ _ h => h) (Or.inr ⟨by rfl, rfl⟩) ?_ ?_
              rotate_left
              · (simp only [Act.put, List.setIfInBounds_toArray, List.set_cons_zero, List.set_cons_succ]; rfl)
              refine pure_ (i := 26) (N := (some 112)) (v := ?_) (a' := ?_) #[true, true, true, true, true, true, true, true, true, true, true, true, true, true, true, true, true, true, true, true, true, true, true, true, true, true, true] rfl rfl (by kernel_rfl) (fun _ _ _ h => h) (Or.inl ⟨by rfl, ?_⟩) ?_ ?_
              rotate_left
              · (intro w'; go_simp; with_reducible rfl)
              rotate_left
              · (simp only [Act.put, List.setIfInBounds_toArray, List.set_cons_zero, List.set_cons_succ]; rfl)
              refine done_ (by kernel_rfl) ?_
              go_wp2_with (go_at_call 16; go_loud (refine (wakes03_c _).mono ?_; rintro e w9 ⟨rfl, hb9⟩; have HB9 := Aside0.mk (below_then HKc.out.b HKc.out.b.size hb9); clear hb9))
              go_ret
              exact ⟨ret_bool rfl, HB9.out⟩
          | some s1 =>
            have HNX := Aside0.mk hnx
            cases hny : nameF g y with
            | none =>
              have HNY := Aside0.mk hny
              clear hnx hny
              go_wp2_with (first | (have hx := HKa.out; go_at_call 20; go_loud (refine (name_c g A1 A2 A3 c1 c2 c3 y _ HKa.out.rep hsz HY.out).mono ?_; rw [HNY.out]; rintro e w5 ⟨he, hb5⟩; obtain rfl : e = .returned (.tuple #[.string ⟨#[]⟩, .bool false]) := he; have HKb := Aside0.mk (HKa.out.below_ hb5); clear hb5)) | (go_at_call 20; go_loud (refine (name_c g A1 A2 A3 c1 c2 c3 x _ HK.out.rep hsz HX.out).mono ?_; rw [HNX.out]; rintro e w4 ⟨he, hb4⟩; obtain rfl : e = .returned (.tuple #[.string s1, .bool true]) := he; have HKa := Aside0.mk (HK.out.below_ hb4); obtain ⟨u1, u2, u3, u4, u5⟩ := HKa.out.cells; clear hb4)))
              have HKc := Aside0.mk HKb.out.drew_
              refine start_ (n := 27) (S := fun w' => w'.heap[w.heap.size]? = some (.cells #[.slice A1 g.terms.length c1, .slice A2 g.names.length c2, .slice A3 g.rules.length c3] 25 (0, 0)) ∧ w'.heap[w.heap.size + 1]? = some (.cells #[.int .i64 x, .int .i64 y] 52 (0, 0))) (ds := []) #[false, false, false, false, false, false, false, false, false, false, false, false, false, false, false, false, false, false, false, false, false, false, false, false, false, false, false] (by kernel_rfl) rfl rfl (⟨HKc.out.p, HKc.out.q⟩) (fun hHeld => ?_)
              refine pure_ (i := 0) (N := (some 86)) (v := ?_) (a' := ?_) #[true, false, false, false, false, false, false, false, false, false, false, false, false, false, false, false, false, false, false, false, false, false, false, false, false, false, false] rfl rfl (by kernel_rfl) (fun _ _ _ h => h) (Or.inl ⟨by rfl, ?_⟩) ?_ ?_
              rotate_left
              · (intro w'; go_simp; with_reducible rfl)
              rotate_left
              · (simp only [Act.put, List.setIfInBounds_toArray, List.set_cons_zero, List.set_cons_succ]; rfl)
              refine pure_ (i := 1) (N := (some 87)) (v := ?_) (a' := ?_) #[true, true, false, false, false, false, false, false, false, false, false, false, false, false, false, false, false, false, false, false, false, false, false, false, false, false, false] rfl rfl (by kernel_rfl) (fun _ _ _ h => h) (Or.inl ⟨by rfl, ?_⟩) ?_ ?_
              rotate_left
              · (intro w'; go_simp; with_reducible rfl)
              rotate_left
              · (simp only [Act.put, List.setIfInBounds_toArray, List.set_cons_zero, List.set_cons_succ]; rfl)
              refine pure_ (i := 2) (N := (some 88)) (v := ?_) (a' := ?_) #[true, true, true, false, false, false, false, false, false, false, false, false, false, false, false, false, false, false, false, false, false, false, false, false, false, false, false] rfl rfl (by kernel_rfl) (fun _ _ _ h => h) (Or.inl ⟨by rfl, ?_⟩) ?_ ?_
              rotate_left
              · (intro w'; go_simp; with_reducible rfl)
              rotate_left
              · (simp only [Act.put, List.setIfInBounds_toArray, List.set_cons_zero, List.set_cons_succ]; rfl)
              refine pure_ (i := 3) (N := (some 89)) (v := ?_) (a' := ?_) #[true, true, true, true, false, false, false, false, false, false, false, false, false, false, false, false, false, false, false, false, false, false, false, false, false, false, false] rfl rfl (by kernel_rfl) (fun _ _ _ h => h) (Or.inl ⟨by rfl, ?_⟩) ?_ ?_
              rotate_left
              · (intro w'; go_simp; with_reducible rfl)
              rotate_left
              · (simp only [Act.put, List.setIfInBounds_toArray, List.set_cons_zero, List.set_cons_succ]; rfl)
              refine pure_ (i := 4) (N := (some 90)) (v := ?_) (a' := ?_) #[true, true, true, true, true, false, false, false, false, false, false, false, false, false, false, false, false, false, false, false, false, false, false, false, false, false, false] rfl rfl (by kernel_rfl) (fun _ _ _ h => h) (Or.inl ⟨by rfl, ?_⟩) ?_ ?_
              rotate_left
              · (intro w'; go_simp; with_reducible rfl)
              rotate_left
              · (simp only [Act.put, List.setIfInBounds_toArray, List.set_cons_zero, List.set_cons_succ]; rfl)
              refine pure_ (i := 5) (N := (some 91)) (v := undef) (a' := ?_) #[true, true, true, true, true, true, false, false, false, false, false, false, false, false, false, false, false, false, false, false, false, false, false, false, false, false, false] rfl rfl (by kernel_rfl) (fun _ _ _ h => h) (Or.inr ⟨by rfl, rfl⟩) ?_ ?_
              rotate_left
              · (simp only [Act.put, List.setIfInBounds_toArray, List.set_cons_zero, List.set_cons_succ]; rfl)
              refine pure_ (i := 7) (N := (some 93)) (v := undef) (a' := ?_) #[true, true, true, true, true, true, false, true, false, false, false, false, false, false, false, false, false, false, false, false, false, false, false, false, false, false, false] rfl rfl (by kernel_rfl) (fun _ _ _ h => h) (Or.inr ⟨by rfl, rfl⟩) ?_ ?_
              rotate_left
              · (simp only [Act.put, List.setIfInBounds_toArray, List.set_cons_zero, List.set_cons_succ]; rfl)
              refine pure_ (i := 6) (N := (some 92)) (v := undef) (a' := ?_) #[true, true, true, true, true, true, true, true, false, false, false, false, false, false, false, false, false, false, false, false, false, false, false, false, false, false, false] rfl rfl (by kernel_rfl) (fun _ _ _ h => h) (Or.inr ⟨by rfl, rfl⟩) ?_ ?_
              rotate_left
              · (simp only [Act.put, List.setIfInBounds_toArray, List.set_cons_zero, List.set_cons_succ]; rfl)
              refine pure_ (i := 8) (N := (some 94)) (v := undef) (a' := ?_) #[true, true, true, true, true, true, true, true, true, false, false, false, false, false, false, false, false, false, false, false, false, false, false, false, false, false, false] rfl rfl (by kernel_rfl) (fun _ _ _ h => h) (Or.inr ⟨by rfl, rfl⟩) ?_ ?_
              rotate_left
              · (simp only [Act.put, List.setIfInBounds_toArray, List.set_cons_zero, List.set_cons_succ]; rfl)
              refine pure_ (i := 9) (N := (some 95)) (v := undef) (a' := ?_) #[true, true, true, true, true, true, true, true, true, true, false, false, false, false, false, false, false, false, false, false, false, false, false, false, false, false, false] rfl rfl (by kernel_rfl) (fun _ _ _ h => h) (Or.inr ⟨by rfl, rfl⟩) ?_ ?_
              rotate_left
              · (simp only [Act.put, List.setIfInBounds_toArray, List.set_cons_zero, List.set_cons_succ]; rfl)
              refine pure_ (i := 10) (N := (some 96)) (v := ?_) (a' := ?_) #[true, true, true, true, true, true, true, true, true, true, true, false, false, false, false, false, false, false, false, false, false, false, false, false, false, false, false] rfl rfl (by kernel_rfl) (fun _ _ _ h => h) (Or.inl ⟨by rfl, ?_⟩) ?_ ?_
              rotate_left
              · (intro w'; go_simp; with_reducible rfl)
              rotate_left
              · (simp only [Act.put, List.setIfInBounds_toArray, List.set_cons_zero, List.set_cons_succ]; rfl)
              refine pure_ (i := 11) (N := (some 97)) (v := ?_) (a' := ?_) #[true, true, true, true, true, true, true, true, true, true, true, true, false, false, false, false, false, false, false, false, false, false, false, false, false, false, false] rfl rfl (by kernel_rfl) (fun _ _ _ h => h) (Or.inl ⟨by rfl, ?_⟩) ?_ ?_
              rotate_left
              · (intro w'; go_simp; with_reducible rfl)
              rotate_left
              · (simp only [Act.put, List.setIfInBounds_toArray, List.set_cons_zero, List.set_cons_succ]; rfl)
              refine pure_ (i := 12) (N := (some 98)) (v := undef) (a' := ?_) #[true, true, true, true, true, true, true, true, true, true, true, true, true, false, false, false, false, false, false, false, false, false, false, false, false, false, false] rfl rfl (by kernel_rfl) (fun _ _ _ h => h) (Or.inr ⟨by rfl, rfl⟩) ?_ ?_
              rotate_left
              · (simp only [Act.put, List.setIfInBounds_toArray, List.set_cons_zero, List.set_cons_succ]; rfl)
              refine pure_ (i := 13) (N := (some 99)) (v := undef) (a' := ?_) #[true, true, true, true, true, true, true, true, true, true, true, true, true, true, false, false, false, false, false, false, false, false, false, false, false, false, false] rfl rfl (by kernel_rfl) (fun _ _ _ h => h) (Or.inr ⟨by rfl, rfl⟩) ?_ ?_
              rotate_left
              · (simp only [Act.put, List.setIfInBounds_toArray, List.set_cons_zero, List.set_cons_succ]; rfl)
              refine pure_ (i := 14) (N := (some 100)) (v := undef) (a' := ?_) #[true, true, true, true, true, true, true, true, true, true, true, true, true, true, true, false, false, false, false, false, false, false, false, false, false, false, false] rfl rfl (by kernel_rfl) (fun _ _ _ h => h) (Or.inr ⟨by rfl, rfl⟩) ?_ ?_
              rotate_left
              · (simp only [Act.put, List.setIfInBounds_toArray, List.set_cons_zero, List.set_cons_succ]; rfl)
              refine pure_ (i := 15) (N := (some 101)) (v := ?_) (a' := ?_) #[true, true, true, true, true, true, true, true, true, true, true, true, true, true, true, true, false, false, false, false, false, false, false, false, false, false, false] rfl rfl (by kernel_rfl) (fun _ _ _ h => h) (Or.inl ⟨by rfl, ?_⟩) ?_ ?_
              rotate_left
              · (intro w'; go_simp; with_reducible rfl)
              rotate_left
              · (simp only [Act.put, List.setIfInBounds_toArray, List.set_cons_zero, List.set_cons_succ]; rfl)
              refine pure_ (i := 16) (N := (some 102)) (v := ?_) (a' := ?_) #[true, true, true, true, true, true, true, true, true, true, true, true, true, true, true, true, true, false, false, false, false, false, false, false, false, false, false] rfl rfl (by kernel_rfl) (fun _ _ _ h => h) (Or.inl ⟨by rfl, ?_⟩) ?_ ?_
              rotate_left
              · (intro w'; go_simp; with_reducible rfl)
              rotate_left
              · (simp only [Act.put, List.setIfInBounds_toArray, List.set_cons_zero, List.set_cons_succ]; rfl)
              refine pure_ (i := 18) (N := (some 104)) (v := undef) (a' := ?_) #[true, true, true, true, true, true, true, true, true, true, true, true, true, true, true, true, true, false, true, false, false, false, false, false, false, false, false] rfl rfl (by kernel_rfl) (fun _ _ _ h => h) (Or.inr ⟨by rfl, rfl⟩) ?_ ?_
              rotate_left
              · (simp only [Act.put, List.setIfInBounds_toArray, List.set_cons_zero, List.set_cons_succ]; rfl)
              refine pure_ (i := 22) (N := (some 108)) (v := undef) (a' := ?_) #[true, true, true, true, true, true, true, true, true, true, true, true, true, true, true, true, true, false, true, false, false, false, true, false, false, false, false] rfl rfl (by kernel_rfl) (fun _ _ _ h => h) (Or.inr ⟨by rfl, rfl⟩) ?_ ?_
              rotate_left
              · (simp only [Act.put, List.setIfInBounds_toArray, List.set_cons_zero, List.set_cons_succ]; rfl)
              refine pure_ (i := 17) (N := (some 103)) (v := undef) (a' := ?_) #[true, true, true, true, true, true, true, true, true, true, true, true, true, true, true, true, true, true, true, false, false, false, true, false, false, false, false] rfl rfl (by kernel_rfl) (fun _ _ _ h => h) (Or.inr ⟨by rfl, rfl⟩) ?_ ?_
              rotate_left
              · (simp only [Act.put, List.setIfInBounds_toArray, List.set_cons_zero, List.set_cons_succ]; rfl)
              refine pure_ (i := 19) (N := (some 105)) (v := undef) (a' := ?_) #[true, true, true, true, true, true, true, true, true, true, true, true, true, true, true, true, true, true, true, true, false, false, true, false, false, false, false] rfl rfl (by kernel_rfl) (fun _ _ _ h => h) (Or.inr ⟨by rfl, rfl⟩) ?_ ?_
              rotate_left
              · (simp only [Act.put, List.setIfInBounds_toArray, List.set_cons_zero, List.set_cons_succ]; rfl)
              refine pure_ (i := 21) (N := (some 107)) (v := undef) (a' := ?_) #[true, true, true, true, true, true, true, true, true, true, true, true, true, true, true, true, true, true, true, true, false, true, true, false, false, false, false] rfl rfl (by kernel_rfl) (fun _ _ _ h => h) (Or.inr ⟨by rfl, rfl⟩) ?_ ?_
              rotate_left
              · (simp only [Act.put, List.setIfInBounds_toArray, List.set_cons_zero, List.set_cons_succ]; rfl)
              refine pure_ (i := 23) (N := (some 109)) (v := undef) (a' := ?_) #[true, true, true, true, true, true, true, true, true, true, true, true, true, true, true, true, true, true, true, true, false, true, true, true, false, false, false] rfl rfl (by kernel_rfl) (fun _ _ _ h => h) (Or.inr ⟨by rfl, rfl⟩) ?_ ?_
              rotate_left
              · (simp only [Act.put, List.setIfInBounds_toArray, List.set_cons_zero, List.set_cons_succ]; rfl)
              refine one_ (i := 20) (N := (some 106)) #[true, true, true, true, true, true, true, true, true, true, true, true, true, true, true, true, true, true, true, true, true, true, true, true, false, false, false] rfl rfl (by kernel_rfl) (by decide) (fun K hK => ?_)
              refine off_ (by rfl) ?_
              refine hK.out _ _ hHeld (fun hHeld => ?_)
              clear hK K
              refine norm_ (a' := ?_) ?_ ?_
              rotate_left
              · (show Act.put _ (some 106) _ = _; simp only [Act.put, List.setIfInBounds_toArray, List.set_cons_zero, List.set_cons_succ]; rfl)
              refine one_ (i := 24) (N := (some 110)) #[true, true, true, true, true, true, true, true, true, true, true, true, true, true, true, true, true, true, true, true, true, true, true, true, true, false, false] rfl rfl (by kernel_rfl) (by decide) (fun K hK => ?_)
              refine off_ (by rfl) ?_
              refine hK.out _ _ hHeld (fun hHeld => ?_)
              clear hK K
              refine norm_ (a' := ?_) ?_ ?_
              rotate_left
              · (show Act.put _ (some 110) _ = _; simp only [Act.put, List.setIfInBounds_toArray, List.set_cons_zero, List.set_cons_succ]; rfl)
              refine pure_ (i := 25) (N := (some 111)) (v := undef) (a' := ?_) #[true, true, true, true, true, true, true, true, true, true, true, true, true, true, true, true, true, true, true, true, true, true, true, true, true, true, false] rfl rfl (by kernel_rfl) (fun _ _ _ h => h) (Or.inr ⟨by rfl, rfl⟩) ?_ ?_
              rotate_left
              · (simp only [Act.put, List.setIfInBounds_toArray, List.set_cons_zero, List.set_cons_succ]; rfl)
              refine pure_ (i := 26) (N := (some 112)) (v := ?_) (a' := ?_) #[true, true, true, true, true, true, true, true, true, true, true, true, true, true, true, true, true, true, true, true, true, true, true, true, true, true, true] rfl rfl (by kernel_rfl) (fun _ _ _ h => h) (Or.inl ⟨by rfl, ?_⟩) ?_ ?_
              rotate_left
              · (intro w'; go_simp; with_reducible rfl)
              rotate_left
              · (simp only [Act.put, List.setIfInBounds_toArray, List.set_cons_zero, List.set_cons_succ]; rfl)
              refine done_ (by kernel_rfl) ?_
              go_wp2_with (go_at_call 16; go_loud (refine (wakes03_c _).mono ?_; rintro e w9 ⟨rfl, hb9⟩; have HB9 := Aside0.mk (below_then HKc.out.b HKc.out.b.size hb9); clear hb9))
              go_ret
              exact ⟨ret_bool rfl, HB9.out⟩
            | some s2 =>
              have HNY := Aside0.mk hny
              by_cases hxy : x = y
              · have dxy : (x != y) = false := by simp [hxy]
                clear hnx hny hxy
                go_wp2_with (first | (have hx := HKa.out; go_at_call 20; go_loud (refine (name_c g A1 A2 A3 c1 c2 c3 y _ HKa.out.rep hsz HY.out).mono ?_; rw [HNY.out]; rintro e w5 ⟨he, hb5⟩; obtain rfl : e = .returned (.tuple #[.string s2, .bool true]) := he; have HKb := Aside0.mk (HKa.out.below_ hb5); clear hb5)) | (go_at_call 20; go_loud (refine (name_c g A1 A2 A3 c1 c2 c3 x _ HK.out.rep hsz HX.out).mono ?_; rw [HNX.out]; rintro e w4 ⟨he, hb4⟩; obtain rfl : e = .returned (.tuple #[.string s1, .bool true]) := he; have HKa := Aside0.mk (HK.out.below_ hb4); obtain ⟨u1, u2, u3, u4, u5⟩ := HKa.out.cells; clear hb4)))
                have HKc := Aside0.mk HKb.out.drew_
                refine start_ (n := 27) (S := fun w' => w'.heap[w.heap.size]? = some (.cells #[.slice A1 g.terms.length c1, .slice A2 g.names.length c2, .slice A3 g.rules.length c3] 25 (0, 0)) ∧ w'.heap[w.heap.size + 1]? = some (.cells #[.int .i64 x, .int .i64 y] 52 (0, 0))) (ds := []) #[false, false, false, false, false, false, false, false, false, false, false, false, false, false, false, false, false, false, false, false, false, false, false, false, false, false, false] (by kernel_rfl) rfl rfl (⟨HKc.out.p, HKc.out.q⟩) (fun hHeld => ?_)
                refine pure_ (i := 0) (N := (some 86)) (v := ?_) (a' := ?_) #[true, false, false, false, false, false, false, false, false, false, false, false, false, false, false, false, false, false, false, false, false, false, false, false, false, false, false] rfl rfl (by kernel_rfl) (fun _ _ _ h => h) (Or.inl ⟨by rfl, ?_⟩) ?_ ?_
                rotate_left
                · (intro w'; go_simp; with_reducible rfl)
                rotate_left
                · (simp only [Act.put, List.setIfInBounds_toArray, List.set_cons_zero, List.set_cons_succ]; rfl)
                refine pure_ (i := 1) (N := (some 87)) (v := ?_) (a' := ?_) #[true, true, false, false, false, false, false, false, false, false, false, false, false, false, false, false, false, false, false, false, false, false, false, false, false, false, false] rfl rfl (by kernel_rfl) (fun _ _ _ h => h) (Or.inl ⟨by rfl, ?_⟩) ?_ ?_
                rotate_left
                · (intro w'; go_simp; with_reducible rfl)
                rotate_left
                · (simp only [Act.put, List.setIfInBounds_toArray, List.set_cons_zero, List.set_cons_succ]; rfl)
                refine pure_ (i := 2) (N := (some 88)) (v := ?_) (a' := ?_) #[true, true, true, false, false, false, false, false, false, false, false, false, false, false, false, false, false, false, false, false, false, false, false, false, false, false, false] rfl rfl (by kernel_rfl) (fun _ _ _ h => h) (Or.inl ⟨by rfl, ?_⟩) ?_ ?_
                rotate_left
                · (intro w'; go_simp; with_reducible rfl)
                rotate_left
                · (simp only [Act.put, List.setIfInBounds_toArray, List.set_cons_zero, List.set_cons_succ]; rfl)
                refine pure_ (i := 3) (N := (some 89)) (v := ?_) (a' := ?_) #[true, true, true, true, false, false, false, false, false, false, false, false, false, false, false, false, false, false, false, false, false, false, false, false, false, false, false] rfl rfl (by kernel_rfl) (fun _ _ _ h => h) (Or.inl ⟨by rfl, ?_⟩) ?_ ?_
                rotate_left
                · (intro w'; go_simp; with_reducible rfl)
                rotate_left
                · (simp only [Act.put, List.setIfInBounds_toArray, List.set_cons_zero, List.set_cons_succ]; rfl)
                refine pure_ (i := 4) (N := (some 90)) (v := ?_) (a' := ?_) #[true, true, true, true, true, false, false, false, false, false, false, false, false, false, false, false, false, false, false, false, false, false, false, false, false, false, false] rfl rfl (by kernel_rfl) (fun _ _ _ h => h) (Or.inl ⟨by rfl, ?_⟩) ?_ ?_
                rotate_left
                · (intro w'; go_simp; with_reducible rfl)
                rotate_left
                · (simp only [Act.put, List.setIfInBounds_toArray, List.set_cons_zero, List.set_cons_succ]; rfl)
                refine pure_ (i := 5) (N := (some 91)) (v := ?_) (a' := ?_) #[true, true, true, true, true, true, false, false, false, false, false, false, false, false, false, false, false, false, false, false, false, false, false, false, false, false, false] rfl rfl (by kernel_rfl) (fun _ _ _ h => h) (Or.inl ⟨by rfl, ?_⟩) ?_ ?_
                rotate_left
                · (intro w'; go_simp; with_reducible rfl)
                rotate_left
                · (simp only [Act.put, List.setIfInBounds_toArray, List.set_cons_zero, List.set_cons_succ]; rfl)
                refine pure_ (i := 7) (N := (some 93)) (v := ?_) (a' := ?_) #[true, true, true, true, true, true, false, true, false, false, false, false, false, false, false, false, false, false, false, false, false, false, false, false, false, false, false] rfl rfl (by kernel_rfl) (fun _ _ _ h => h) (Or.inl ⟨by rfl, ?_⟩) ?_ ?_
                rotate_left
                · (intro w'; go_simp; with_reducible rfl)
                rotate_left
                · (simp only [Act.put, List.setIfInBounds_toArray, List.set_cons_zero, List.set_cons_succ]; rfl)
                refine take_ (i := 6) (N := (some 92)) (v := ?_) (a' := ?_) #[true, true, true, true, true, true, true, true, false, false, false, false, false, false, false, false, false, false, false, false, false, false, false, false, false, false, false] rfl rfl (by kernel_rfl) (fun _ _ _ h => h) (Or.inl ⟨by rfl, ?_⟩) hHeld ?_ ?_
                rotate_left
                · (rintro w' ⟨s0, s1'⟩; have d0 : w'.cell? ⟨w.heap.size, 0, none⟩ = some (.slice A1 g.terms.length c1) := (blk_cell s0 0).trans rfl; have d1 : w'.cell? ⟨w.heap.size, 1, none⟩ = some (.slice A2 g.names.length c2) := (blk_cell s0 1).trans rfl; have d2 : w'.cell? ⟨w.heap.size, 2, none⟩ = some (.slice A3 g.rules.length c3) := (blk_cell s0 2).trans rfl; have d3 : w'.cell? ⟨w.heap.size + 1, 0, none⟩ = some (.int .i64 x) := (blk_cell s1' 0).trans rfl; have d4 : w'.cell? ⟨w.heap.size + 1, 1, none⟩ = some (.int .i64 y) := (blk_cell s1' 1).trans rfl; go_simp; with_reducible rfl)
                rotate_left
                · (simp only [Act.put, List.setIfInBounds_toArray, List.set_cons_zero, List.set_cons_succ]; rfl)
                refine take_ (i := 8) (N := (some 94)) (v := ?_) (a' := ?_) #[true, true, true, true, true, true, true, true, true, false, false, false, false, false, false, false, false, false, false, false, false, false, false, false, false, false, false] rfl rfl (by kernel_rfl) (fun _ _ _ h => h) (Or.inl ⟨by rfl, ?_⟩) hHeld ?_ ?_
                rotate_left
                · (rintro w' ⟨s0, s1'⟩; have d0 : w'.cell? ⟨w.heap.size, 0, none⟩ = some (.slice A1 g.terms.length c1) := (blk_cell s0 0).trans rfl; have d1 : w'.cell? ⟨w.heap.size, 1, none⟩ = some (.slice A2 g.names.length c2) := (blk_cell s0 1).trans rfl; have d2 : w'.cell? ⟨w.heap.size, 2, none⟩ = some (.slice A3 g.rules.length c3) := (blk_cell s0 2).trans rfl; have d3 : w'.cell? ⟨w.heap.size + 1, 0, none⟩ = some (.int .i64 x) := (blk_cell s1' 0).trans rfl; have d4 : w'.cell? ⟨w.heap.size + 1, 1, none⟩ = some (.int .i64 y) := (blk_cell s1' 1).trans rfl; go_simp; with_reducible rfl)
                rotate_left
                · (simp only [Act.put, List.setIfInBounds_toArray, List.set_cons_zero, List.set_cons_succ]; rfl)
                refine pure_ (i := 9) (N := (some 95)) (v := ?_) (a' := ?_) #[true, true, true, true, true, true, true, true, true, true, false, false, false, false, false, false, false, false, false, false, false, false, false, false, false, false, false] rfl rfl (by kernel_rfl) (fun _ _ _ h => h) (Or.inl ⟨by rfl, ?_⟩) ?_ ?_
                rotate_left
                · (intro w'; go_simp; with_reducible rfl)
                rotate_left
                · (simp only [Act.put, List.setIfInBounds_toArray, List.set_cons_zero, List.set_cons_succ]; rfl)
                refine pure_ (i := 10) (N := (some 96)) (v := ?_) (a' := ?_) #[true, true, true, true, true, true, true, true, true, true, true, false, false, false, false, false, false, false, false, false, false, false, false, false, false, false, false] rfl rfl (by kernel_rfl) (fun _ _ _ h => h) (Or.inl ⟨by rfl, ?_⟩) ?_ ?_
                rotate_left
                · (intro w'; go_simp; with_reducible rfl)
                rotate_left
                · (simp only [Act.put, List.setIfInBounds_toArray, List.set_cons_zero, List.set_cons_succ]; rfl)
                refine pure_ (i := 11) (N := (some 97)) (v := ?_) (a' := ?_) #[true, true, true, true, true, true, true, true, true, true, true, true, false, false, false, false, false, false, false, false, false, false, false, false, false, false, false] rfl rfl (by kernel_rfl) (fun _ _ _ h => h) (Or.inl ⟨by rfl, ?_⟩) ?_ ?_
                rotate_left
                · (intro w'; go_simp; with_reducible rfl)
                rotate_left
                · (simp only [Act.put, List.setIfInBounds_toArray, List.set_cons_zero, List.set_cons_succ]; rfl)
                refine pure_ (i := 12) (N := (some 98)) (v := undef) (a' := ?_) #[true, true, true, true, true, true, true, true, true, true, true, true, true, false, false, false, false, false, false, false, false, false, false, false, false, false, false] rfl rfl (by kernel_rfl) (fun _ _ _ h => h) (Or.inr ⟨by rfl, rfl⟩) ?_ ?_
                rotate_left
                · (simp only [Act.put, List.setIfInBounds_toArray, List.set_cons_zero, List.set_cons_succ]; rfl)
                refine pure_ (i := 13) (N := (some 99)) (v := undef) (a' := ?_) #[true, true, true, true, true, true, true, true, true, true, true, true, true, true, false, false, false, false, false, false, false, false, false, false, false, false, false] rfl rfl (by kernel_rfl) (fun _ _ _ h => h) (Or.inr ⟨by rfl, rfl⟩) ?_ ?_
                rotate_left
                · (simp only [Act.put, List.setIfInBounds_toArray, List.set_cons_zero, List.set_cons_succ]; rfl)
                refine pure_ (i := 14) (N := (some 100)) (v := undef) (a' := ?_) #[true, true, true, true, true, true, true, true, true, true, true, true, true, true, true, false, false, false, false, false, false, false, false, false, false, false, false] rfl rfl (by kernel_rfl) (fun _ _ _ h => h) (Or.inr ⟨by rfl, rfl⟩) ?_ ?_
                rotate_left
                · (simp only [Act.put, List.setIfInBounds_toArray, List.set_cons_zero, List.set_cons_succ]; rfl)
                refine pure_ (i := 15) (N := (some 101)) (v := ?_) (a' := ?_) #[true, true, true, true, true, true, true, true, true, true, true, true, true, true, true, true, false, false, false, false, false, false, false, false, false, false, false] rfl rfl (by kernel_rfl) (fun _ _ _ h => h) (Or.inl ⟨by rfl, ?_⟩) ?_ ?_
                rotate_left
                · (intro w'; go_simp; with_reducible rfl)
                rotate_left
                · (simp only [Act.put, List.setIfInBounds_toArray, List.set_cons_zero, List.set_cons_succ]; rfl)
                refine pure_ (i := 16) (N := (some 102)) (v := ?_) (a' := ?_) #[true, true, true, true, true, true, true, true, true, true, true, true, true, true, true, true, true, false, false, false, false, false, false, false, false, false, false] rfl rfl (by kernel_rfl) (fun _ _ _ h => h) (Or.inl ⟨by rfl, ?_⟩) ?_ ?_
                rotate_left
                · (intro w'; go_simp; with_reducible rfl)
                rotate_left
                · (simp only [Act.put, List.setIfInBounds_toArray, List.set_cons_zero, List.set_cons_succ]; rfl)
                refine pure_ (i := 18) (N := (some 104)) (v := undef) (a' := ?_) #[true, true, true, true, true, true, true, true, true, true, true, true, true, true, true, true, true, false, true, false, false, false, false, false, false, false, false] rfl rfl (by kernel_rfl) (fun _ _ _ h => h) (Or.inr ⟨by rfl, rfl⟩) ?_ ?_
                rotate_left
                · (simp only [Act.put, List.setIfInBounds_toArray, List.set_cons_zero, List.set_cons_succ]; rfl)
                refine pure_ (i := 22) (N := (some 108)) (v := undef) (a' := ?_) #[true, true, true, true, true, true, true, true, true, true, true, true, true, true, true, true, true, false, true, false, false, false, true, false, false, false, false] rfl rfl (by kernel_rfl) (fun _ _ _ h => h) (Or.inr ⟨by rfl, rfl⟩) ?_ ?_
                rotate_left
                · (simp only [Act.put, List.setIfInBounds_toArray, List.set_cons_zero, List.set_cons_succ]; rfl)
                refine pure_ (i := 17) (N := (some 103)) (v := undef) (a' := ?_) #[true, true, true, true, true, true, true, true, true, true, true, true, true, true, true, true, true, true, true, false, false, false, true, false, false, false, false] rfl rfl (by kernel_rfl) (fun _ _ _ h => h) (Or.inr ⟨by rfl, rfl⟩) ?_ ?_
                rotate_left
                · (simp only [Act.put, List.setIfInBounds_toArray, List.set_cons_zero, List.set_cons_succ]; rfl)
                refine pure_ (i := 19) (N := (some 105)) (v := undef) (a' := ?_) #[true, true, true, true, true, true, true, true, true, true, true, true, true, true, true, true, true, true, true, true, false, false, true, false, false, false, false] rfl rfl (by kernel_rfl) (fun _ _ _ h => h) (Or.inr ⟨by rfl, rfl⟩) ?_ ?_
                rotate_left
                · (simp only [Act.put, List.setIfInBounds_toArray, List.set_cons_zero, List.set_cons_succ]; rfl)
                refine pure_ (i := 21) (N := (some 107)) (v := undef) (a' := ?_) #[true, true, true, true, true, true, true, true, true, true, true, true, true, true, true, true, true, true, true, true, false, true, true, false, false, false, false] rfl rfl (by kernel_rfl) (fun _ _ _ h => h) (Or.inr ⟨by rfl, rfl⟩) ?_ ?_
                rotate_left
                · (simp only [Act.put, List.setIfInBounds_toArray, List.set_cons_zero, List.set_cons_succ]; rfl)
                refine pure_ (i := 23) (N := (some 109)) (v := undef) (a' := ?_) #[true, true, true, true, true, true, true, true, true, true, true, true, true, true, true, true, true, true, true, true, false, true, true, true, false, false, false] rfl rfl (by kernel_rfl) (fun _ _ _ h => h) (Or.inr ⟨by rfl, rfl⟩) ?_ ?_
                rotate_left
                · (simp only [Act.put, List.setIfInBounds_toArray, List.set_cons_zero, List.set_cons_succ]; rfl)
                refine one_ (i := 20) (N := (some 106)) #[true, true, true, true, true, true, true, true, true, true, true, true, true, true, true, true, true, true, true, true, true, true, true, true, false, false, false] rfl rfl (by kernel_rfl) (by decide) (fun K hK => ?_)
                refine off_ (by rfl) ?_
                refine hK.out _ _ hHeld (fun hHeld => ?_)
                clear hK K
                refine norm_ (a' := ?_) ?_ ?_
                rotate_left
                · (show Act.put _ (some 106) _ = _; simp only [Act.put, List.setIfInBounds_toArray, List.set_cons_zero, List.set_cons_succ]; rfl)
                refine one_ (i := 24) (N := (some 110)) #[true, true, true, true, true, true, true, true, true, true, true, true, true, true, true, true, true, true, true, true, true, true, true, true, true, false, false] rfl rfl (by kernel_rfl) (by decide) (fun K hK => ?_)
                refine off_ (by rfl) ?_
                refine hK.out _ _ hHeld (fun hHeld => ?_)
                clear hK K
                refine norm_ (a' := ?_) ?_ ?_
                rotate_left
                · (show Act.put _ (some 110) _ = _; simp only [Act.put, List.setIfInBounds_toArray, List.set_cons_zero, List.set_cons_succ]; rfl)
                refine pure_ (i := 25) (N := (some 111)) (v := undef) (a' := ?_) #[true, true, true, true, true, true, true, true, true, true, true, true, true, true, true, true, true, true, true, true, true, true, true, true, true, true, false] rfl rfl (by kernel_rfl) (fun _ _ _ h => h) (Or.inr ⟨by rfl, rfl⟩) ?_ ?_
                rotate_left
                · (simp only [Act.put, List.setIfInBounds_toArray, List.set_cons_zero, List.set_cons_succ]; rfl)
                refine pure_ (i := 26) (N := (some 112)) (v := ?_) (a' := ?_) #[true, true, true, true, true, true, true, true, true, true, true, true, true, true, true, true, true, true, true, true, true, true, true, true, true, true, true] rfl rfl (by kernel_rfl) (fun _ _ _ h => h) (Or.inl ⟨by rfl, ?_⟩) ?_ ?_
                rotate_left
                · (intro w'; go_simp; with_reducible rfl)
                rotate_left
                · (simp only [Act.put, List.setIfInBounds_toArray, List.set_cons_zero, List.set_cons_succ]; rfl)
                refine done_ (by kernel_rfl) ?_
                go_wp2_with (go_at_call 16; go_loud (refine (wakes03_c _).mono ?_; rintro e w9 ⟨rfl, hb9⟩; have HB9 := Aside0.mk (below_then HKc.out.b HKc.out.b.size hb9); clear hb9))
                go_ret
                exact ⟨ret_bool rfl, HB9.out⟩
              · have dxy : (x != y) = true := by simp [hxy]
                by_cases hss : s1 = s2
                · have dss : (s1.toList == s2.toList) = true := by rw [str_beq]; exact decide_eq_true hss
                  have hne : termF g x ≠ termF g y := fun ht => hxy (name_own HGD.out hnx (by rw [hss]; exact hny) ht)
                  clear hnx hny hxy hss
                  cases htx : termF g x with
                  | true =>
                    have hty : termF g y = false := by rw [htx] at hne; cases h : termF g y with
                      | true => exact absurd h.symm hne
                      | false => rfl
                    have HTX := Aside0.mk htx
                    have HTY := Aside0.mk hty
                    clear htx hty hne
                    go_wp2_with (first | (have hx := HKa.out; go_at_call 20; go_loud (refine (name_c g A1 A2 A3 c1 c2 c3 y _ HKa.out.rep hsz HY.out).mono ?_; rw [HNY.out]; rintro e w5 ⟨he, hb5⟩; obtain rfl : e = .returned (.tuple #[.string s2, .bool true]) := he; have HKb := Aside0.mk (HKa.out.below_ hb5); clear hb5)) | (go_at_call 20; go_loud (refine (name_c g A1 A2 A3 c1 c2 c3 x _ HK.out.rep hsz HX.out).mono ?_; rw [HNX.out]; rintro e w4 ⟨he, hb4⟩; obtain rfl : e = .returned (.tuple #[.string s1, .bool true]) := he; have HKa := Aside0.mk (HK.out.below_ hb4); obtain ⟨u1, u2, u3, u4, u5⟩ := HKa.out.cells; clear hb4)))
                    have HKc := Aside0.mk HKb.out.drew_
                    refine start_ (n := 27) (S := fun w' => w'.heap[w.heap.size]? = some (.cells #[.slice A1 g.terms.length c1, .slice A2 g.names.length c2, .slice A3 g.rules.length c3] 25 (0, 0)) ∧ w'.heap[w.heap.size + 1]? = some (.cells #[.int .i64 x, .int .i64 y] 52 (0, 0))) (ds := []) #[false, false, false, false, false, false, false, false, false, false, false, false, false, false, false, false, false, false, false, false, false, false, false, false, false, false, false] (by kernel_rfl) rfl rfl (⟨HKc.out.p, HKc.out.q⟩) (fun hHeld => ?_)
                    refine pure_ (i := 0) (N := (some 86)) (v := ?_) (a' := ?_) #[true, false, false, false, false, false, false, false, false, false, false, false, false, false, false, false, false, false, false, false, false, false, false, false, false, false, false] rfl rfl (by kernel_rfl) (fun _ _ _ h => h) (Or.inl ⟨by rfl, ?_⟩) ?_ ?_
                    rotate_left
                    · (intro w'; go_simp; with_reducible rfl)
                    rotate_left
                    · (simp only [Act.put, List.setIfInBounds_toArray, List.set_cons_zero, List.set_cons_succ]; rfl)
                    refine pure_ (i := 1) (N := (some 87)) (v := ?_) (a' := ?_) #[true, true, false, false, false, false, false, false, false, false, false, false, false, false, false, false, false, false, false, false, false, false, false, false, false, false, false] rfl rfl (by kernel_rfl) (fun _ _ _ h => h) (Or.inl ⟨by rfl, ?_⟩) ?_ ?_
                    rotate_left
                    · (intro w'; go_simp; with_reducible rfl)
                    rotate_left
                    · (simp only [Act.put, List.setIfInBounds_toArray, List.set_cons_zero, List.set_cons_succ]; rfl)
                    refine pure_ (i := 2) (N := (some 88)) (v := ?_) (a' := ?_) #[true, true, true, false, false, false, false, false, false, false, false, false, false, false, false, false, false, false, false, false, false, false, false, false, false, false, false] rfl rfl (by kernel_rfl) (fun _ _ _ h => h) (Or.inl ⟨by rfl, ?_⟩) ?_ ?_
                    rotate_left
                    · (intro w'; go_simp; with_reducible rfl)
                    rotate_left
                    · (simp only [Act.put, List.setIfInBounds_toArray, List.set_cons_zero, List.set_cons_succ]; rfl)
                    refine pure_ (i := 3) (N := (some 89)) (v := ?_) (a' := ?_) #[true, true, true, true, false, false, false, false, false, false, false, false, false, false, false, false, false, false, false, false, false, false, false, false, false, false, false] rfl rfl (by kernel_rfl) (fun _ _ _ h => h) (Or.inl ⟨by rfl, ?_⟩) ?_ ?_
                    rotate_left
                    · (intro w'; go_simp; with_reducible rfl)
                    rotate_left
                    · (simp only [Act.put, List.setIfInBounds_toArray, List.set_cons_zero, List.set_cons_succ]; rfl)
                    refine pure_ (i := 4) (N := (some 90)) (v := ?_) (a' := ?_) #[true, true, true, true, true, false, false, false, false, false, false, false, false, false, false, false, false, false, false, false, false, false, false, false, false, false, false] rfl rfl (by kernel_rfl) (fun _ _ _ h => h) (Or.inl ⟨by rfl, ?_⟩) ?_ ?_
                    rotate_left
                    · (intro w'; go_simp; with_reducible rfl)
                    rotate_left
                    · (simp only [Act.put, List.setIfInBounds_toArray, List.set_cons_zero, List.set_cons_succ]; rfl)
                    refine pure_ (i := 5) (N := (some 91)) (v := ?_) (a' := ?_) #[true, true, true, true, true, true, false, false, false, false, false, false, false, false, false, false, false, false, false, false, false, false, false, false, false, false, false] rfl rfl (by kernel_rfl) (fun _ _ _ h => h) (Or.inl ⟨by rfl, ?_⟩) ?_ ?_
                    rotate_left
                    · (intro w'; go_simp; with_reducible rfl)
                    rotate_left
                    · (simp only [Act.put, List.setIfInBounds_toArray, List.set_cons_zero, List.set_cons_succ]; rfl)
                    refine pure_ (i := 7) (N := (some 93)) (v := ?_) (a' := ?_) #[true, true, true, true, true, true, false, true, false, false, false, false, false, false, false, false, false, false, false, false, false, false, false, false, false, false, false] rfl rfl (by kernel_rfl) (fun _ _ _ h => h) (Or.inl ⟨by rfl, ?_⟩) ?_ ?_
                    rotate_left
                    · (intro w'; go_simp; with_reducible rfl)
                    rotate_left
                    · (simp only [Act.put, List.setIfInBounds_toArray, List.set_cons_zero, List.set_cons_succ]; rfl)
                    refine take_ (i := 6) (N := (some 92)) (v := ?_) (a' := ?_) #[true, true, true, true, true, true, true, true, false, false, false, false, false, false, false, false, false, false, false, false, false, false, false, false, false, false, false] rfl rfl (by kernel_rfl) (fun _ _ _ h => h) (Or.inl ⟨by rfl, ?_⟩) hHeld ?_ ?_
                    rotate_left
                    · (rintro w' ⟨s0, s1'⟩; have d0 : w'.cell? ⟨w.heap.size, 0, none⟩ = some (.slice A1 g.terms.length c1) := (blk_cell s0 0).trans rfl; have d1 : w'.cell? ⟨w.heap.size, 1, none⟩ = some (.slice A2 g.names.length c2) := (blk_cell s0 1).trans rfl; have d2 : w'.cell? ⟨w.heap.size, 2, none⟩ = some (.slice A3 g.rules.length c3) := (blk_cell s0 2).trans rfl; have d3 : w'.cell? ⟨w.heap.size + 1, 0, none⟩ = some (.int .i64 x) := (blk_cell s1' 0).trans rfl; have d4 : w'.cell? ⟨w.heap.size + 1, 1, none⟩ = some (.int .i64 y) := (blk_cell s1' 1).trans rfl; go_simp; with_reducible rfl)
                    rotate_left
                    · (simp only [Act.put, List.setIfInBounds_toArray, List.set_cons_zero, List.set_cons_succ]; rfl)
                    refine take_ (i := 8) (N := (some 94)) (v := ?_) (a' := ?_) #[true, true, true, true, true, true, true, true, true, false, false, false, false, false, false, false, false, false, false, false, false, false, false, false, false, false, false] rfl rfl (by kernel_rfl) (fun _ _ _ h => h) (Or.inl ⟨by rfl, ?_⟩) hHeld ?_ ?_
                    rotate_left
                    · (rintro w' ⟨s0, s1'⟩; have d0 : w'.cell? ⟨w.heap.size, 0, none⟩ = some (.slice A1 g.terms.length c1) := (blk_cell s0 0).trans rfl; have d1 : w'.cell? ⟨w.heap.size, 1, none⟩ = some (.slice A2 g.names.length c2) := (blk_cell s0 1).trans rfl; have d2 : w'.cell? ⟨w.heap.size, 2, none⟩ = some (.slice A3 g.rules.length c3) := (blk_cell s0 2).trans rfl; have d3 : w'.cell? ⟨w.heap.size + 1, 0, none⟩ = some (.int .i64 x) := (blk_cell s1' 0).trans rfl; have d4 : w'.cell? ⟨w.heap.size + 1, 1, none⟩ = some (.int .i64 y) := (blk_cell s1' 1).trans rfl; go_simp; with_reducible rfl)
                    rotate_left
                    · (simp only [Act.put, List.setIfInBounds_toArray, List.set_cons_zero, List.set_cons_succ]; rfl)
                    refine pure_ (i := 9) (N := (some 95)) (v := ?_) (a' := ?_) #[true, true, true, true, true, true, true, true, true, true, false, false, false, false, false, false, false, false, false, false, false, false, false, false, false, false, false] rfl rfl (by kernel_rfl) (fun _ _ _ h => h) (Or.inl ⟨by rfl, ?_⟩) ?_ ?_
                    rotate_left
                    · (intro w'; go_simp; with_reducible rfl)
                    rotate_left
                    · (simp only [Act.put, List.setIfInBounds_toArray, List.set_cons_zero, List.set_cons_succ]; rfl)
                    refine pure_ (i := 10) (N := (some 96)) (v := ?_) (a' := ?_) #[true, true, true, true, true, true, true, true, true, true, true, false, false, false, false, false, false, false, false, false, false, false, false, false, false, false, false] rfl rfl (by kernel_rfl) (fun _ _ _ h => h) (Or.inl ⟨by rfl, ?_⟩) ?_ ?_
                    rotate_left
                    · (intro w'; go_simp; with_reducible rfl)
                    rotate_left
                    · (simp only [Act.put, List.setIfInBounds_toArray, List.set_cons_zero, List.set_cons_succ]; rfl)
                    refine pure_ (i := 11) (N := (some 97)) (v := ?_) (a' := ?_) #[true, true, true, true, true, true, true, true, true, true, true, true, false, false, false, false, false, false, false, false, false, false, false, false, false, false, false] rfl rfl (by kernel_rfl) (fun _ _ _ h => h) (Or.inl ⟨by rfl, ?_⟩) ?_ ?_
                    rotate_left
                    · (intro w'; go_simp; with_reducible rfl)
                    rotate_left
                    · (simp only [Act.put, List.setIfInBounds_toArray, List.set_cons_zero, List.set_cons_succ]; rfl)
                    refine pure_ (i := 12) (N := (some 98)) (v := ?_) (a' := ?_) #[true, true, true, true, true, true, true, true, true, true, true, true, true, false, false, false, false, false, false, false, false, false, false, false, false, false, false] rfl rfl (by kernel_rfl) (fun _ _ _ h => h) (Or.inl ⟨by rfl, ?_⟩) ?_ ?_
                    rotate_left
                    · (intro w'; go_simp; with_reducible rfl)
                    rotate_left
                    · (simp only [Act.put, List.setIfInBounds_toArray, List.set_cons_zero, List.set_cons_succ]; rfl)
                    refine pure_ (i := 13) (N := (some 99)) (v := ?_) (a' := ?_) #[true, true, true, true, true, true, true, true, true, true, true, true, true, true, false, false, false, false, false, false, false, false, false, false, false, false, false] rfl rfl (by kernel_rfl) (fun _ _ _ h => h) (Or.inl ⟨by rfl, ?_⟩) ?_ ?_
                    rotate_left
                    · (intro w'; go_simp; with_reducible rfl)
                    rotate_left
                    · (simp only [Act.put, List.setIfInBounds_toArray, List.set_cons_zero, List.set_cons_succ]; rfl)
                    refine pure_ (i := 14) (N := (some 100)) (v := ?_) (a' := ?_) #[true, true, true, true, true, true, true, true, true, true, true, true, true, true, true, false, false, false, false, false, false, false, false, false, false, false, false] rfl rfl (by kernel_rfl) (fun _ _ _ h => h) (Or.inl ⟨by rfl, ?_⟩) ?_ ?_
                    rotate_left
                    · (intro w'; go_simp; with_reducible rfl)
                    rotate_left
                    · (simp only [Act.put, List.setIfInBounds_toArray, List.set_cons_zero, List.set_cons_succ]; rfl)
                    refine pure_ (i := 15) (N := (some 101)) (v := ?_) (a' := ?_) #[true, true, true, true, true, true, true, true, true, true, true, true, true, true, true, true, false, false, false, false, false, false, false, false, false, false, false] rfl rfl (by kernel_rfl) (fun _ _ _ h => h) (Or.inl ⟨by rfl, ?_⟩) ?_ ?_
                    rotate_left
                    · (intro w'; go_simp; with_reducible rfl)
                    rotate_left
                    · (simp only [Act.put, List.setIfInBounds_toArray, List.set_cons_zero, List.set_cons_succ]; rfl)
                    refine pure_ (i := 16) (N := (some 102)) (v := ?_) (a' := ?_) #[true, true, true, true, true, true, true, true, true, true, true, true, true, true, true, true, true, false, false, false, false, false, false, false, false, false, false] rfl rfl (by kernel_rfl) (fun _ _ _ h => h) (Or.inl ⟨by rfl, ?_⟩) ?_ ?_
                    rotate_left
                    · (intro w'; go_simp; with_reducible rfl)
                    rotate_left
                    · (simp only [Act.put, List.setIfInBounds_toArray, List.set_cons_zero, List.set_cons_succ]; rfl)
                    refine pure_ (i := 18) (N := (some 104)) (v := ?_) (a' := ?_) #[true, true, true, true, true, true, true, true, true, true, true, true, true, true, true, true, true, false, true, false, false, false, false, false, false, false, false] rfl rfl (by kernel_rfl) (fun _ _ _ h => h) (Or.inl ⟨by rfl, ?_⟩) ?_ ?_
                    rotate_left
                    · (intro w'; go_simp; with_reducible rfl)
                    rotate_left
                    · (simp only [Act.put, List.setIfInBounds_toArray, List.set_cons_zero, List.set_cons_succ]; rfl)
                    refine pure_ (i := 22) (N := (some 108)) (v := ?_) (a' := ?_) #[true, true, true, true, true, true, true, true, true, true, true, true, true, true, true, true, true, false, true, false, false, false, true, false, false, false, false] rfl rfl (by kernel_rfl) (fun _ _ _ h => h) (Or.inl ⟨by rfl, ?_⟩) ?_ ?_
                    rotate_left
                    · (intro w'; go_simp; with_reducible rfl)
                    rotate_left
                    · (simp only [Act.put, List.setIfInBounds_toArray, List.set_cons_zero, List.set_cons_succ]; rfl)
                    refine take_ (i := 17) (N := (some 103)) (v := ?_) (a' := ?_) #[true, true, true, true, true, true, true, true, true, true, true, true, true, true, true, true, true, true, true, false, false, false, true, false, false, false, false] rfl rfl (by kernel_rfl) (fun _ _ _ h => h) (Or.inl ⟨by rfl, ?_⟩) hHeld ?_ ?_
                    rotate_left
                    · (rintro w' ⟨s0, s1'⟩; have d0 : w'.cell? ⟨w.heap.size, 0, none⟩ = some (.slice A1 g.terms.length c1) := (blk_cell s0 0).trans rfl; have d1 : w'.cell? ⟨w.heap.size, 1, none⟩ = some (.slice A2 g.names.length c2) := (blk_cell s0 1).trans rfl; have d2 : w'.cell? ⟨w.heap.size, 2, none⟩ = some (.slice A3 g.rules.length c3) := (blk_cell s0 2).trans rfl; have d3 : w'.cell? ⟨w.heap.size + 1, 0, none⟩ = some (.int .i64 x) := (blk_cell s1' 0).trans rfl; have d4 : w'.cell? ⟨w.heap.size + 1, 1, none⟩ = some (.int .i64 y) := (blk_cell s1' 1).trans rfl; go_simp; with_reducible rfl)
                    rotate_left
                    · (simp only [Act.put, List.setIfInBounds_toArray, List.set_cons_zero, List.set_cons_succ]; rfl)
                    refine take_ (i := 19) (N := (some 105)) (v := ?_) (a' := ?_) #[true, true, true, true, true, true, true, true, true, true, true, true, true, true, true, true, true, true, true, true, false, false, true, false, false, false, false] rfl rfl (by kernel_rfl) (fun _ _ _ h => h) (Or.inl ⟨by rfl, ?_⟩) hHeld ?_ ?_
                    rotate_left
                    · (rintro w' ⟨s0, s1'⟩; have d0 : w'.cell? ⟨w.heap.size, 0, none⟩ = some (.slice A1 g.terms.length c1) := (blk_cell s0 0).trans rfl; have d1 : w'.cell? ⟨w.heap.size, 1, none⟩ = some (.slice A2 g.names.length c2) := (blk_cell s0 1).trans rfl; have d2 : w'.cell? ⟨w.heap.size, 2, none⟩ = some (.slice A3 g.rules.length c3) := (blk_cell s0 2).trans rfl; have d3 : w'.cell? ⟨w.heap.size + 1, 0, none⟩ = some (.int .i64 x) := (blk_cell s1' 0).trans rfl; have d4 : w'.cell? ⟨w.heap.size + 1, 1, none⟩ = some (.int .i64 y) := (blk_cell s1' 1).trans rfl; go_simp; with_reducible rfl)
                    rotate_left
                    · (simp only [Act.put, List.setIfInBounds_toArray, List.set_cons_zero, List.set_cons_succ]; rfl)
                    refine take_ (i := 21) (N := (some 107)) (v := ?_) (a' := ?_) #[true, true, true, true, true, true, true, true, true, true, true, true, true, true, true, true, true, true, true, true, false, true, true, false, false, false, false] rfl rfl (by kernel_rfl) (fun _ _ _ h => h) (Or.inl ⟨by rfl, ?_⟩) hHeld ?_ ?_
                    rotate_left
                    · (rintro w' ⟨s0, s1'⟩; have d0 : w'.cell? ⟨w.heap.size, 0, none⟩ = some (.slice A1 g.terms.length c1) := (blk_cell s0 0).trans rfl; have d1 : w'.cell? ⟨w.heap.size, 1, none⟩ = some (.slice A2 g.names.length c2) := (blk_cell s0 1).trans rfl; have d2 : w'.cell? ⟨w.heap.size, 2, none⟩ = some (.slice A3 g.rules.length c3) := (blk_cell s0 2).trans rfl; have d3 : w'.cell? ⟨w.heap.size + 1, 0, none⟩ = some (.int .i64 x) := (blk_cell s1' 0).trans rfl; have d4 : w'.cell? ⟨w.heap.size + 1, 1, none⟩ = some (.int .i64 y) := (blk_cell s1' 1).trans rfl; go_simp; with_reducible rfl)
                    rotate_left
                    · (simp only [Act.put, List.setIfInBounds_toArray, List.set_cons_zero, List.set_cons_succ]; rfl)
                    refine take_ (i := 23) (N := (some 109)) (v := ?_) (a' := ?_) #[true, true, true, true, true, true, true, true, true, true, true, true, true, true, true, true, true, true, true, true, false, true, true, true, false, false, false] rfl rfl (by kernel_rfl) (fun _ _ _ h => h) (Or.inl ⟨by rfl, ?_⟩) hHeld ?_ ?_
                    rotate_left
                    · (rintro w' ⟨s0, s1'⟩; have d0 : w'.cell? ⟨w.heap.size, 0, none⟩ = some (.slice A1 g.terms.length c1) := (blk_cell s0 0).trans rfl; have d1 : w'.cell? ⟨w.heap.size, 1, none⟩ = some (.slice A2 g.names.length c2) := (blk_cell s0 1).trans rfl; have d2 : w'.cell? ⟨w.heap.size, 2, none⟩ = some (.slice A3 g.rules.length c3) := (blk_cell s0 2).trans rfl; have d3 : w'.cell? ⟨w.heap.size + 1, 0, none⟩ = some (.int .i64 x) := (blk_cell s1' 0).trans rfl; have d4 : w'.cell? ⟨w.heap.size + 1, 1, none⟩ = some (.int .i64 y) := (blk_cell s1' 1).trans rfl; go_simp; with_reducible rfl)
                    rotate_left
                    · (simp only [Act.put, List.setIfInBounds_toArray, List.set_cons_zero, List.set_cons_succ]; rfl)
                    refine one_ (i := 20) (N := (some 106)) #[true, true, true, true, true, true, true, true, true, true, true, true, true, true, true, true, true, true, true, true, true, true, true, true, false, false, false] rfl rfl (by kernel_rfl) (by decide) (fun K hK => ?_)
                    (refine goes_ Try.func25 (by kernel_rfl) rfl #[.agg #[.slice A1 g.terms.length c1, .slice A2 g.names.length c2, .slice A3 g.rules.length c3], .int .i64 x] (by rfl) rfl rfl (by simp [Act.eval]) ?_; refine (term_c g A1 A2 A3 c1 c2 c3 x _).mono ?_; rw [HTX.out]; rintro e w6 ⟨rfl, hb6⟩; refine ⟨_, rfl, ?_⟩; have HKn := Aside0.mk (HKc.out.below_ hb6); clear HKc; have HKc := HKn; clear HKn hb6; refine hK.out _ _ ⟨HKc.out.p, HKc.out.q⟩ (fun hHeld => ?_))
                    skip
                    clear hK K
                    refine norm_ (a' := ?_) ?_ ?_
                    rotate_left
                    · (show Act.put _ (some 106) _ = _; simp only [Act.put, List.setIfInBounds_toArray, List.set_cons_zero, List.set_cons_succ]; rfl)
                    refine one_ (i := 24) (N := (some 110)) #[true, true, true, true, true, true, true, true, true, true, true, true, true, true, true, true, true, true, true, true, true, true, true, true, true, false, false] rfl rfl (by kernel_rfl) (by decide) (fun K hK => ?_)
                    (refine goes_ Try.func25 (by kernel_rfl) rfl #[.agg #[.slice A1 g.terms.length c1, .slice A2 g.names.length c2, .slice A3 g.rules.length c3], .int .i64 y] (by rfl) rfl rfl (by simp [Act.eval]) ?_; refine (term_c g A1 A2 A3 c1 c2 c3 y _).mono ?_; rw [HTY.out]; rintro e w6 ⟨rfl, hb6⟩; refine ⟨_, rfl, ?_⟩; have HKn := Aside0.mk (HKc.out.below_ hb6); clear HKc; have HKc := HKn; clear HKn hb6; refine hK.out _ _ ⟨HKc.out.p, HKc.out.q⟩ (fun hHeld => ?_))
                    skip
                    clear hK K
                    refine norm_ (a' := ?_) ?_ ?_
                    rotate_left
                    · (show Act.put _ (some 110) _ = _; simp only [Act.put, List.setIfInBounds_toArray, List.set_cons_zero, List.set_cons_succ]; rfl)
                    refine pure_ (i := 25) (N := (some 111)) (v := ?_) (a' := ?_) #[true, true, true, true, true, true, true, true, true, true, true, true, true, true, true, true, true, true, true, true, true, true, true, true, true, true, false] rfl rfl (by kernel_rfl) (fun _ _ _ h => h) (Or.inl ⟨by rfl, ?_⟩) ?_ ?_
                    rotate_left
                    · (intro w'; go_simp; with_reducible rfl)
                    rotate_left
                    · (simp only [Act.put, List.setIfInBounds_toArray, List.set_cons_zero, List.set_cons_succ]; rfl)
                    refine pure_ (i := 26) (N := (some 112)) (v := ?_) (a' := ?_) #[true, true, true, true, true, true, true, true, true, true, true, true, true, true, true, true, true, true, true, true, true, true, true, true, true, true, true] rfl rfl (by kernel_rfl) (fun _ _ _ h => h) (Or.inl ⟨by rfl, ?_⟩) ?_ ?_
                    rotate_left
                    · (intro w'; go_simp; with_reducible rfl)
                    rotate_left
                    · (simp only [Act.put, List.setIfInBounds_toArray, List.set_cons_zero, List.set_cons_succ]; rfl)
                    refine done_ (by kernel_rfl) ?_
                    go_wp2_with (go_at_call 16; go_loud (refine (wakes03_c _).mono ?_; rintro e w9 ⟨rfl, hb9⟩; have HB9 := Aside0.mk (below_then HKc.out.b HKc.out.b.size hb9); clear hb9))
                    go_ret
                    exact ⟨ret_bool rfl, HB9.out⟩
                  | false =>
                    have hty : termF g y = true := by rw [htx] at hne; cases h : termF g y with
                      | true => rfl
                      | false => exact absurd h.symm hne
                    have HTX := Aside0.mk htx
                    have HTY := Aside0.mk hty
                    clear htx hty hne
                    go_wp2_with (first | (have hx := HKa.out; go_at_call 20; go_loud (refine (name_c g A1 A2 A3 c1 c2 c3 y _ HKa.out.rep hsz HY.out).mono ?_; rw [HNY.out]; rintro e w5 ⟨he, hb5⟩; obtain rfl : e = .returned (.tuple #[.string s2, .bool true]) := he; have HKb := Aside0.mk (HKa.out.below_ hb5); clear hb5)) | (go_at_call 20; go_loud (refine (name_c g A1 A2 A3 c1 c2 c3 x _ HK.out.rep hsz HX.out).mono ?_; rw [HNX.out]; rintro e w4 ⟨he, hb4⟩; obtain rfl : e = .returned (.tuple #[.string s1, .bool true]) := he; have HKa := Aside0.mk (HK.out.below_ hb4); obtain ⟨u1, u2, u3, u4, u5⟩ := HKa.out.cells; clear hb4)))
                    have HKc := Aside0.mk HKb.out.drew_
                    refine start_ (n := 27) (S := fun w' => w'.heap[w.heap.size]? = some (.cells #[.slice A1 g.terms.length c1, .slice A2 g.names.length c2, .slice A3 g.rules.length c3] 25 (0, 0)) ∧ w'.heap[w.heap.size + 1]? = some (.cells #[.int .i64 x, .int .i64 y] 52 (0, 0))) (ds := []) #[false, false, false, false, false, false, false, false, false, false, false, false, false, false, false, false, false, false, false, false, false, false, false, false, false, false, false] (by kernel_rfl) rfl rfl (⟨HKc.out.p, HKc.out.q⟩) (fun hHeld => ?_)
                    refine pure_ (i := 0) (N := (some 86)) (v := ?_) (a' := ?_) #[true, false, false, false, false, false, false, false, false, false, false, false, false, false, false, false, false, false, false, false, false, false, false, false, false, false, false] rfl rfl (by kernel_rfl) (fun _ _ _ h => h) (Or.inl ⟨by rfl, ?_⟩) ?_ ?_
                    rotate_left
                    · (intro w'; go_simp; with_reducible rfl)
                    rotate_left
                    · (simp only [Act.put, List.setIfInBounds_toArray, List.set_cons_zero, List.set_cons_succ]; rfl)
                    refine pure_ (i := 1) (N := (some 87)) (v := ?_) (a' := ?_) #[true, true, false, false, false, false, false, false, false, false, false, false, false, false, false, false, false, false, false, false, false, false, false, false, false, false, false] rfl rfl (by kernel_rfl) (fun _ _ _ h => h) (Or.inl ⟨by rfl, ?_⟩) ?_ ?_
                    rotate_left
                    · (intro w'; go_simp; with_reducible rfl)
                    rotate_left
                    · (simp only [Act.put, List.setIfInBounds_toArray, List.set_cons_zero, List.set_cons_succ]; rfl)
                    refine pure_ (i := 2) (N := (some 88)) (v := ?_) (a' := ?_) #[true, true, true, false, false, false, false, false, false, false, false, false, false, false, false, false, false, false, false, false, false, false, false, false, false, false, false] rfl rfl (by kernel_rfl) (fun _ _ _ h => h) (Or.inl ⟨by rfl, ?_⟩) ?_ ?_
                    rotate_left
                    · (intro w'; go_simp; with_reducible rfl)
                    rotate_left
                    · (simp only [Act.put, List.setIfInBounds_toArray, List.set_cons_zero, List.set_cons_succ]; rfl)
                    refine pure_ (i := 3) (N := (some 89)) (v := ?_) (a' := ?_) #[true, true, true, true, false, false, false, false, false, false, false, false, false, false, false, false, false, false, false, false, false, false, false, false, false, false, false] rfl rfl (by kernel_rfl) (fun _ _ _ h => h) (Or.inl ⟨by rfl, ?_⟩) ?_ ?_
                    rotate_left
                    · (intro w'; go_simp; with_reducible rfl)
                    rotate_left
                    · (simp only [Act.put, List.setIfInBounds_toArray, List.set_cons_zero, List.set_cons_succ]; rfl)
                    refine pure_ (i := 4) (N := (some 90)) (v := ?_) (a' := ?_) #[true, true, true, true, true, false, false, false, false, false, false, false, false, false, false, false, false, false, false, false, false, false, false, false, false, false, false] rfl rfl (by kernel_rfl) (fun _ _ _ h => h) (Or.inl ⟨by rfl, ?_⟩) ?_ ?_
                    rotate_left
                    · (intro w'; go_simp; with_reducible rfl)
                    rotate_left
                    · (simp only [Act.put, List.setIfInBounds_toArray, List.set_cons_zero, List.set_cons_succ]; rfl)
                    refine pure_ (i := 5) (N := (some 91)) (v := ?_) (a' := ?_) #[true, true, true, true, true, true, false, false, false, false, false, false, false, false, false, false, false, false, false, false, false, false, false, false, false, false, false] rfl rfl (by kernel_rfl) (fun _ _ _ h => h) (Or.inl ⟨by rfl, ?_⟩) ?_ ?_
                    rotate_left
                    · (intro w'; go_simp; with_reducible rfl)
                    rotate_left
                    · (simp only [Act.put, List.setIfInBounds_toArray, List.set_cons_zero, List.set_cons_succ]; rfl)
                    refine pure_ (i := 7) (N := (some 93)) (v := ?_) (a' := ?_) #[true, true, true, true, true, true, false, true, false, false, false, false, false, false, false, false, false, false, false, false, false, false, false, false, false, false, false] rfl rfl (by kernel_rfl) (fun _ _ _ h => h) (Or.inl ⟨by rfl, ?_⟩) ?_ ?_
                    rotate_left
                    · (intro w'; go_simp; with_reducible rfl)
                    rotate_left
                    · (simp only [Act.put, List.setIfInBounds_toArray, List.set_cons_zero, List.set_cons_succ]; rfl)
                    refine take_ (i := 6) (N := (some 92)) (v := ?_) (a' := ?_) #[true, true, true, true, true, true, true, true, false, false, false, false, false, false, false, false, false, false, false, false, false, false, false, false, false, false, false] rfl rfl (by kernel_rfl) (fun _ _ _ h => h) (Or.inl ⟨by rfl, ?_⟩) hHeld ?_ ?_
                    rotate_left
                    · (rintro w' ⟨s0, s1'⟩; have d0 : w'.cell? ⟨w.heap.size, 0, none⟩ = some (.slice A1 g.terms.length c1) := (blk_cell s0 0).trans rfl; have d1 : w'.cell? ⟨w.heap.size, 1, none⟩ = some (.slice A2 g.names.length c2) := (blk_cell s0 1).trans rfl; have d2 : w'.cell? ⟨w.heap.size, 2, none⟩ = some (.slice A3 g.rules.length c3) := (blk_cell s0 2).trans rfl; have d3 : w'.cell? ⟨w.heap.size + 1, 0, none⟩ = some (.int .i64 x) := (blk_cell s1' 0).trans rfl; have d4 : w'.cell? ⟨w.heap.size + 1, 1, none⟩ = some (.int .i64 y) := (blk_cell s1' 1).trans rfl; go_simp; with_reducible rfl)
                    rotate_left
                    · (simp only [Act.put, List.setIfInBounds_toArray, List.set_cons_zero, List.set_cons_succ]; rfl)
                    refine take_ (i := 8) (N := (some 94)) (v := ?_) (a' := ?_) #[true, true, true, true, true, true, true, true, true, false, false, false, false, false, false, false, false, false, false, false, false, false, false, false, false, false, false] rfl rfl (by kernel_rfl) (fun _ _ _ h => h) (Or.inl ⟨by rfl, ?_⟩) hHeld ?_ ?_
                    rotate_left
                    · (rintro w' ⟨s0, s1'⟩; have d0 : w'.cell? ⟨w.heap.size, 0, none⟩ = some (.slice A1 g.terms.length c1) := (blk_cell s0 0).trans rfl; have d1 : w'.cell? ⟨w.heap.size, 1, none⟩ = some (.slice A2 g.names.length c2) := (blk_cell s0 1).trans rfl; have d2 : w'.cell? ⟨w.heap.size, 2, none⟩ = some (.slice A3 g.rules.length c3) := (blk_cell s0 2).trans rfl; have d3 : w'.cell? ⟨w.heap.size + 1, 0, none⟩ = some (.int .i64 x) := (blk_cell s1' 0).trans rfl; have d4 : w'.cell? ⟨w.heap.size + 1, 1, none⟩ = some (.int .i64 y) := (blk_cell s1' 1).trans rfl; go_simp; with_reducible rfl)
                    rotate_left
                    · (simp only [Act.put, List.setIfInBounds_toArray, List.set_cons_zero, List.set_cons_succ]; rfl)
                    refine pure_ (i := 9) (N := (some 95)) (v := ?_) (a' := ?_) #[true, true, true, true, true, true, true, true, true, true, false, false, false, false, false, false, false, false, false, false, false, false, false, false, false, false, false] rfl rfl (by kernel_rfl) (fun _ _ _ h => h) (Or.inl ⟨by rfl, ?_⟩) ?_ ?_
                    rotate_left
                    · (intro w'; go_simp; with_reducible rfl)
                    rotate_left
                    · (simp only [Act.put, List.setIfInBounds_toArray, List.set_cons_zero, List.set_cons_succ]; rfl)
                    refine pure_ (i := 10) (N := (some 96)) (v := ?_) (a' := ?_) #[true, true, true, true, true, true, true, true, true, true, true, false, false, false, false, false, false, false, false, false, false, false, false, false, false, false, false] rfl rfl (by kernel_rfl) (fun _ _ _ h => h) (Or.inl ⟨by rfl, ?_⟩) ?_ ?_
                    rotate_left
                    · (intro w'; go_simp; with_reducible rfl)
                    rotate_left
                    · (simp only [Act.put, List.setIfInBounds_toArray, List.set_cons_zero, List.set_cons_succ]; rfl)
                    refine pure_ (i := 11) (N := (some 97)) (v := ?_) (a' := ?_) #[true, true, true, true, true, true, true, true, true, true, true, true, false, false, false, false, false, false, false, false, false, false, false, false, false, false, false] rfl rfl (by kernel_rfl) (fun _ _ _ h => h) (Or.inl ⟨by rfl, ?_⟩) ?_ ?_
                    rotate_left
                    · (intro w'; go_simp; with_reducible rfl)
                    rotate_left
                    · (simp only [Act.put, List.setIfInBounds_toArray, List.set_cons_zero, List.set_cons_succ]; rfl)
                    refine pure_ (i := 12) (N := (some 98)) (v := ?_) (a' := ?_) #[true, true, true, true, true, true, true, true, true, true, true, true, true, false, false, false, false, false, false, false, false, false, false, false, false, false, false] rfl rfl (by kernel_rfl) (fun _ _ _ h => h) (Or.inl ⟨by rfl, ?_⟩) ?_ ?_
                    rotate_left
                    · (intro w'; go_simp; with_reducible rfl)
                    rotate_left
                    · (simp only [Act.put, List.setIfInBounds_toArray, List.set_cons_zero, List.set_cons_succ]; rfl)
                    refine pure_ (i := 13) (N := (some 99)) (v := ?_) (a' := ?_) #[true, true, true, true, true, true, true, true, true, true, true, true, true, true, false, false, false, false, false, false, false, false, false, false, false, false, false] rfl rfl (by kernel_rfl) (fun _ _ _ h => h) (Or.inl ⟨by rfl, ?_⟩) ?_ ?_
                    rotate_left
                    · (intro w'; go_simp; with_reducible rfl)
                    rotate_left
                    · (simp only [Act.put, List.setIfInBounds_toArray, List.set_cons_zero, List.set_cons_succ]; rfl)
                    refine pure_ (i := 14) (N := (some 100)) (v := ?_) (a' := ?_) #[true, true, true, true, true, true, true, true, true, true, true, true, true, true, true, false, false, false, false, false, false, false, false, false, false, false, false] rfl rfl (by kernel_rfl) (fun _ _ _ h => h) (Or.inl ⟨by rfl, ?_⟩) ?_ ?_
                    rotate_left
                    · (intro w'; go_simp; with_reducible rfl)
                    rotate_left
                    · (simp only [Act.put, List.setIfInBounds_toArray, List.set_cons_zero, List.set_cons_succ]; rfl)
                    refine pure_ (i := 15) (N := (some 101)) (v := ?_) (a' := ?_) #[true, true, true, true, true, true, true, true, true, true, true, true, true, true, true, true, false, false, false, false, false, false, false, false, false, false, false] rfl rfl (by kernel_rfl) (fun _ _ _ h => h) (Or.inl ⟨by rfl, ?_⟩) ?_ ?_
                    rotate_left
                    · (intro w'; go_simp; with_reducible rfl)
                    rotate_left
                    · (simp only [Act.put, List.setIfInBounds_toArray, List.set_cons_zero, List.set_cons_succ]; rfl)
                    refine pure_ (i := 16) (N := (some 102)) (v := ?_) (a' := ?_) #[true, true, true, true, true, true, true, true, true, true, true, true, true, true, true, true, true, false, false, false, false, false, false, false, false, false, false] rfl rfl (by kernel_rfl) (fun _ _ _ h => h) (Or.inl ⟨by rfl, ?_⟩) ?_ ?_
                    rotate_left
                    · (intro w'; go_simp; with_reducible rfl)
                    rotate_left
                    · (simp only [Act.put, List.setIfInBounds_toArray, List.set_cons_zero, List.set_cons_succ]; rfl)
                    refine pure_ (i := 18) (N := (some 104)) (v := ?_) (a' := ?_) #[true, true, true, true, true, true, true, true, true, true, true, true, true, true, true, true, true, false, true, false, false, false, false, false, false, false, false] rfl rfl (by kernel_rfl) (fun _ _ _ h => h) (Or.inl ⟨by rfl, ?_⟩) ?_ ?_
                    rotate_left
                    · (intro w'; go_simp; with_reducible rfl)
                    rotate_left
                    · (simp only [Act.put, List.setIfInBounds_toArray, List.set_cons_zero, List.set_cons_succ]; rfl)
                    refine pure_ (i := 22) (N := (some 108)) (v := ?_) (a' := ?_) #[true, true, true, true, true, true, true, true, true, true, true, true, true, true, true, true, true, false, true, false, false, false, true, false, false, false, false] rfl rfl (by kernel_rfl) (fun _ _ _ h => h) (Or.inl ⟨by rfl, ?_⟩) ?_ ?_
                    rotate_left
                    · (intro w'; go_simp; with_reducible rfl)
                    rotate_left
                    · (simp only [Act.put, List.setIfInBounds_toArray, List.set_cons_zero, List.set_cons_succ]; rfl)
                    refine take_ (i := 17) (N := (some 103)) (v := ?_) (a' := ?_) #[true, true, true, true, true, true, true, true, true, true, true, true, true, true, true, true, true, true, true, false, false, false, true, false, false, false, false] rfl rfl (by kernel_rfl) (fun _ _ _ h => h) (Or.inl ⟨by rfl, ?_⟩) hHeld ?_ ?_
                    rotate_left
                    · (rintro w' ⟨s0, s1'⟩; have d0 : w'.cell? ⟨w.heap.size, 0, none⟩ = some (.slice A1 g.terms.length c1) := (blk_cell s0 0).trans rfl; have d1 : w'.cell? ⟨w.heap.size, 1, none⟩ = some (.slice A2 g.names.length c2) := (blk_cell s0 1).trans rfl; have d2 : w'.cell? ⟨w.heap.size, 2, none⟩ = some (.slice A3 g.rules.length c3) := (blk_cell s0 2).trans rfl; have d3 : w'.cell? ⟨w.heap.size + 1, 0, none⟩ = some (.int .i64 x) := (blk_cell s1' 0).trans rfl; have d4 : w'.cell? ⟨w.heap.size + 1, 1, none⟩ = some (.int .i64 y) := (blk_cell s1' 1).trans rfl; go_simp; with_reducible rfl)
                    rotate_left
                    · (simp only [Act.put, List.setIfInBounds_toArray, List.set_cons_zero, List.set_cons_succ]; rfl)
                    refine take_ (i := 19) (N := (some 105)) (v := ?_) (a' := ?_) #[true, true, true, true, true, true, true, true, true, true, true, true, true, true, true, true, true, true, true, true, false, false, true, false, false, false, false] rfl rfl (by kernel_rfl) (fun _ _ _ h => h) (Or.inl ⟨by rfl, ?_⟩) hHeld ?_ ?_
                    rotate_left
                    · (rintro w' ⟨s0, s1'⟩; have d0 : w'.cell? ⟨w.heap.size, 0, none⟩ = some (.slice A1 g.terms.length c1) := (blk_cell s0 0).trans rfl; have d1 : w'.cell? ⟨w.heap.size, 1, none⟩ = some (.slice A2 g.names.length c2) := (blk_cell s0 1).trans rfl; have d2 : w'.cell? ⟨w.heap.size, 2, none⟩ = some (.slice A3 g.rules.length c3) := (blk_cell s0 2).trans rfl; have d3 : w'.cell? ⟨w.heap.size + 1, 0, none⟩ = some (.int .i64 x) := (blk_cell s1' 0).trans rfl; have d4 : w'.cell? ⟨w.heap.size + 1, 1, none⟩ = some (.int .i64 y) := (blk_cell s1' 1).trans rfl; go_simp; with_reducible rfl)
                    rotate_left
                    · (simp only [Act.put, List.setIfInBounds_toArray, List.set_cons_zero, List.set_cons_succ]; rfl)
                    refine take_ (i := 21) (N := (some 107)) (v := ?_) (a' := ?_) #[true, true, true, true, true, true, true, true, true, true, true, true, true, true, true, true, true, true, true, true, false, true, true, false, false, false, false] rfl rfl (by kernel_rfl) (fun _ _ _ h => h) (Or.inl ⟨by rfl, ?_⟩) hHeld ?_ ?_
                    rotate_left
                    · (rintro w' ⟨s0, s1'⟩; have d0 : w'.cell? ⟨w.heap.size, 0, none⟩ = some (.slice A1 g.terms.length c1) := (blk_cell s0 0).trans rfl; have d1 : w'.cell? ⟨w.heap.size, 1, none⟩ = some (.slice A2 g.names.length c2) := (blk_cell s0 1).trans rfl; have d2 : w'.cell? ⟨w.heap.size, 2, none⟩ = some (.slice A3 g.rules.length c3) := (blk_cell s0 2).trans rfl; have d3 : w'.cell? ⟨w.heap.size + 1, 0, none⟩ = some (.int .i64 x) := (blk_cell s1' 0).trans rfl; have d4 : w'.cell? ⟨w.heap.size + 1, 1, none⟩ = some (.int .i64 y) := (blk_cell s1' 1).trans rfl; go_simp; with_reducible rfl)
                    rotate_left
                    · (simp only [Act.put, List.setIfInBounds_toArray, List.set_cons_zero, List.set_cons_succ]; rfl)
                    refine take_ (i := 23) (N := (some 109)) (v := ?_) (a' := ?_) #[true, true, true, true, true, true, true, true, true, true, true, true, true, true, true, true, true, true, true, true, false, true, true, true, false, false, false] rfl rfl (by kernel_rfl) (fun _ _ _ h => h) (Or.inl ⟨by rfl, ?_⟩) hHeld ?_ ?_
                    rotate_left
                    · (rintro w' ⟨s0, s1'⟩; have d0 : w'.cell? ⟨w.heap.size, 0, none⟩ = some (.slice A1 g.terms.length c1) := (blk_cell s0 0).trans rfl; have d1 : w'.cell? ⟨w.heap.size, 1, none⟩ = some (.slice A2 g.names.length c2) := (blk_cell s0 1).trans rfl; have d2 : w'.cell? ⟨w.heap.size, 2, none⟩ = some (.slice A3 g.rules.length c3) := (blk_cell s0 2).trans rfl; have d3 : w'.cell? ⟨w.heap.size + 1, 0, none⟩ = some (.int .i64 x) := (blk_cell s1' 0).trans rfl; have d4 : w'.cell? ⟨w.heap.size + 1, 1, none⟩ = some (.int .i64 y) := (blk_cell s1' 1).trans rfl; go_simp; with_reducible rfl)
                    rotate_left
                    · (simp only [Act.put, List.setIfInBounds_toArray, List.set_cons_zero, List.set_cons_succ]; rfl)
                    refine one_ (i := 20) (N := (some 106)) #[true, true, true, true, true, true, true, true, true, true, true, true, true, true, true, true, true, true, true, true, true, true, true, true, false, false, false] rfl rfl (by kernel_rfl) (by decide) (fun K hK => ?_)
                    (refine goes_ Try.func25 (by kernel_rfl) rfl #[.agg #[.slice A1 g.terms.length c1, .slice A2 g.names.length c2, .slice A3 g.rules.length c3], .int .i64 x] (by rfl) rfl rfl (by simp [Act.eval]) ?_; refine (term_c g A1 A2 A3 c1 c2 c3 x _).mono ?_; rw [HTX.out]; rintro e w6 ⟨rfl, hb6⟩; refine ⟨_, rfl, ?_⟩; have HKn := Aside0.mk (HKc.out.below_ hb6); clear HKc; have HKc := HKn; clear HKn hb6; refine hK.out _ _ ⟨HKc.out.p, HKc.out.q⟩ (fun hHeld => ?_))
                    skip
                    clear hK K
                    refine norm_ (a' := ?_) ?_ ?_
                    rotate_left
                    · (show Act.put _ (some 106) _ = _; simp only [Act.put, List.setIfInBounds_toArray, List.set_cons_zero, List.set_cons_succ]; rfl)
                    refine one_ (i := 24) (N := (some 110)) #[true, true, true, true, true, true, true, true, true, true, true, true, true, true, true, true, true, true, true, true, true, true, true, true, true, false, false] rfl rfl (by kernel_rfl) (by decide) (fun K hK => ?_)
                    (refine goes_ Try.func25 (by kernel_rfl) rfl #[.agg #[.slice A1 g.terms.length c1, .slice A2 g.names.length c2, .slice A3 g.rules.length c3], .int .i64 y] (by rfl) rfl rfl (by simp [Act.eval]) ?_; refine (term_c g A1 A2 A3 c1 c2 c3 y _).mono ?_; rw [HTY.out]; rintro e w6 ⟨rfl, hb6⟩; refine ⟨_, rfl, ?_⟩; have HKn := Aside0.mk (HKc.out.below_ hb6); clear HKc; have HKc := HKn; clear HKn hb6; refine hK.out _ _ ⟨HKc.out.p, HKc.out.q⟩ (fun hHeld => ?_))
                    skip
                    clear hK K
                    refine norm_ (a' := ?_) ?_ ?_
                    rotate_left
                    · (show Act.put _ (some 110) _ = _; simp only [Act.put, List.setIfInBounds_toArray, List.set_cons_zero, List.set_cons_succ]; rfl)
                    refine pure_ (i := 25) (N := (some 111)) (v := ?_) (a' := ?_) #[true, true, true, true, true, true, true, true, true, true, true, true, true, true, true, true, true, true, true, true, true, true, true, true, true, true, false] rfl rfl (by kernel_rfl) (fun _ _ _ h => h) (Or.inl ⟨by rfl, ?_⟩) ?_ ?_
                    rotate_left
                    · (intro w'; go_simp; with_reducible rfl)
                    rotate_left
                    · (simp only [Act.put, List.setIfInBounds_toArray, List.set_cons_zero, List.set_cons_succ]; rfl)
                    refine pure_ (i := 26) (N := (some 112)) (v := ?_) (a' := ?_) #[true, true, true, true, true, true, true, true, true, true, true, true, true, true, true, true, true, true, true, true, true, true, true, true, true, true, true] rfl rfl (by kernel_rfl) (fun _ _ _ h => h) (Or.inl ⟨by rfl, ?_⟩) ?_ ?_
                    rotate_left
                    · (intro w'; go_simp; with_reducible rfl)
                    rotate_left
                    · (simp only [Act.put, List.setIfInBounds_toArray, List.set_cons_zero, List.set_cons_succ]; rfl)
                    refine done_ (by kernel_rfl) ?_
                    go_wp2_with (go_at_call 16; go_loud (refine (wakes03_c _).mono ?_; rintro e w9 ⟨rfl, hb9⟩; have HB9 := Aside0.mk (below_then HKc.out.b HKc.out.b.size hb9); clear hb9))
                    go_ret
                    exact ⟨ret_bool rfl, HB9.out⟩
                · have dss : (s1.toList == s2.toList) = false := by rw [str_beq]; exact decide_eq_false hss
                  clear hnx hny hxy hss
                  go_wp2_with (first | (have hx := HKa.out; go_at_call 20; go_loud (refine (name_c g A1 A2 A3 c1 c2 c3 y _ HKa.out.rep hsz HY.out).mono ?_; rw [HNY.out]; rintro e w5 ⟨he, hb5⟩; obtain rfl : e = .returned (.tuple #[.string s2, .bool true]) := he; have HKb := Aside0.mk (HKa.out.below_ hb5); clear hb5)) | (go_at_call 20; go_loud (refine (name_c g A1 A2 A3 c1 c2 c3 x _ HK.out.rep hsz HX.out).mono ?_; rw [HNX.out]; rintro e w4 ⟨he, hb4⟩; obtain rfl : e = .returned (.tuple #[.string s1, .bool true]) := he; have HKa := Aside0.mk (HK.out.below_ hb4); obtain ⟨u1, u2, u3, u4, u5⟩ := HKa.out.cells; clear hb4)))
                  have HKc := Aside0.mk HKb.out.drew_
                  refine start_ (n := 27) (S := fun w' => w'.heap[w.heap.size]? = some (.cells #[.slice A1 g.terms.length c1, .slice A2 g.names.length c2, .slice A3 g.rules.length c3] 25 (0, 0)) ∧ w'.heap[w.heap.size + 1]? = some (.cells #[.int .i64 x, .int .i64 y] 52 (0, 0))) (ds := []) #[false, false, false, false, false, false, false, false, false, false, false, false, false, false, false, false, false, false, false, false, false, false, false, false, false, false, false] (by kernel_rfl) rfl rfl (⟨HKc.out.p, HKc.out.q⟩) (fun hHeld => ?_)
                  refine pure_ (i := 0) (N := (some 86)) (v := ?_) (a' := ?_) #[true, false, false, false, false, false, false, false, false, false, false, false, false, false, false, false, false, false, false, false, false, false, false, false, false, false, false] rfl rfl (by kernel_rfl) (fun _ _ _ h => h) (Or.inl ⟨by rfl, ?_⟩) ?_ ?_
                  rotate_left
                  · (intro w'; go_simp; with_reducible rfl)
                  rotate_left
                  · (simp only [Act.put, List.setIfInBounds_toArray, List.set_cons_zero, List.set_cons_succ]; rfl)
                  refine pure_ (i := 1) (N := (some 87)) (v := ?_) (a' := ?_) #[true, true, false, false, false, false, false, false, false, false, false, false, false, false, false, false, false, false, false, false, false, false, false, false, false, false, false] rfl rfl (by kernel_rfl) (fun _ _ _ h => h) (Or.inl ⟨by rfl, ?_⟩) ?_ ?_
                  rotate_left
                  · (intro w'; go_simp; with_reducible rfl)
                  rotate_left
                  · (simp only [Act.put, List.setIfInBounds_toArray, List.set_cons_zero, List.set_cons_succ]; rfl)
                  refine pure_ (i := 2) (N := (some 88)) (v := ?_) (a' := ?_) #[true, true, true, false, false, false, false, false, false, false, false, false, false, false, false, false, false, false, false, false, false, false, false, false, false, false, false] rfl rfl (by kernel_rfl) (fun _ _ _ h => h) (Or.inl ⟨by rfl, ?_⟩) ?_ ?_
                  rotate_left
                  · (intro w'; go_simp; with_reducible rfl)
                  rotate_left
                  · (simp only [Act.put, List.setIfInBounds_toArray, List.set_cons_zero, List.set_cons_succ]; rfl)
                  refine pure_ (i := 3) (N := (some 89)) (v := ?_) (a' := ?_) #[true, true, true, true, false, false, false, false, false, false, false, false, false, false, false, false, false, false, false, false, false, false, false, false, false, false, false] rfl rfl (by kernel_rfl) (fun _ _ _ h => h) (Or.inl ⟨by rfl, ?_⟩) ?_ ?_
                  rotate_left
                  · (intro w'; go_simp; with_reducible rfl)
                  rotate_left
                  · (simp only [Act.put, List.setIfInBounds_toArray, List.set_cons_zero, List.set_cons_succ]; rfl)
                  refine pure_ (i := 4) (N := (some 90)) (v := ?_) (a' := ?_) #[true, true, true, true, true, false, false, false, false, false, false, false, false, false, false, false, false, false, false, false, false, false, false, false, false, false, false] rfl rfl (by kernel_rfl) (fun _ _ _ h => h) (Or.inl ⟨by rfl, ?_⟩) ?_ ?_
                  rotate_left
                  · (intro w'; go_simp; with_reducible rfl)
                  rotate_left
                  · (simp only [Act.put, List.setIfInBounds_toArray, List.set_cons_zero, List.set_cons_succ]; rfl)
                  refine pure_ (i := 5) (N := (some 91)) (v := ?_) (a' := ?_) #[true, true, true, true, true, true, false, false, false, false, false, false, false, false, false, false, false, false, false, false, false, false, false, false, false, false, false] rfl rfl (by kernel_rfl) (fun _ _ _ h => h) (Or.inl ⟨by rfl, ?_⟩) ?_ ?_
                  rotate_left
                  · (intro w'; go_simp; with_reducible rfl)
                  rotate_left
                  · (simp only [Act.put, List.setIfInBounds_toArray, List.set_cons_zero, List.set_cons_succ]; rfl)
                  refine pure_ (i := 7) (N := (some 93)) (v := ?_) (a' := ?_) #[true, true, true, true, true, true, false, true, false, false, false, false, false, false, false, false, false, false, false, false, false, false, false, false, false, false, false] rfl rfl (by kernel_rfl) (fun _ _ _ h => h) (Or.inl ⟨by rfl, ?_⟩) ?_ ?_
                  rotate_left
                  · (intro w'; go_simp; with_reducible rfl)
                  rotate_left
                  · (simp only [Act.put, List.setIfInBounds_toArray, List.set_cons_zero, List.set_cons_succ]; rfl)
                  refine take_ (i := 6) (N := (some 92)) (v := ?_) (a' := ?_) #[true, true, true, true, true, true, true, true, false, false, false, false, false, false, false, false, false, false, false, false, false, false, false, false, false, false, false] rfl rfl (by kernel_rfl) (fun _ _ _ h => h) (Or.inl ⟨by rfl, ?_⟩) hHeld ?_ ?_
                  rotate_left
                  · (rintro w' ⟨s0, s1'⟩; have d0 : w'.cell? ⟨w.heap.size, 0, none⟩ = some (.slice A1 g.terms.length c1) := (blk_cell s0 0).trans rfl; have d1 : w'.cell? ⟨w.heap.size, 1, none⟩ = some (.slice A2 g.names.length c2) := (blk_cell s0 1).trans rfl; have d2 : w'.cell? ⟨w.heap.size, 2, none⟩ = some (.slice A3 g.rules.length c3) := (blk_cell s0 2).trans rfl; have d3 : w'.cell? ⟨w.heap.size + 1, 0, none⟩ = some (.int .i64 x) := (blk_cell s1' 0).trans rfl; have d4 : w'.cell? ⟨w.heap.size + 1, 1, none⟩ = some (.int .i64 y) := (blk_cell s1' 1).trans rfl; go_simp; with_reducible rfl)
                  rotate_left
                  · (simp only [Act.put, List.setIfInBounds_toArray, List.set_cons_zero, List.set_cons_succ]; rfl)
                  refine take_ (i := 8) (N := (some 94)) (v := ?_) (a' := ?_) #[true, true, true, true, true, true, true, true, true, false, false, false, false, false, false, false, false, false, false, false, false, false, false, false, false, false, false] rfl rfl (by kernel_rfl) (fun _ _ _ h => h) (Or.inl ⟨by rfl, ?_⟩) hHeld ?_ ?_
                  rotate_left
                  · (rintro w' ⟨s0, s1'⟩; have d0 : w'.cell? ⟨w.heap.size, 0, none⟩ = some (.slice A1 g.terms.length c1) := (blk_cell s0 0).trans rfl; have d1 : w'.cell? ⟨w.heap.size, 1, none⟩ = some (.slice A2 g.names.length c2) := (blk_cell s0 1).trans rfl; have d2 : w'.cell? ⟨w.heap.size, 2, none⟩ = some (.slice A3 g.rules.length c3) := (blk_cell s0 2).trans rfl; have d3 : w'.cell? ⟨w.heap.size + 1, 0, none⟩ = some (.int .i64 x) := (blk_cell s1' 0).trans rfl; have d4 : w'.cell? ⟨w.heap.size + 1, 1, none⟩ = some (.int .i64 y) := (blk_cell s1' 1).trans rfl; go_simp; with_reducible rfl)
                  rotate_left
                  · (simp only [Act.put, List.setIfInBounds_toArray, List.set_cons_zero, List.set_cons_succ]; rfl)
                  refine pure_ (i := 9) (N := (some 95)) (v := ?_) (a' := ?_) #[true, true, true, true, true, true, true, true, true, true, false, false, false, false, false, false, false, false, false, false, false, false, false, false, false, false, false] rfl rfl (by kernel_rfl) (fun _ _ _ h => h) (Or.inl ⟨by rfl, ?_⟩) ?_ ?_
                  rotate_left
                  · (intro w'; go_simp; with_reducible rfl)
                  rotate_left
                  · (simp only [Act.put, List.setIfInBounds_toArray, List.set_cons_zero, List.set_cons_succ]; rfl)
                  refine pure_ (i := 10) (N := (some 96)) (v := ?_) (a' := ?_) #[true, true, true, true, true, true, true, true, true, true, true, false, false, false, false, false, false, false, false, false, false, false, false, false, false, false, false] rfl rfl (by kernel_rfl) (fun _ _ _ h => h) (Or.inl ⟨by rfl, ?_⟩) ?_ ?_
                  rotate_left
                  · (intro w'; go_simp; with_reducible rfl)
                  rotate_left
                  · (simp only [Act.put, List.setIfInBounds_toArray, List.set_cons_zero, List.set_cons_succ]; rfl)
                  refine pure_ (i := 11) (N := (some 97)) (v := ?_) (a' := ?_) #[true, true, true, true, true, true, true, true, true, true, true, true, false, false, false, false, false, false, false, false, false, false, false, false, false, false, false] rfl rfl (by kernel_rfl) (fun _ _ _ h => h) (Or.inl ⟨by rfl, ?_⟩) ?_ ?_
                  rotate_left
                  · (intro w'; go_simp; with_reducible rfl)
                  rotate_left
                  · (simp only [Act.put, List.setIfInBounds_toArray, List.set_cons_zero, List.set_cons_succ]; rfl)
                  refine pure_ (i := 12) (N := (some 98)) (v := ?_) (a' := ?_) #[true, true, true, true, true, true, true, true, true, true, true, true, true, false, false, false, false, false, false, false, false, false, false, false, false, false, false] rfl rfl (by kernel_rfl) (fun _ _ _ h => h) (Or.inl ⟨by rfl, ?_⟩) ?_ ?_
                  rotate_left
                  · (intro w'; go_simp; with_reducible rfl)
                  rotate_left
                  · (simp only [Act.put, List.setIfInBounds_toArray, List.set_cons_zero, List.set_cons_succ]; rfl)
                  refine pure_ (i := 13) (N := (some 99)) (v := ?_) (a' := ?_) #[true, true, true, true, true, true, true, true, true, true, true, true, true, true, false, false, false, false, false, false, false, false, false, false, false, false, false] rfl rfl (by kernel_rfl) (fun _ _ _ h => h) (Or.inl ⟨by rfl, ?_⟩) ?_ ?_
                  rotate_left
                  · (intro w'; go_simp; with_reducible rfl)
                  rotate_left
                  · (simp only [Act.put, List.setIfInBounds_toArray, List.set_cons_zero, List.set_cons_succ]; rfl)
                  refine pure_ (i := 14) (N := (some 100)) (v := ?_) (a' := ?_) #[true, true, true, true, true, true, true, true, true, true, true, true, true, true, true, false, false, false, false, false, false, false, false, false, false, false, false] rfl rfl (by kernel_rfl) (fun _ _ _ h => h) (Or.inl ⟨by rfl, ?_⟩) ?_ ?_
                  rotate_left
                  · (intro w'; go_simp; with_reducible rfl)
                  rotate_left
                  · (simp only [Act.put, List.setIfInBounds_toArray, List.set_cons_zero, List.set_cons_succ]; rfl)
                  refine pure_ (i := 15) (N := (some 101)) (v := ?_) (a' := ?_) #[true, true, true, true, true, true, true, true, true, true, true, true, true, true, true, true, false, false, false, false, false, false, false, false, false, false, false] rfl rfl (by kernel_rfl) (fun _ _ _ h => h) (Or.inl ⟨by rfl, ?_⟩) ?_ ?_
                  rotate_left
                  · (intro w'; go_simp; with_reducible rfl)
                  rotate_left
                  · (simp only [Act.put, List.setIfInBounds_toArray, List.set_cons_zero, List.set_cons_succ]; rfl)
                  refine pure_ (i := 16) (N := (some 102)) (v := ?_) (a' := ?_) #[true, true, true, true, true, true, true, true, true, true, true, true, true, true, true, true, true, false, false, false, false, false, false, false, false, false, false] rfl rfl (by kernel_rfl) (fun _ _ _ h => h) (Or.inl ⟨by rfl, ?_⟩) ?_ ?_
                  rotate_left
                  · (intro w'; go_simp; with_reducible rfl)
                  rotate_left
                  · (simp only [Act.put, List.setIfInBounds_toArray, List.set_cons_zero, List.set_cons_succ]; rfl)
                  refine pure_ (i := 18) (N := (some 104)) (v := undef) (a' := ?_) #[true, true, true, true, true, true, true, true, true, true, true, true, true, true, true, true, true, false, true, false, false, false, false, false, false, false, false] rfl rfl (by kernel_rfl) (fun _ _ _ h => h) (Or.inr ⟨by rfl, rfl⟩) ?_ ?_
                  rotate_left
                  · (simp only [Act.put, List.setIfInBounds_toArray, List.set_cons_zero, List.set_cons_succ]; rfl)
                  refine pure_ (i := 22) (N := (some 108)) (v := undef) (a' := ?_) #[true, true, true, true, true, true, true, true, true, true, true, true, true, true, true, true, true, false, true, false, false, false, true, false, false, false, false] rfl rfl (by kernel_rfl) (fun _ _ _ h => h) (Or.inr ⟨by rfl, rfl⟩) ?_ ?_
                  rotate_left
                  · (simp only [Act.put, List.setIfInBounds_toArray, List.set_cons_zero, List.set_cons_succ]; rfl)
                  refine pure_ (i := 17) (N := (some 103)) (v := undef) (a' := ?_) #[true, true, true, true, true, true, true, true, true, true, true, true, true, true, true, true, true, true, true, false, false, false, true, false, false, false, false] rfl rfl (by kernel_rfl) (fun _ _ _ h => h) (Or.inr ⟨by rfl, rfl⟩) ?_ ?_
                  rotate_left
                  · (simp only [Act.put, List.setIfInBounds_toArray, List.set_cons_zero, List.set_cons_succ]; rfl)
                  refine pure_ (i := 19) (N := (some 105)) (v := undef) (a' := ?_) #[true, true, true, true, true, true, true, true, true, true, true, true, true, true, true, true, true, true, true, true, false, false, true, false, false, false, false] rfl rfl (by kernel_rfl) (fun _ _ _ h => h) (Or.inr ⟨by rfl, rfl⟩) ?_ ?_
                  rotate_left
                  · (simp only [Act.put, List.setIfInBounds_toArray, List.set_cons_zero, List.set_cons_succ]; rfl)
                  refine pure_ (i := 21) (N := (some 107)) (v := undef) (a' := ?_) #[true, true, true, true, true, true, true, true, true, true, true, true, true, true, true, true, true, true, true, true, false, true, true, false, false, false, false] rfl rfl (by kernel_rfl) (fun _ _ _ h => h) (Or.inr ⟨by rfl, rfl⟩) ?_ ?_
                  rotate_left
                  · (simp only [Act.put, List.setIfInBounds_toArray, List.set_cons_zero, List.set_cons_succ]; rfl)
                  refine pure_ (i := 23) (N := (some 109)) (v := undef) (a' := ?_) #[true, true, true, true, true, true, true, true, true, true, true, true, true, true, true, true, true, true, true, true, false, true, true, true, false, false, false] rfl rfl (by kernel_rfl) (fun _ _ _ h => h) (Or.inr ⟨by rfl, rfl⟩) ?_ ?_
                  rotate_left
                  · (simp only [Act.put, List.setIfInBounds_toArray, List.set_cons_zero, List.set_cons_succ]; rfl)
                  refine one_ (i := 20) (N := (some 106)) #[true, true, true, true, true, true, true, true, true, true, true, true, true, true, true, true, true, true, true, true, true, true, true, true, false, false, false] rfl rfl (by kernel_rfl) (by decide) (fun K hK => ?_)
                  refine off_ (by rfl) ?_
                  refine hK.out _ _ hHeld (fun hHeld => ?_)
                  clear hK K
                  refine norm_ (a' := ?_) ?_ ?_
                  rotate_left
                  · (show Act.put _ (some 106) _ = _; simp only [Act.put, List.setIfInBounds_toArray, List.set_cons_zero, List.set_cons_succ]; rfl)
                  refine one_ (i := 24) (N := (some 110)) #[true, true, true, true, true, true, true, true, true, true, true, true, true, true, true, true, true, true, true, true, true, true, true, true, true, false, false] rfl rfl (by kernel_rfl) (by decide) (fun K hK => ?_)
                  refine off_ (by rfl) ?_
                  refine hK.out _ _ hHeld (fun hHeld => ?_)
                  clear hK K
                  refine norm_ (a' := ?_) ?_ ?_
                  rotate_left
                  · (show Act.put _ (some 110) _ = _; simp only [Act.put, List.setIfInBounds_toArray, List.set_cons_zero, List.set_cons_succ]; rfl)
                  refine pure_ (i := 25) (N := (some 111)) (v := undef) (a' := ?_) #[true, true, true, true, true, true, true, true, true, true, true, true, true, true, true, true, true, true, true, true, true, true, true, true, true, true, false] rfl rfl (by kernel_rfl) (fun _ _ _ h => h) (Or.inr ⟨by rfl, rfl⟩) ?_ ?_
                  rotate_left
                  · (simp only [Act.put, List.setIfInBounds_toArray, List.set_cons_zero, List.set_cons_succ]; rfl)
                  refine pure_ (i := 26) (N := (some 112)) (v := ?_) (a' := ?_) #[true, true, true, true, true, true, true, true, true, true, true, true, true, true, true, true, true, true, true, true, true, true, true, true, true, true, true] rfl rfl (by kernel_rfl) (fun _ _ _ h => h) (Or.inl ⟨by rfl, ?_⟩) ?_ ?_
                  rotate_left
                  · (intro w'; go_simp; with_reducible rfl)
                  rotate_left
                  · (simp only [Act.put, List.setIfInBounds_toArray, List.set_cons_zero, List.set_cons_succ]; rfl)
                  refine done_ (by kernel_rfl) ?_
                  go_wp2_with (go_at_call 16; go_loud (refine (wakes03_c _).mono ?_; rintro e w9 ⟨rfl, hb9⟩; have HB9 := Aside0.mk (below_then HKc.out.b HKc.out.b.size hb9); clear hb9))
                  go_ret
                  exact ⟨ret_bool rfl, HB9.out⟩
end Go.Proofs.Ytphmmppmhphgeaa
