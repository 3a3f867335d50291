/- The contract of law 03's 'is': is a rule that alternative. -/
import Derived.Test.YtphmmppmhphgeaaP3
import Derived.Test.YtphmmppmhphgeaaF1
import Derived.Test.YtphmmppmhphgeaaE4
set_option linter.unusedVariables false
set_option linter.unusedSimpArgs false
namespace Go.Proofs.Ytphmmppmhphgeaa
open Go.RowKit Go.Proofs.YtphmmppmhphgeaaW.PrintWords Go.Proofs.YtphmmppmhphgeaaW.PrintLast

structure IK (w W : World) (g : Gram) (A1 A2 A3 : Option Addr) (c1 c2 c3 : Nat) (x : Rule) (R : Option Addr) (cr : Nat) (right : List Tok) (B : Option Addr) : Prop where
  rep : RepG W g A1 A2 A3 c1 c2 c3
  p : W.heap[w.heap.size]? = some (.cells #[.slice A1 g.terms.length c1, .slice A2 g.names.length c2, .slice A3 g.rules.length c3] 25 (0, 0))
  q : W.heap[w.heap.size + 1]? = some (.cells #[.int .i64 x.left, .slice R x.right.length cr] 56 (0, 0))
  rr : kInt.C W R x.right.length x.right
  rt : kTok.C W B right.length right
  b : Below w.heap.size w W
section
variable {w W W1 : World} {g : Gram} {A1 A2 A3 : Option Addr} {c1 c2 c3 : Nat} {x : Rule} {R B : Option Addr} {cr : Nat} {right : List Tok}
theorem IK.below_ (h : IK w W g A1 A2 A3 c1 c2 c3 x R cr right B) (hb : Below W.heap.size W W1) : IK w W1 g A1 A2 A3 c1 c2 c3 x R cr right B :=
  ⟨h.rep.below_ hb, blk_below h.p hb, blk_below h.q hb, Kd.C_below h.rr hb, Kd.C_below h.rt hb, below_then h.b h.b.size hb⟩
theorem IK.drew_ (h : IK w W g A1 A2 A3 c1 c2 c3 x R cr right B) : IK w W.drew g A1 A2 A3 c1 c2 c3 x R cr right B := h.below_ (below_drew1 (Below.refl _ _))
theorem IK.cells (h : IK w W g A1 A2 A3 c1 c2 c3 x R cr right B) : W.cell? ⟨w.heap.size, 0, none⟩ = some (.slice A1 g.terms.length c1) ∧ W.cell? ⟨w.heap.size, 1, none⟩ = some (.slice A2 g.names.length c2) ∧ W.cell? ⟨w.heap.size, 2, none⟩ = some (.slice A3 g.rules.length c3) ∧ W.cell? ⟨w.heap.size + 1, 0, none⟩ = some (.int .i64 x.left) ∧ W.cell? ⟨w.heap.size + 1, 1, none⟩ = some (.slice R x.right.length cr) :=
  ⟨(blk_cell h.p 0).trans rfl, (blk_cell h.p 1).trans rfl, (blk_cell h.p 2).trans rfl, (blk_cell h.q 0).trans rfl, (blk_cell h.q 1).trans rfl⟩
end
/-- What a round of the loop reads. -/
def IS (b : Nat) (g : Gram) (A1 A2 A3 : Option Addr) (c1 c2 c3 : Nat) (x : Rule) (cr k : Nat) (ad bd : Addr) (z kind : Int) (text : ByteArray) (w' : World) : Prop :=
  w'.heap[b]? = some (.cells #[.slice A1 g.terms.length c1, .slice A2 g.names.length c2, .slice A3 g.rules.length c3] 25 (0, 0)) ∧
  w'.heap[b + 1]? = some (.cells #[.int .i64 x.left, .slice (some ad) x.right.length cr] 56 (0, 0)) ∧
  w'.cell? (ad.add k) = some (.int .i64 z) ∧ w'.cell? (bd.add (k * 3)) = some (.int .i64 kind) ∧ w'.cell? ⟨(bd.add (k * 3)).block, (bd.add (k * 3)).off + 1, none⟩ = some (.string text)
theorem IK.held {w W : World} {g : Gram} {A1 A2 A3 : Option Addr} {c1 c2 c3 : Nat} {x : Rule} {ad bd : Addr} {cr : Nat} {right : List Tok} (h : IK w W g A1 A2 A3 c1 c2 c3 x (some ad) cr right (some bd)) (k : Nat) (hk : k < x.right.length) (hk2 : k < right.length) :
    IS w.heap.size g A1 A2 A3 c1 c2 c3 x cr k ad bd (x.right[k]'hk) (right[k]'hk2).kind (right[k]'hk2).text W := by
  obtain ⟨ad', e, hx⟩ := at_int h.rr k hk
  cases e
  obtain ⟨bd', e, h1, h2, _⟩ := at_tok h.rt k hk2
  cases e
  exact ⟨h.p, h.q, hx, h1, h2⟩
theorem sameR_drop {g : Gram} {l : List Int} {r : List Tok} {k : Nat} {V : Bool} (hk : k < l.length) (hk2 : k < r.length) (h : sameR g (l.drop k) (r.drop k) = V) :
    (decide (nameF g (l[k]'hk) = some (r[k]'hk2).text) && (termF g (l[k]'hk) == decide ((r[k]'hk2).kind = 2)) && sameR g (l.drop (k + 1)) (r.drop (k + 1))) = V := by
  rw [List.drop_eq_getElem_cons hk, List.drop_eq_getElem_cons hk2, sameR] at h
  exact h
theorem isF_is {g : Gram} {x : Rule} {left : ByteArray} {right : List Tok} (h1 : nameF g x.left = some left) (h2 : termF g x.left = false) (h3 : x.right.length = right.length) : isF g x left right = sameR g x.right right := by
  unfold isF
  rw [h1, h2, h3]
  simp
set_option maxRecDepth 100000 in
set_option maxHeartbeats 4000000 in
theorem is_c (g : Gram) (A1 A2 A3 : Option Addr) (c1 c2 c3 : Nat) (rule : Nat) (left : ByteArray) (right : List Tok) (B : Option Addr) (d n : Nat) (w : World) (hg : RepG w g A1 A2 A3 c1 c2 c3) (hgood : goodF g = true) (ht : kTok.C w B n right) (hlt : rule < g.rules.length) :
    Calls Try.prog 27 #[.agg #[.slice A1 g.terms.length c1, .slice A2 g.names.length c2, .slice A3 g.rules.length c3], .int .i64 rule, .string left, .slice B n d] w fun e w' => e = .returned (.bool (isF g (g.rules[rule]'hlt) left right)) ∧ Below w.heap.size w w' := by
  obtain rfl := C_len ht
  have hmr := C_max ht
  have hm := C_max hg.rules
  have hgf := good_facts hgood
  have hsz : g.terms.length + g.names.length ≤ 4000000000000000 := by omega
  have HB0 : Below w.heap.size w (w.alloc (.cells #[.slice A1 g.terms.length c1, .slice A2 g.names.length c2, .slice A3 g.rules.length c3] 25 (0, 0))) := (Below.refl w.heap.size w).alloc (Nat.le_refl _) _
  obtain ⟨a3, R, cr, rfl, hx1, hx2, hcr, hR⟩ := at_rule (Kd.C_below hg.rules HB0) rule hlt
  have hrl : (g.rules[rule]'hlt) ∈ g.rules := List.getElem_mem hlt
  obtain ⟨x, hx⟩ : ∃ x, x = g.rules[rule]'hlt := ⟨_, rfl⟩
  rw [← hx] at hx1 hx2 hcr hR hrl ⊢
  have hru : rulF g.terms.length (g.terms.length + g.names.length) [] g.rules = true := by
    unfold goodF ruledF at hgood
    simp only [Bool.and_eq_true, decide_eq_true_eq] at hgood
    exact hgood.1.1.2.2
  obtain ⟨l0, l1, l2, l3⟩ := rulF_mem hru x hrl
  obtain ⟨s0, hs0⟩ := name_in (g := g) (z := x.left) (by omega) (by omega)
  have hterm : termF g x.left = false := decide_eq_false (by omega)
  have hlb : -9223372036854775808 ≤ x.left ∧ x.left ≤ 9223372036854775807 := by omega
  have HK0 : Aside0 (IK w ((w.alloc (.cells #[.slice A1 g.terms.length c1, .slice A2 g.names.length c2, .slice (some a3) g.rules.length c3] 25 (0, 0))).alloc (.cells #[.int .i64 x.left, .slice R x.right.length cr] 56 (0, 0))) g A1 A2 (some a3) c1 c2 c3 x R cr right B) := ⟨by
    have hW : Below w.heap.size w ((w.alloc (.cells #[.slice A1 g.terms.length c1, .slice A2 g.names.length c2, .slice (some a3) g.rules.length c3] 25 (0, 0))).alloc (.cells #[.int .i64 x.left, .slice R x.right.length cr] 56 (0, 0))) := ((Below.refl w.heap.size w).alloc (Nat.le_refl _) _).alloc (by simp) _
    exact ⟨hg.below_ hW, blk_alloc (blk_new w _) _, blk_two w _ _, Kd.C_below hR (below_alloc (Below.refl _ _) _), Kd.C_below ht hW, hW⟩⟩
  clear hg ht hR hgood hgf hru hrl HB0
  have HX := Aside0.mk hx
  have HN0 := Aside0.mk hs0
  have HT0 := Aside0.mk hterm
  have HL3 := Aside0.mk l3
  clear hx hs0 hterm l3
  obtain ⟨r1, r2, r3, r4, r5⟩ := HK0.out.cells
  have i1 : (0 : Int) ≤ (rule : Int) := by omega
  have i2 : (rule : Int) < (g.rules.length : Int) := by omega
  by_cases hnl : s0 = left
  · have hnb : (s0.toList == left.toList) = true := by rw [str_beq]; exact decide_eq_true hnl
    subst hnl
    by_cases hlen : x.right.length = right.length
    · have hlb2 : ((x.right.length : Int) != (right.length : Int)) = false := by rw [hlen]; simp
      have HE := Aside0.mk (isF_is (g := g) (left := s0) (x := x) (right := right) HN0.out HT0.out hlen)
      have HLEN := Lib.hid hlen
      clear hlen
      go_enter Try.func27, Try.ntmps27
      go_wp2_with (first | (have hx := HK1.out; go_at_call 25; go_loud (refine (term_c g A1 A2 (some a3) c1 c2 c3 _ _).mono ?_; rw [HT0.out]; rintro e w2 ⟨rfl, hb2⟩; have HK2 := Aside0.mk (HK1.out.below_ hb2); obtain ⟨t1, t2, t3, t4, t5⟩ := HK2.out.cells; clear hb2)) | (go_at_call 20; go_loud (refine (name_c g A1 A2 (some a3) c1 c2 c3 _ _ HK0.out.rep hsz hlb).mono ?_; rw [HN0.out]; rintro e w1 ⟨he, hb1⟩; obtain rfl : e = .returned (.tuple #[.string s0, .bool true]) := he; have HK1 := Aside0.mk (HK0.out.below_ hb1); obtain ⟨q1, q2, q3, q4, q5⟩ := HK1.out.cells; clear hb1)))
      clear HK0 HK1 r1 r2 r3 r4 r5 q1 q2 q3 q4 q5 t1 t2 t3 t4 t5
      go_loopw [12] (fun i wr => ∃ k : Nat, k ≤ right.length ∧ i = .int .i64 k ∧ Aside0 (sameR g (x.right.drop k) (right.drop k) = sameR g x.right right) ∧ Aside0 (IK w wr g A1 A2 (some a3) c1 c2 c3 x R cr right B)) (fun i _ => right.length - (intOf i).toNat)
      case atStart => exact ⟨0, Nat.zero_le _, rfl, ⟨rfl⟩, HK2⟩
      case round =>
        clear HK2
        obtain ⟨k, hk, rfl, HS, HK⟩ := hrel
        by_cases hk2 : k < right.length
        · have hk1 : k < x.right.length := by have := HLEN.out; omega
          have hzs := HL3.out _ (List.getElem_mem hk1)
          have hzb : -9223372036854775808 ≤ (x.right[k]'hk1) ∧ (x.right[k]'hk1) ≤ 9223372036854775807 := by omega
          obtain ⟨s, hs⟩ := name_in (g := g) hzs.1 hzs.2
          obtain ⟨ad, eR, _⟩ := at_int HK.out.rr k hk1
          subst eR
          obtain ⟨bd, eB, _⟩ := at_tok HK.out.rt k hk2
          subst eB
          have HNM := Aside0.mk hs
          have j1 : (0 : Int) ≤ (k : Int) := by omega
          have j2 : (k : Int) < (right.length : Int) := by omega
          have j3 : (k : Int) < (x.right.length : Int) := by omega
          have HD := Aside0.mk (sameR_drop hk1 hk2 HS.out)
          clear hs hzs HS
          by_cases hst : s = (right[k]'hk2).text
          · have hsb : (s.toList == (right[k]'hk2).text.toList) = true := by rw [str_beq]; exact decide_eq_true hst
            cases htm : termF g (x.right[k]'hk1) with
            | true =>
              have HTM := Aside0.mk htm
              clear htm
              by_cases hkd : (right[k]'hk2).kind = 2
              · have HST := Aside0.mk hst
                have HKD := Aside0.mk hkd
                have hkb : (((right[k]'hk2).kind == 2) : Bool) = true := by rw [hkd]; rfl
                clear hst hkd
                go_wp2
                refine start_ (n := 12) (S := fun w' => IS w.heap.size g A1 A2 (some a3) c1 c2 c3 x cr k ad bd (x.right[k]'hk1) (right[k]'hk2).kind (right[k]'hk2).text w') (ds := []) #[false, false, false, false, false, false, false, false, false, false, false, false] (by kernel_rfl) rfl rfl (HK.out.drew_.held k hk1 hk2) (fun hHeld => ?_)
                refine pure_ (i := 1) (N := (some 56)) (v := ?_) (a' := ?_) #[false, true, false, false, false, false, false, false, false, false, false, false] rfl rfl (by kernel_rfl) (fun _ _ _ h => h) (Or.inl ⟨by rfl, ?_⟩) ?_ ?_
                rotate_left
                · (intro w'; go_simp; with_reducible rfl)
                rotate_left
                · (simp only [Act.put, List.setIfInBounds_toArray, List.set_cons_zero, List.set_cons_succ]; rfl)
                refine pure_ (i := 3) (N := (some 58)) (v := ?_) (a' := ?_) #[false, true, false, true, false, false, false, false, false, false, false, false] rfl rfl (by kernel_rfl) (fun _ _ _ h => h) (Or.inl ⟨by rfl, ?_⟩) ?_ ?_
                rotate_left
                · (intro w'; go_simp; with_reducible rfl)
                rotate_left
                · (simp only [Act.put, List.setIfInBounds_toArray, List.set_cons_zero, List.set_cons_succ]; rfl)
                refine take_ (i := 0) (N := (some 55)) (v := ?_) (a' := ?_) #[true, true, false, true, false, false, false, false, false, false, false, false] rfl rfl (by kernel_rfl) (fun _ _ _ h => h) (Or.inl ⟨by rfl, ?_⟩) hHeld ?_ ?_
                rotate_left
                · (rintro w' ⟨s0, s1, s2, s3, s4⟩; have d0 : w'.cell? ⟨w.heap.size, 0, none⟩ = some (.slice A1 g.terms.length c1) := (blk_cell s0 0).trans rfl; have d1 : w'.cell? ⟨w.heap.size, 1, none⟩ = some (.slice A2 g.names.length c2) := (blk_cell s0 1).trans rfl; have d2 : w'.cell? ⟨w.heap.size, 2, none⟩ = some (.slice (some a3) g.rules.length c3) := (blk_cell s0 2).trans rfl; have d3 : w'.cell? ⟨w.heap.size + 1, 1, none⟩ = some (.slice (some ad) x.right.length cr) := (blk_cell s1 1).trans rfl; go_simp; with_reducible rfl)
                rotate_left
                · (simp only [Act.put, List.setIfInBounds_toArray, List.set_cons_zero, List.set_cons_succ]; rfl)
                refine take_ (i := 2) (N := (some 57)) (v := ?_) (a' := ?_) #[true, true, true, true, false, false, false, false, false, false, false, false] rfl rfl (by kernel_rfl) (fun _ _ _ h => h) (Or.inl ⟨by rfl, ?_⟩) hHeld ?_ ?_
                rotate_left
                · (rintro w' ⟨s0, s1, s2, s3, s4⟩; have d0 : w'.cell? ⟨w.heap.size, 0, none⟩ = some (.slice A1 g.terms.length c1) := (blk_cell s0 0).trans rfl; have d1 : w'.cell? ⟨w.heap.size, 1, none⟩ = some (.slice A2 g.names.length c2) := (blk_cell s0 1).trans rfl; have d2 : w'.cell? ⟨w.heap.size, 2, none⟩ = some (.slice (some a3) g.rules.length c3) := (blk_cell s0 2).trans rfl; have d3 : w'.cell? ⟨w.heap.size + 1, 1, none⟩ = some (.slice (some ad) x.right.length cr) := (blk_cell s1 1).trans rfl; go_simp; with_reducible rfl)
                rotate_left
                · (simp only [Act.put, List.setIfInBounds_toArray, List.set_cons_zero, List.set_cons_succ]; rfl)
                refine pure_ (i := 4) (N := (some 59)) (v := ?_) (a' := ?_) #[true, true, true, true, true, false, false, false, false, false, false, false] rfl rfl (by kernel_rfl) (fun _ _ _ h => h) (Or.inl ⟨by rfl, ?_⟩) ?_ ?_
                rotate_left
                · (intro w'; go_simp; with_reducible rfl)
                rotate_left
                · (simp only [Act.put, List.setIfInBounds_toArray, List.set_cons_zero, List.set_cons_succ]; rfl)
                refine take_ (i := 5) (N := (some 60)) (v := ?_) (a' := ?_) #[true, true, true, true, true, true, false, false, false, false, false, false] rfl rfl (by kernel_rfl) (fun _ _ _ h => h) (Or.inl ⟨by rfl, ?_⟩) hHeld ?_ ?_
                rotate_left
                · (rintro w' ⟨s0, s1, s2, s3, s4⟩; have d0 : w'.cell? ⟨w.heap.size, 0, none⟩ = some (.slice A1 g.terms.length c1) := (blk_cell s0 0).trans rfl; have d1 : w'.cell? ⟨w.heap.size, 1, none⟩ = some (.slice A2 g.names.length c2) := (blk_cell s0 1).trans rfl; have d2 : w'.cell? ⟨w.heap.size, 2, none⟩ = some (.slice (some a3) g.rules.length c3) := (blk_cell s0 2).trans rfl; have d3 : w'.cell? ⟨w.heap.size + 1, 1, none⟩ = some (.slice (some ad) x.right.length cr) := (blk_cell s1 1).trans rfl; go_simp; with_reducible rfl)
                rotate_left
                · (simp only [Act.put, List.setIfInBounds_toArray, List.set_cons_zero, List.set_cons_succ]; rfl)
                refine one_ (i := 6) (N := (some 61)) #[true, true, true, true, true, true, true, false, false, false, false, false] rfl rfl (by kernel_rfl) (by decide) (fun K hK => ?_)
                (refine goes_ Try.func20 (by kernel_rfl) rfl #[.agg #[.slice A1 g.terms.length c1, .slice A2 g.names.length c2, .slice (some a3) g.rules.length c3], .int .i64 (x.right[k]'hk1)] (by rfl) rfl rfl (by simp [Act.eval]) ?_; refine (name_c g A1 A2 (some a3) c1 c2 c3 _ _ (HK.out.drew_).rep hsz hzb).mono ?_; rw [HNM.out]; rintro e w5 ⟨he, hb5⟩; obtain rfl : e = .returned (.tuple #[.string s, .bool true]) := he; refine ⟨_, rfl, ?_⟩; have HK5 := Aside0.mk (HK.out.drew_.below_ hb5); clear hb5; refine hK.out _ _ (HK5.out.held k hk1 hk2) (fun hHeld => ?_))
                skip
                clear hK K
                refine norm_ (a' := ?_) ?_ ?_
                rotate_left
                · (show Act.put _ (some 61) _ = _; simp only [Act.put, List.setIfInBounds_toArray, List.set_cons_zero, List.set_cons_succ]; rfl)
                refine pure_ (i := 7) (N := (some 54)) (v := ?_) (a' := ?_) #[true, true, true, true, true, true, true, true, false, false, false, false] rfl rfl (by kernel_rfl) (fun _ _ _ h => h) (Or.inl ⟨by rfl, ?_⟩) ?_ ?_
                rotate_left
                · (intro w'; go_simp; with_reducible rfl)
                rotate_left
                · (simp only [Act.put, List.setIfInBounds_toArray, List.set_cons_zero, List.set_cons_succ]; rfl)
                refine pure_ (i := 8) (N := (some 62)) (v := ?_) (a' := ?_) #[true, true, true, true, true, true, true, true, true, false, false, false] rfl rfl (by kernel_rfl) (fun _ _ _ h => h) (Or.inl ⟨by rfl, ?_⟩) ?_ ?_
                rotate_left
                · (intro w'; go_simp; with_reducible rfl)
                rotate_left
                · (simp only [Act.put, List.setIfInBounds_toArray, List.set_cons_zero, List.set_cons_succ]; rfl)
                refine pure_ (i := 9) (N := (some 63)) (v := ?_) (a' := ?_) #[true, true, true, true, true, true, true, true, true, true, false, false] rfl rfl (by kernel_rfl) (fun _ _ _ h => h) (Or.inl ⟨by rfl, ?_⟩) ?_ ?_
                rotate_left
                · (intro w'; go_simp; with_reducible rfl)
                rotate_left
                · (simp only [Act.put, List.setIfInBounds_toArray, List.set_cons_zero, List.set_cons_succ]; rfl)
                refine pure_ (i := 10) (N := (some 13)) (v := ?_) (a' := ?_) #[true, true, true, true, true, true, true, true, true, true, true, false] rfl rfl (by kernel_rfl) (fun _ _ _ h => h) (Or.inl ⟨by rfl, ?_⟩) ?_ ?_
                rotate_left
                · (intro w'; go_simp; with_reducible rfl)
                rotate_left
                · (simp only [Act.put, List.setIfInBounds_toArray, List.set_cons_zero, List.set_cons_succ]; rfl)
                refine pure_ (i := 11) (N := (some 14)) (v := ?_) (a' := ?_) #[true, true, true, true, true, true, true, true, true, true, true, true] rfl rfl (by kernel_rfl) (fun _ _ _ h => h) (Or.inl ⟨by rfl, ?_⟩) ?_ ?_
                rotate_left
                · (intro w'; go_simp; with_reducible rfl)
                rotate_left
                · (simp only [Act.put, List.setIfInBounds_toArray, List.set_cons_zero, List.set_cons_succ]; rfl)
                refine done_ (by kernel_rfl) ?_
                go_wp2
                refine start_ (n := 27) (S := fun w' => IS w.heap.size g A1 A2 (some a3) c1 c2 c3 x cr k ad bd (x.right[k]'hk1) (right[k]'hk2).kind (right[k]'hk2).text w') (ds := []) #[false, false, false, false, false, false, false, false, false, false, false, false, false, false, false, false, false, false, false, false, false, false, false, false, false, false, false] (by kernel_rfl) rfl rfl (HK5.out.drew_.held k hk1 hk2) (fun hHeld => ?_)
                refine pure_ (i := 0) (N := (some 64)) (v := ?_) (a' := ?_) #[true, false, false, false, false, false, false, false, false, false, false, false, false, false, false, false, false, false, false, false, false, false, false, false, false, false, false] rfl rfl (by kernel_rfl) (fun _ _ _ h => h) (Or.inl ⟨by rfl, ?_⟩) ?_ ?_
                rotate_left
                · (intro w'; go_simp; with_reducible rfl)
                rotate_left
                · (simp only [Act.put, List.setIfInBounds_toArray, List.set_cons_zero, List.set_cons_succ]; rfl)
                refine pure_ (i := 1) (N := (some 65)) (v := ?_) (a' := ?_) #[true, true, false, false, false, false, false, false, false, false, false, false, false, false, false, false, false, false, false, false, false, false, false, false, false, false, false] rfl rfl (by kernel_rfl) (fun _ _ _ h => h) (Or.inl ⟨by rfl, ?_⟩) ?_ ?_
                rotate_left
                · (intro w'; go_simp; with_reducible rfl)
                rotate_left
                · (simp only [Act.put, List.setIfInBounds_toArray, List.set_cons_zero, List.set_cons_succ]; rfl)
                refine pure_ (i := 2) (N := (some 66)) (v := ?_) (a' := ?_) #[true, true, true, false, false, false, false, false, false, false, false, false, false, false, false, false, false, false, false, false, false, false, false, false, false, false, false] rfl rfl (by kernel_rfl) (fun _ _ _ h => h) (Or.inl ⟨by rfl, ?_⟩) ?_ ?_
                rotate_left
                · (intro w'; go_simp; with_reducible rfl)
                rotate_left
                · (simp only [Act.put, List.setIfInBounds_toArray, List.set_cons_zero, List.set_cons_succ]; rfl)
                refine pure_ (i := 3) (N := (some 67)) (v := ?_) (a' := ?_) #[true, true, true, true, false, false, false, false, false, false, false, false, false, false, false, false, false, false, false, false, false, false, false, false, false, false, false] rfl rfl (by kernel_rfl) (fun _ _ _ h => h) (Or.inl ⟨by rfl, ?_⟩) ?_ ?_
                rotate_left
                · (intro w'; go_simp; with_reducible rfl)
                rotate_left
                · (simp only [Act.put, List.setIfInBounds_toArray, List.set_cons_zero, List.set_cons_succ]; rfl)
                refine pure_ (i := 4) (N := (some 68)) (v := ?_) (a' := ?_) #[true, true, true, true, true, false, false, false, false, false, false, false, false, false, false, false, false, false, false, false, false, false, false, false, false, false, false] rfl rfl (by kernel_rfl) (fun _ _ _ h => h) (Or.inl ⟨by rfl, ?_⟩) ?_ ?_
                rotate_left
                · (intro w'; go_simp; with_reducible rfl)
                rotate_left
                · (simp only [Act.put, List.setIfInBounds_toArray, List.set_cons_zero, List.set_cons_succ]; rfl)
                refine pure_ (i := 5) (N := (some 69)) (v := ?_) (a' := ?_) #[true, true, true, true, true, true, false, false, false, false, false, false, false, false, false, false, false, false, false, false, false, false, false, false, false, false, false] rfl rfl (by kernel_rfl) (fun _ _ _ h => h) (Or.inl ⟨by rfl, ?_⟩) ?_ ?_
                rotate_left
                · (intro w'; go_simp; with_reducible rfl)
                rotate_left
                · (simp only [Act.put, List.setIfInBounds_toArray, List.set_cons_zero, List.set_cons_succ]; rfl)
                refine pure_ (i := 6) (N := (some 70)) (v := ?_) (a' := ?_) #[true, true, true, true, true, true, true, false, false, false, false, false, false, false, false, false, false, false, false, false, false, false, false, false, false, false, false] rfl rfl (by kernel_rfl) (fun _ _ _ h => h) (Or.inl ⟨by rfl, ?_⟩) ?_ ?_
                rotate_left
                · (intro w'; go_simp; with_reducible rfl)
                rotate_left
                · (simp only [Act.put, List.setIfInBounds_toArray, List.set_cons_zero, List.set_cons_succ]; rfl)
                refine pure_ (i := 7) (N := (some 71)) (v := ?_) (a' := ?_) #[true, true, true, true, true, true, true, true, false, false, false, false, false, false, false, false, false, false, false, false, false, false, false, false, false, false, false] rfl rfl (by kernel_rfl) (fun _ _ _ h => h) (Or.inl ⟨by rfl, ?_⟩) ?_ ?_
                rotate_left
                · (intro w'; go_simp; with_reducible rfl)
                rotate_left
                · (simp only [Act.put, List.setIfInBounds_toArray, List.set_cons_zero, List.set_cons_succ]; rfl)
                refine take_ (i := 8) (N := (some 72)) (v := ?_) (a' := ?_) #[true, true, true, true, true, true, true, true, true, false, false, false, false, false, false, false, false, false, false, false, false, false, false, false, false, false, false] rfl rfl (by kernel_rfl) (fun _ _ _ h => h) (Or.inl ⟨by rfl, ?_⟩) hHeld ?_ ?_
                rotate_left
                · (rintro w' ⟨s0, s1, s2, s3, s4⟩; have d0 : w'.cell? ⟨w.heap.size, 0, none⟩ = some (.slice A1 g.terms.length c1) := (blk_cell s0 0).trans rfl; have d1 : w'.cell? ⟨w.heap.size, 1, none⟩ = some (.slice A2 g.names.length c2) := (blk_cell s0 1).trans rfl; have d2 : w'.cell? ⟨w.heap.size, 2, none⟩ = some (.slice (some a3) g.rules.length c3) := (blk_cell s0 2).trans rfl; have d3 : w'.cell? ⟨w.heap.size + 1, 1, none⟩ = some (.slice (some ad) x.right.length cr) := (blk_cell s1 1).trans rfl; go_simp; with_reducible rfl)
                rotate_left
                · (simp only [Act.put, List.setIfInBounds_toArray, List.set_cons_zero, List.set_cons_succ]; rfl)
                refine pure_ (i := 9) (N := (some 73)) (v := ?_) (a' := ?_) #[true, true, true, true, true, true, true, true, true, true, false, false, false, false, false, false, false, false, false, false, false, false, false, false, false, false, false] rfl rfl (by kernel_rfl) (fun _ _ _ h => h) (Or.inl ⟨by rfl, ?_⟩) ?_ ?_
                rotate_left
                · (intro w'; go_simp; with_reducible rfl)
                rotate_left
                · (simp only [Act.put, List.setIfInBounds_toArray, List.set_cons_zero, List.set_cons_succ]; rfl)
                refine pure_ (i := 10) (N := (some 74)) (v := ?_) (a' := ?_) #[true, true, true, true, true, true, true, true, true, true, true, false, false, false, false, false, false, false, false, false, false, false, false, false, false, false, false] rfl rfl (by kernel_rfl) (fun _ _ _ h => h) (Or.inl ⟨by rfl, ?_⟩) ?_ ?_
                rotate_left
                · (intro w'; go_simp; with_reducible rfl)
                rotate_left
                · (simp only [Act.put, List.setIfInBounds_toArray, List.set_cons_zero, List.set_cons_succ]; rfl)
                refine pure_ (i := 11) (N := (some 75)) (v := ?_) (a' := ?_) #[true, true, true, true, true, true, true, true, true, true, true, true, false, false, false, false, false, false, false, false, false, false, false, false, false, false, false] rfl rfl (by kernel_rfl) (fun _ _ _ h => h) (Or.inl ⟨by rfl, ?_⟩) ?_ ?_
                rotate_left
                · (intro w'; go_simp; with_reducible rfl)
                rotate_left
                · (simp only [Act.put, List.setIfInBounds_toArray, List.set_cons_zero, List.set_cons_succ]; rfl)
                refine pure_ (i := 13) (N := (some 77)) (v := ?_) (a' := ?_) #[true, true, true, true, true, true, true, true, true, true, true, true, false, true, false, false, false, false, false, false, false, false, false, false, false, false, false] rfl rfl (by kernel_rfl) (fun _ _ _ h => h) (Or.inl ⟨by rfl, ?_⟩) ?_ ?_
                rotate_left
                · (intro w'; go_simp; with_reducible rfl)
                rotate_left
                · (simp only [Act.put, List.setIfInBounds_toArray, List.set_cons_zero, List.set_cons_succ]; rfl)
                refine pure_ (i := 15) (N := (some 79)) (v := ?_) (a' := ?_) #[true, true, true, true, true, true, true, true, true, true, true, true, false, true, false, true, false, false, false, false, false, false, false, false, false, false, false] rfl rfl (by kernel_rfl) (fun _ _ _ h => h) (Or.inl ⟨by rfl, ?_⟩) ?_ ?_
                rotate_left
                · (intro w'; go_simp; with_reducible rfl)
                rotate_left
                · (simp only [Act.put, List.setIfInBounds_toArray, List.set_cons_zero, List.set_cons_succ]; rfl)
                refine pure_ (i := 19) (N := (some 83)) (v := ?_) (a' := ?_) #[true, true, true, true, true, true, true, true, true, true, true, true, false, true, false, true, false, false, false, true, false, false, false, false, false, false, false] rfl rfl (by kernel_rfl) (fun _ _ _ h => h) (Or.inl ⟨by rfl, ?_⟩) ?_ ?_
                rotate_left
                · (intro w'; go_simp; with_reducible rfl)
                rotate_left
                · (simp only [Act.put, List.setIfInBounds_toArray, List.set_cons_zero, List.set_cons_succ]; rfl)
                refine pure_ (i := 20) (N := (some 84)) (v := ?_) (a' := ?_) #[true, true, true, true, true, true, true, true, true, true, true, true, false, true, false, true, false, false, false, true, true, false, false, false, false, false, false] rfl rfl (by kernel_rfl) (fun _ _ _ h => h) (Or.inl ⟨by rfl, ?_⟩) ?_ ?_
                rotate_left
                · (intro w'; go_simp; with_reducible rfl)
                rotate_left
                · (simp only [Act.put, List.setIfInBounds_toArray, List.set_cons_zero, List.set_cons_succ]; rfl)
                refine pure_ (i := 21) (N := (some 85)) (v := ?_) (a' := ?_) #[true, true, true, true, true, true, true, true, true, true, true, true, false, true, false, true, false, false, false, true, true, true, false, false, false, false, false] rfl rfl (by kernel_rfl) (fun _ _ _ h => h) (Or.inl ⟨by rfl, ?_⟩) ?_ ?_
                rotate_left
                · (intro w'; go_simp; with_reducible rfl)
                rotate_left
                · (simp only [Act.put, List.setIfInBounds_toArray, List.set_cons_zero, List.set_cons_succ]; rfl)
                refine pure_ (i := 22) (N := (some 86)) (v := ?_) (a' := ?_) #[true, true, true, true, true, true, true, true, true, true, true, true, false, true, false, true, false, false, false, true, true, true, true, false, false, false, false] rfl rfl (by kernel_rfl) (fun _ _ _ h => h) (Or.inl ⟨by rfl, ?_⟩) ?_ ?_
                rotate_left
                · (intro w'; go_simp; with_reducible rfl)
                rotate_left
                · (simp only [Act.put, List.setIfInBounds_toArray, List.set_cons_zero, List.set_cons_succ]; rfl)
                refine take_ (i := 12) (N := (some 76)) (v := ?_) (a' := ?_) #[true, true, true, true, true, true, true, true, true, true, true, true, true, true, false, true, false, false, false, true, true, true, true, false, false, false, false] rfl rfl (by kernel_rfl) (fun _ _ _ h => h) (Or.inl ⟨by rfl, ?_⟩) hHeld ?_ ?_
                rotate_left
                · (rintro w' ⟨s0, s1, s2, s3, s4⟩; have d0 : w'.cell? ⟨w.heap.size, 0, none⟩ = some (.slice A1 g.terms.length c1) := (blk_cell s0 0).trans rfl; have d1 : w'.cell? ⟨w.heap.size, 1, none⟩ = some (.slice A2 g.names.length c2) := (blk_cell s0 1).trans rfl; have d2 : w'.cell? ⟨w.heap.size, 2, none⟩ = some (.slice (some a3) g.rules.length c3) := (blk_cell s0 2).trans rfl; have d3 : w'.cell? ⟨w.heap.size + 1, 1, none⟩ = some (.slice (some ad) x.right.length cr) := (blk_cell s1 1).trans rfl; go_simp; with_reducible rfl)
                rotate_left
                · (simp only [Act.put, List.setIfInBounds_toArray, List.set_cons_zero, List.set_cons_succ]; rfl)
                refine take_ (i := 14) (N := (some 78)) (v := ?_) (a' := ?_) #[true, true, true, true, true, true, true, true, true, true, true, true, true, true, true, true, false, false, false, true, true, true, true, false, false, false, false] rfl rfl (by kernel_rfl) (fun _ _ _ h => h) (Or.inl ⟨by rfl, ?_⟩) hHeld ?_ ?_
                rotate_left
                · (rintro w' ⟨s0, s1, s2, s3, s4⟩; have d0 : w'.cell? ⟨w.heap.size, 0, none⟩ = some (.slice A1 g.terms.length c1) := (blk_cell s0 0).trans rfl; have d1 : w'.cell? ⟨w.heap.size, 1, none⟩ = some (.slice A2 g.names.length c2) := (blk_cell s0 1).trans rfl; have d2 : w'.cell? ⟨w.heap.size, 2, none⟩ = some (.slice (some a3) g.rules.length c3) := (blk_cell s0 2).trans rfl; have d3 : w'.cell? ⟨w.heap.size + 1, 1, none⟩ = some (.slice (some ad) x.right.length cr) := (blk_cell s1 1).trans rfl; go_simp; with_reducible rfl)
                rotate_left
                · (simp only [Act.put, List.setIfInBounds_toArray, List.set_cons_zero, List.set_cons_succ]; rfl)
                refine pure_ (i := 16) (N := (some 80)) (v := ?_) (a' := ?_) #[true, true, true, true, true, true, true, true, true, true, true, true, true, true, true, true, true, false, false, true, true, true, true, false, false, false, false] rfl rfl (by kernel_rfl) (fun _ _ _ h => h) (Or.inl ⟨by rfl, ?_⟩) ?_ ?_
                rotate_left
                · (intro w'; go_simp; with_reducible rfl)
                rotate_left
                · (simp only [Act.put, List.setIfInBounds_toArray, List.set_cons_zero, List.set_cons_succ]; rfl)
                refine take_ (i := 17) (N := (some 81)) (v := ?_) (a' := ?_) #[true, true, true, true, true, true, true, true, true, true, true, true, true, true, true, true, true, true, false, true, true, true, true, false, false, false, false] rfl rfl (by kernel_rfl) (fun _ _ _ h => h) (Or.inl ⟨by rfl, ?_⟩) hHeld ?_ ?_
                rotate_left
                · (rintro w' ⟨s0, s1, s2, s3, s4⟩; have d0 : w'.cell? ⟨w.heap.size, 0, none⟩ = some (.slice A1 g.terms.length c1) := (blk_cell s0 0).trans rfl; have d1 : w'.cell? ⟨w.heap.size, 1, none⟩ = some (.slice A2 g.names.length c2) := (blk_cell s0 1).trans rfl; have d2 : w'.cell? ⟨w.heap.size, 2, none⟩ = some (.slice (some a3) g.rules.length c3) := (blk_cell s0 2).trans rfl; have d3 : w'.cell? ⟨w.heap.size + 1, 1, none⟩ = some (.slice (some ad) x.right.length cr) := (blk_cell s1 1).trans rfl; go_simp; with_reducible rfl)
                rotate_left
                · (simp only [Act.put, List.setIfInBounds_toArray, List.set_cons_zero, List.set_cons_succ]; rfl)
                refine take_ (i := 23) (N := (some 87)) (v := ?_) (a' := ?_) #[true, true, true, true, true, true, true, true, true, true, true, true, true, true, true, true, true, true, false, true, true, true, true, true, false, false, false] rfl rfl (by kernel_rfl) (fun _ _ _ h => h) (Or.inl ⟨by rfl, ?_⟩) hHeld ?_ ?_
                rotate_left
                · (rintro w' ⟨s0, s1, s2, s3, s4⟩; have d0 : w'.cell? ⟨w.heap.size, 0, none⟩ = some (.slice A1 g.terms.length c1) := (blk_cell s0 0).trans rfl; have d1 : w'.cell? ⟨w.heap.size, 1, none⟩ = some (.slice A2 g.names.length c2) := (blk_cell s0 1).trans rfl; have d2 : w'.cell? ⟨w.heap.size, 2, none⟩ = some (.slice (some a3) g.rules.length c3) := (blk_cell s0 2).trans rfl; have d3 : w'.cell? ⟨w.heap.size + 1, 1, none⟩ = some (.slice (some ad) x.right.length cr) := (blk_cell s1 1).trans rfl; go_simp; with_reducible rfl)
                rotate_left
                · (simp only [Act.put, List.setIfInBounds_toArray, List.set_cons_zero, List.set_cons_succ]; rfl)
                refine pure_ (i := 24) (N := (some 88)) (v := ?_) (a' := ?_) #[true, true, true, true, true, true, true, true, true, true, true, true, true, true, true, true, true, true, false, true, true, true, true, true, true, false, false] rfl rfl (by kernel_rfl) (fun _ _ _ h => h) (Or.inl ⟨by rfl, ?_⟩) ?_ ?_
                rotate_left
                · (intro w'; go_simp; with_reducible rfl)
                rotate_left
                · (simp only [Act.put, List.setIfInBounds_toArray, List.set_cons_zero, List.set_cons_succ]; rfl)
                refine one_ (i := 18) (N := (some 82)) #[true, true, true, true, true, true, true, true, true, true, true, true, true, true, true, true, true, true, true, true, true, true, true, true, true, false, false] rfl rfl (by kernel_rfl) (by decide) (fun K hK => ?_)
                (refine goes_ Try.func25 (by kernel_rfl) rfl #[.agg #[.slice A1 g.terms.length c1, .slice A2 g.names.length c2, .slice (some a3) g.rules.length c3], .int .i64 (x.right[k]'hk1)] (by rfl) rfl rfl (by simp [Act.eval]) ?_; refine (term_c g A1 A2 (some a3) c1 c2 c3 _ _).mono ?_; rw [HTM.out]; rintro e w6 ⟨rfl, hb6⟩; refine ⟨_, rfl, ?_⟩; have HK6 := Aside0.mk (HK5.out.drew_.below_ hb6); clear hb6; refine hK.out _ _ (HK6.out.held k hk1 hk2) (fun hHeld => ?_))
                skip
                clear hK K
                refine norm_ (a' := ?_) ?_ ?_
                rotate_left
                · (show Act.put _ (some 82) _ = _; simp only [Act.put, List.setIfInBounds_toArray, List.set_cons_zero, List.set_cons_succ]; rfl)
                refine pure_ (i := 25) (N := (some 89)) (v := ?_) (a' := ?_) #[true, true, true, true, true, true, true, true, true, true, true, true, true, true, true, true, true, true, true, true, true, true, true, true, true, true, false] rfl rfl (by kernel_rfl) (fun _ _ _ h => h) (Or.inl ⟨by rfl, ?_⟩) ?_ ?_
                rotate_left
                · (intro w'; go_simp; with_reducible rfl)
                rotate_left
                · (simp only [Act.put, List.setIfInBounds_toArray, List.set_cons_zero, List.set_cons_succ]; rfl)
                refine pure_ (i := 26) (N := (some 90)) (v := ?_) (a' := ?_) #[true, true, true, true, true, true, true, true, true, true, true, true, true, true, true, true, true, true, true, true, true, true, true, true, true, true, true] rfl rfl (by kernel_rfl) (fun _ _ _ h => h) (Or.inl ⟨by rfl, ?_⟩) ?_ ?_
                rotate_left
                · (intro w'; go_simp; with_reducible rfl)
                rotate_left
                · (simp only [Act.put, List.setIfInBounds_toArray, List.set_cons_zero, List.set_cons_succ]; rfl)
                refine done_ (by kernel_rfl) ?_
                go_wp2
                go_roundw
                case rel => exact ⟨k + 1, by omega, by go_num, ⟨by rw [← HD.out, HNM.out, HTM.out, HST.out, HKD.out]; simp⟩, HK6⟩
                case measure => simp [intOf]; omega
              · have HST := Aside0.mk hst
                have HKD := Aside0.mk hkd
                have hkb : (((right[k]'hk2).kind == 2) : Bool) = false := by rw [beq_eq_false_iff_ne]; exact hkd
                clear hst hkd
                go_wp2
                refine start_ (n := 12) (S := fun w' => IS w.heap.size g A1 A2 (some a3) c1 c2 c3 x cr k ad bd (x.right[k]'hk1) (right[k]'hk2).kind (right[k]'hk2).text w') (ds := []) #[false, false, false, false, false, false, false, false, false, false, false, false] (by kernel_rfl) rfl rfl (HK.out.drew_.held k hk1 hk2) (fun hHeld => ?_)
                refine pure_ (i := 1) (N := (some 56)) (v := ?_) (a' := ?_) #[false, true, false, false, false, false, false, false, false, false, false, false] rfl rfl (by kernel_rfl) (fun _ _ _ h => h) (Or.inl ⟨by rfl, ?_⟩) ?_ ?_
                rotate_left
                · (intro w'; go_simp; with_reducible rfl)
                rotate_left
                · (simp only [Act.put, List.setIfInBounds_toArray, List.set_cons_zero, List.set_cons_succ]; rfl)
                refine pure_ (i := 3) (N := (some 58)) (v := ?_) (a' := ?_) #[false, true, false, true, false, false, false, false, false, false, false, false] rfl rfl (by kernel_rfl) (fun _ _ _ h => h) (Or.inl ⟨by rfl, ?_⟩) ?_ ?_
                rotate_left
                · (intro w'; go_simp; with_reducible rfl)
                rotate_left
                · (simp only [Act.put, List.setIfInBounds_toArray, List.set_cons_zero, List.set_cons_succ]; rfl)
                refine take_ (i := 0) (N := (some 55)) (v := ?_) (a' := ?_) #[true, true, false, true, false, false, false, false, false, false, false, false] rfl rfl (by kernel_rfl) (fun _ _ _ h => h) (Or.inl ⟨by rfl, ?_⟩) hHeld ?_ ?_
                rotate_left
                · (rintro w' ⟨s0, s1, s2, s3, s4⟩; have d0 : w'.cell? ⟨w.heap.size, 0, none⟩ = some (.slice A1 g.terms.length c1) := (blk_cell s0 0).trans rfl; have d1 : w'.cell? ⟨w.heap.size, 1, none⟩ = some (.slice A2 g.names.length c2) := (blk_cell s0 1).trans rfl; have d2 : w'.cell? ⟨w.heap.size, 2, none⟩ = some (.slice (some a3) g.rules.length c3) := (blk_cell s0 2).trans rfl; have d3 : w'.cell? ⟨w.heap.size + 1, 1, none⟩ = some (.slice (some ad) x.right.length cr) := (blk_cell s1 1).trans rfl; go_simp; with_reducible rfl)
                rotate_left
                · (simp only [Act.put, List.setIfInBounds_toArray, List.set_cons_zero, List.set_cons_succ]; rfl)
                refine take_ (i := 2) (N := (some 57)) (v := ?_) (a' := ?_) #[true, true, true, true, false, false, false, false, false, false, false, false] rfl rfl (by kernel_rfl) (fun _ _ _ h => h) (Or.inl ⟨by rfl, ?_⟩) hHeld ?_ ?_
                rotate_left
                · (rintro w' ⟨s0, s1, s2, s3, s4⟩; have d0 : w'.cell? ⟨w.heap.size, 0, none⟩ = some (.slice A1 g.terms.length c1) := (blk_cell s0 0).trans rfl; have d1 : w'.cell? ⟨w.heap.size, 1, none⟩ = some (.slice A2 g.names.length c2) := (blk_cell s0 1).trans rfl; have d2 : w'.cell? ⟨w.heap.size, 2, none⟩ = some (.slice (some a3) g.rules.length c3) := (blk_cell s0 2).trans rfl; have d3 : w'.cell? ⟨w.heap.size + 1, 1, none⟩ = some (.slice (some ad) x.right.length cr) := (blk_cell s1 1).trans rfl; go_simp; with_reducible rfl)
                rotate_left
                · (simp only [Act.put, List.setIfInBounds_toArray, List.set_cons_zero, List.set_cons_succ]; rfl)
                refine pure_ (i := 4) (N := (some 59)) (v := ?_) (a' := ?_) #[true, true, true, true, true, false, false, false, false, false, false, false] rfl rfl (by kernel_rfl) (fun _ _ _ h => h) (Or.inl ⟨by rfl, ?_⟩) ?_ ?_
                rotate_left
                · (intro w'; go_simp; with_reducible rfl)
                rotate_left
                · (simp only [Act.put, List.setIfInBounds_toArray, List.set_cons_zero, List.set_cons_succ]; rfl)
                refine take_ (i := 5) (N := (some 60)) (v := ?_) (a' := ?_) #[true, true, true, true, true, true, false, false, false, false, false, false] rfl rfl (by kernel_rfl) (fun _ _ _ h => h) (Or.inl ⟨by rfl, ?_⟩) hHeld ?_ ?_
                rotate_left
                · (rintro w' ⟨s0, s1, s2, s3, s4⟩; have d0 : w'.cell? ⟨w.heap.size, 0, none⟩ = some (.slice A1 g.terms.length c1) := (blk_cell s0 0).trans rfl; have d1 : w'.cell? ⟨w.heap.size, 1, none⟩ = some (.slice A2 g.names.length c2) := (blk_cell s0 1).trans rfl; have d2 : w'.cell? ⟨w.heap.size, 2, none⟩ = some (.slice (some a3) g.rules.length c3) := (blk_cell s0 2).trans rfl; have d3 : w'.cell? ⟨w.heap.size + 1, 1, none⟩ = some (.slice (some ad) x.right.length cr) := (blk_cell s1 1).trans rfl; go_simp; with_reducible rfl)
                rotate_left
                · (simp only [Act.put, List.setIfInBounds_toArray, List.set_cons_zero, List.set_cons_succ]; rfl)
                refine one_ (i := 6) (N := (some 61)) #[true, true, true, true, true, true, true, false, false, false, false, false] rfl rfl (by kernel_rfl) (by decide) (fun K hK => ?_)
                (refine goes_ Try.func20 (by kernel_rfl) rfl #[.agg #[.slice A1 g.terms.length c1, .slice A2 g.names.length c2, .slice (some a3) g.rules.length c3], .int .i64 (x.right[k]'hk1)] (by rfl) rfl rfl (by simp [Act.eval]) ?_; refine (name_c g A1 A2 (some a3) c1 c2 c3 _ _ (HK.out.drew_).rep hsz hzb).mono ?_; rw [HNM.out]; rintro e w5 ⟨he, hb5⟩; obtain rfl : e = .returned (.tuple #[.string s, .bool true]) := he; refine ⟨_, rfl, ?_⟩; have HK5 := Aside0.mk (HK.out.drew_.below_ hb5); clear hb5; refine hK.out _ _ (HK5.out.held k hk1 hk2) (fun hHeld => ?_))
                skip
                clear hK K
                refine norm_ (a' := ?_) ?_ ?_
                rotate_left
                · (show Act.put _ (some 61) _ = _; simp only [Act.put, List.setIfInBounds_toArray, List.set_cons_zero, List.set_cons_succ]; rfl)
                refine pure_ (i := 7) (N := (some 54)) (v := ?_) (a' := ?_) #[true, true, true, true, true, true, true, true, false, false, false, false] rfl rfl (by kernel_rfl) (fun _ _ _ h => h) (Or.inl ⟨by rfl, ?_⟩) ?_ ?_
                rotate_left
                · (intro w'; go_simp; with_reducible rfl)
                rotate_left
                · (simp only [Act.put, List.setIfInBounds_toArray, List.set_cons_zero, List.set_cons_succ]; rfl)
                refine pure_ (i := 8) (N := (some 62)) (v := ?_) (a' := ?_) #[true, true, true, true, true, true, true, true, true, false, false, false] rfl rfl (by kernel_rfl) (fun _ _ _ h => h) (Or.inl ⟨by rfl, ?_⟩) ?_ ?_
                rotate_left
                · (intro w'; go_simp; with_reducible rfl)
                rotate_left
                · (simp only [Act.put, List.setIfInBounds_toArray, List.set_cons_zero, List.set_cons_succ]; rfl)
                refine pure_ (i := 9) (N := (some 63)) (v := ?_) (a' := ?_) #[true, true, true, true, true, true, true, true, true, true, false, false] rfl rfl (by kernel_rfl) (fun _ _ _ h => h) (Or.inl ⟨by rfl, ?_⟩) ?_ ?_
                rotate_left
                · (intro w'; go_simp; with_reducible rfl)
                rotate_left
                · (simp only [Act.put, List.setIfInBounds_toArray, List.set_cons_zero, List.set_cons_succ]; rfl)
                refine pure_ (i := 10) (N := (some 13)) (v := ?_) (a' := ?_) #[true, true, true, true, true, true, true, true, true, true, true, false] rfl rfl (by kernel_rfl) (fun _ _ _ h => h) (Or.inl ⟨by rfl, ?_⟩) ?_ ?_
                rotate_left
                · (intro w'; go_simp; with_reducible rfl)
                rotate_left
                · (simp only [Act.put, List.setIfInBounds_toArray, List.set_cons_zero, List.set_cons_succ]; rfl)
                refine pure_ (i := 11) (N := (some 14)) (v := ?_) (a' := ?_) #[true, true, true, true, true, true, true, true, true, true, true, true] rfl rfl (by kernel_rfl) (fun _ _ _ h => h) (Or.inl ⟨by rfl, ?_⟩) ?_ ?_
                rotate_left
                · (intro w'; go_simp; with_reducible rfl)
                rotate_left
                · (simp only [Act.put, List.setIfInBounds_toArray, List.set_cons_zero, List.set_cons_succ]; rfl)
                refine done_ (by kernel_rfl) ?_
                go_wp2
                refine start_ (n := 27) (S := fun w' => IS w.heap.size g A1 A2 (some a3) c1 c2 c3 x cr k ad bd (x.right[k]'hk1) (right[k]'hk2).kind (right[k]'hk2).text w') (ds := []) #[false, false, false, false, false, false, false, false, false, false, false, false, false, false, false, false, false, false, false, false, false, false, false, false, false, false, false] (by kernel_rfl) rfl rfl (HK5.out.drew_.held k hk1 hk2) (fun hHeld => ?_)
                refine pure_ (i := 0) (N := (some 64)) (v := ?_) (a' := ?_) #[true, false, false, false, false, false, false, false, false, false, false, false, false, false, false, false, false, false, false, false, false, false, false, false, false, false, false] rfl rfl (by kernel_rfl) (fun _ _ _ h => h) (Or.inl ⟨by rfl, ?_⟩) ?_ ?_
                rotate_left
                · (intro w'; go_simp; with_reducible rfl)
                rotate_left
                · (simp only [Act.put, List.setIfInBounds_toArray, List.set_cons_zero, List.set_cons_succ]; rfl)
                refine pure_ (i := 1) (N := (some 65)) (v := ?_) (a' := ?_) #[true, true, false, false, false, false, false, false, false, false, false, false, false, false, false, false, false, false, false, false, false, false, false, false, false, false, false] rfl rfl (by kernel_rfl) (fun _ _ _ h => h) (Or.inl ⟨by rfl, ?_⟩) ?_ ?_
                rotate_left
                · (intro w'; go_simp; with_reducible rfl)
                rotate_left
                · (simp only [Act.put, List.setIfInBounds_toArray, List.set_cons_zero, List.set_cons_succ]; rfl)
                refine pure_ (i := 2) (N := (some 66)) (v := ?_) (a' := ?_) #[true, true, true, false, false, false, false, false, false, false, false, false, false, false, false, false, false, false, false, false, false, false, false, false, false, false, false] rfl rfl (by kernel_rfl) (fun _ _ _ h => h) (Or.inl ⟨by rfl, ?_⟩) ?_ ?_
                rotate_left
                · (intro w'; go_simp; with_reducible rfl)
                rotate_left
                · (simp only [Act.put, List.setIfInBounds_toArray, List.set_cons_zero, List.set_cons_succ]; rfl)
                refine pure_ (i := 3) (N := (some 67)) (v := ?_) (a' := ?_) #[true, true, true, true, false, false, false, false, false, false, false, false, false, false, false, false, false, false, false, false, false, false, false, false, false, false, false] rfl rfl (by kernel_rfl) (fun _ _ _ h => h) (Or.inl ⟨by rfl, ?_⟩) ?_ ?_
                rotate_left
                · (intro w'; go_simp; with_reducible rfl)
                rotate_left
                · (simp only [Act.put, List.setIfInBounds_toArray, List.set_cons_zero, List.set_cons_succ]; rfl)
                refine pure_ (i := 4) (N := (some 68)) (v := ?_) (a' := ?_) #[true, true, true, true, true, false, false, false, false, false, false, false, false, false, false, false, false, false, false, false, false, false, false, false, false, false, false] rfl rfl (by kernel_rfl) (fun _ _ _ h => h) (Or.inl ⟨by rfl, ?_⟩) ?_ ?_
                rotate_left
                · (intro w'; go_simp; with_reducible rfl)
                rotate_left
                · (simp only [Act.put, List.setIfInBounds_toArray, List.set_cons_zero, List.set_cons_succ]; rfl)
                refine pure_ (i := 5) (N := (some 69)) (v := ?_) (a' := ?_) #[true, true, true, true, true, true, false, false, false, false, false, false, false, false, false, false, false, false, false, false, false, false, false, false, false, false, false] rfl rfl (by kernel_rfl) (fun _ _ _ h => h) (Or.inl ⟨by rfl, ?_⟩) ?_ ?_
                rotate_left
                · (intro w'; go_simp; with_reducible rfl)
                rotate_left
                · (simp only [Act.put, List.setIfInBounds_toArray, List.set_cons_zero, List.set_cons_succ]; rfl)
                refine pure_ (i := 6) (N := (some 70)) (v := ?_) (a' := ?_) #[true, true, true, true, true, true, true, false, false, false, false, false, false, false, false, false, false, false, false, false, false, false, false, false, false, false, false] rfl rfl (by kernel_rfl) (fun _ _ _ h => h) (Or.inl ⟨by rfl, ?_⟩) ?_ ?_
                rotate_left
                · (intro w'; go_simp; with_reducible rfl)
                rotate_left
                · (simp only [Act.put, List.setIfInBounds_toArray, List.set_cons_zero, List.set_cons_succ]; rfl)
                refine pure_ (i := 7) (N := (some 71)) (v := ?_) (a' := ?_) #[true, true, true, true, true, true, true, true, false, false, false, false, false, false, false, false, false, false, false, false, false, false, false, false, false, false, false] rfl rfl (by kernel_rfl) (fun _ _ _ h => h) (Or.inl ⟨by rfl, ?_⟩) ?_ ?_
                rotate_left
                · (intro w'; go_simp; with_reducible rfl)
                rotate_left
                · (simp only [Act.put, List.setIfInBounds_toArray, List.set_cons_zero, List.set_cons_succ]; rfl)
                refine take_ (i := 8) (N := (some 72)) (v := ?_) (a' := ?_) #[true, true, true, true, true, true, true, true, true, false, false, false, false, false, false, false, false, false, false, false, false, false, false, false, false, false, false] rfl rfl (by kernel_rfl) (fun _ _ _ h => h) (Or.inl ⟨by rfl, ?_⟩) hHeld ?_ ?_
                rotate_left
                · (rintro w' ⟨s0, s1, s2, s3, s4⟩; have d0 : w'.cell? ⟨w.heap.size, 0, none⟩ = some (.slice A1 g.terms.length c1) := (blk_cell s0 0).trans rfl; have d1 : w'.cell? ⟨w.heap.size, 1, none⟩ = some (.slice A2 g.names.length c2) := (blk_cell s0 1).trans rfl; have d2 : w'.cell? ⟨w.heap.size, 2, none⟩ = some (.slice (some a3) g.rules.length c3) := (blk_cell s0 2).trans rfl; have d3 : w'.cell? ⟨w.heap.size + 1, 1, none⟩ = some (.slice (some ad) x.right.length cr) := (blk_cell s1 1).trans rfl; go_simp; with_reducible rfl)
                rotate_left
                · (simp only [Act.put, List.setIfInBounds_toArray, List.set_cons_zero, List.set_cons_succ]; rfl)
                refine pure_ (i := 9) (N := (some 73)) (v := ?_) (a' := ?_) #[true, true, true, true, true, true, true, true, true, true, false, false, false, false, false, false, false, false, false, false, false, false, false, false, false, false, false] rfl rfl (by kernel_rfl) (fun _ _ _ h => h) (Or.inl ⟨by rfl, ?_⟩) ?_ ?_
                rotate_left
                · (intro w'; go_simp; with_reducible rfl)
                rotate_left
                · (simp only [Act.put, List.setIfInBounds_toArray, List.set_cons_zero, List.set_cons_succ]; rfl)
                refine pure_ (i := 10) (N := (some 74)) (v := ?_) (a' := ?_) #[true, true, true, true, true, true, true, true, true, true, true, false, false, false, false, false, false, false, false, false, false, false, false, false, false, false, false] rfl rfl (by kernel_rfl) (fun _ _ _ h => h) (Or.inl ⟨by rfl, ?_⟩) ?_ ?_
                rotate_left
                · (intro w'; go_simp; with_reducible rfl)
                rotate_left
                · (simp only [Act.put, List.setIfInBounds_toArray, List.set_cons_zero, List.set_cons_succ]; rfl)
                refine pure_ (i := 11) (N := (some 75)) (v := ?_) (a' := ?_) #[true, true, true, true, true, true, true, true, true, true, true, true, false, false, false, false, false, false, false, false, false, false, false, false, false, false, false] rfl rfl (by kernel_rfl) (fun _ _ _ h => h) (Or.inl ⟨by rfl, ?_⟩) ?_ ?_
                rotate_left
                · (intro w'; go_simp; with_reducible rfl)
                rotate_left
                · (simp only [Act.put, List.setIfInBounds_toArray, List.set_cons_zero, List.set_cons_succ]; rfl)
                refine pure_ (i := 13) (N := (some 77)) (v := ?_) (a' := ?_) #[true, true, true, true, true, true, true, true, true, true, true, true, false, true, false, false, false, false, false, false, false, false, false, false, false, false, false] rfl rfl (by kernel_rfl) (fun _ _ _ h => h) (Or.inl ⟨by rfl, ?_⟩) ?_ ?_
                rotate_left
                · (intro w'; go_simp; with_reducible rfl)
                rotate_left
                · (simp only [Act.put, List.setIfInBounds_toArray, List.set_cons_zero, List.set_cons_succ]; rfl)
                refine pure_ (i := 15) (N := (some 79)) (v := ?_) (a' := ?_) #[true, true, true, true, true, true, true, true, true, true, true, true, false, true, false, true, false, false, false, false, false, false, false, false, false, false, false] rfl rfl (by kernel_rfl) (fun _ _ _ h => h) (Or.inl ⟨by rfl, ?_⟩) ?_ ?_
                rotate_left
                · (intro w'; go_simp; with_reducible rfl)
                rotate_left
                · (simp only [Act.put, List.setIfInBounds_toArray, List.set_cons_zero, List.set_cons_succ]; rfl)
                refine pure_ (i := 19) (N := (some 83)) (v := ?_) (a' := ?_) #[true, true, true, true, true, true, true, true, true, true, true, true, false, true, false, true, false, false, false, true, false, false, false, false, false, false, false] rfl rfl (by kernel_rfl) (fun _ _ _ h => h) (Or.inl ⟨by rfl, ?_⟩) ?_ ?_
                rotate_left
                · (intro w'; go_simp; with_reducible rfl)
                rotate_left
                · (simp only [Act.put, List.setIfInBounds_toArray, List.set_cons_zero, List.set_cons_succ]; rfl)
                refine pure_ (i := 20) (N := (some 84)) (v := ?_) (a' := ?_) #[true, true, true, true, true, true, true, true, true, true, true, true, false, true, false, true, false, false, false, true, true, false, false, false, false, false, false] rfl rfl (by kernel_rfl) (fun _ _ _ h => h) (Or.inl ⟨by rfl, ?_⟩) ?_ ?_
                rotate_left
                · (intro w'; go_simp; with_reducible rfl)
                rotate_left
                · (simp only [Act.put, List.setIfInBounds_toArray, List.set_cons_zero, List.set_cons_succ]; rfl)
                refine pure_ (i := 21) (N := (some 85)) (v := ?_) (a' := ?_) #[true, true, true, true, true, true, true, true, true, true, true, true, false, true, false, true, false, false, false, true, true, true, false, false, false, false, false] rfl rfl (by kernel_rfl) (fun _ _ _ h => h) (Or.inl ⟨by rfl, ?_⟩) ?_ ?_
                rotate_left
                · (intro w'; go_simp; with_reducible rfl)
                rotate_left
                · (simp only [Act.put, List.setIfInBounds_toArray, List.set_cons_zero, List.set_cons_succ]; rfl)
                refine pure_ (i := 22) (N := (some 86)) (v := ?_) (a' := ?_) #[true, true, true, true, true, true, true, true, true, true, true, true, false, true, false, true, false, false, false, true, true, true, true, false, false, false, false] rfl rfl (by kernel_rfl) (fun _ _ _ h => h) (Or.inl ⟨by rfl, ?_⟩) ?_ ?_
                rotate_left
                · (intro w'; go_simp; with_reducible rfl)
                rotate_left
                · (simp only [Act.put, List.setIfInBounds_toArray, List.set_cons_zero, List.set_cons_succ]; rfl)
                refine take_ (i := 12) (N := (some 76)) (v := ?_) (a' := ?_) #[true, true, true, true, true, true, true, true, true, true, true, true, true, true, false, true, false, false, false, true, true, true, true, false, false, false, false] rfl rfl (by kernel_rfl) (fun _ _ _ h => h) (Or.inl ⟨by rfl, ?_⟩) hHeld ?_ ?_
                rotate_left
                · (rintro w' ⟨s0, s1, s2, s3, s4⟩; have d0 : w'.cell? ⟨w.heap.size, 0, none⟩ = some (.slice A1 g.terms.length c1) := (blk_cell s0 0).trans rfl; have d1 : w'.cell? ⟨w.heap.size, 1, none⟩ = some (.slice A2 g.names.length c2) := (blk_cell s0 1).trans rfl; have d2 : w'.cell? ⟨w.heap.size, 2, none⟩ = some (.slice (some a3) g.rules.length c3) := (blk_cell s0 2).trans rfl; have d3 : w'.cell? ⟨w.heap.size + 1, 1, none⟩ = some (.slice (some ad) x.right.length cr) := (blk_cell s1 1).trans rfl; go_simp; with_reducible rfl)
                rotate_left
                · (simp only [Act.put, List.setIfInBounds_toArray, List.set_cons_zero, List.set_cons_succ]; rfl)
                refine take_ (i := 14) (N := (some 78)) (v := ?_) (a' := ?_) #[true, true, true, true, true, true, true, true, true, true, true, true, true, true, true, true, false, false, false, true, true, true, true, false, false, false, false] rfl rfl (by kernel_rfl) (fun _ _ _ h => h) (Or.inl ⟨by rfl, ?_⟩) hHeld ?_ ?_
                rotate_left
                · (rintro w' ⟨s0, s1, s2, s3, s4⟩; have d0 : w'.cell? ⟨w.heap.size, 0, none⟩ = some (.slice A1 g.terms.length c1) := (blk_cell s0 0).trans rfl; have d1 : w'.cell? ⟨w.heap.size, 1, none⟩ = some (.slice A2 g.names.length c2) := (blk_cell s0 1).trans rfl; have d2 : w'.cell? ⟨w.heap.size, 2, none⟩ = some (.slice (some a3) g.rules.length c3) := (blk_cell s0 2).trans rfl; have d3 : w'.cell? ⟨w.heap.size + 1, 1, none⟩ = some (.slice (some ad) x.right.length cr) := (blk_cell s1 1).trans rfl; go_simp; with_reducible rfl)
                rotate_left
                · (simp only [Act.put, List.setIfInBounds_toArray, List.set_cons_zero, List.set_cons_succ]; rfl)
                refine pure_ (i := 16) (N := (some 80)) (v := ?_) (a' := ?_) #[true, true, true, true, true, true, true, true, true, true, true, true, true, true, true, true, true, false, false, true, true, true, true, false, false, false, false] rfl rfl (by kernel_rfl) (fun _ _ _ h => h) (Or.inl ⟨by rfl, ?_⟩) ?_ ?_
                rotate_left
                · (intro w'; go_simp; with_reducible rfl)
                rotate_left
                · (simp only [Act.put, List.setIfInBounds_toArray, List.set_cons_zero, List.set_cons_succ]; rfl)
                refine take_ (i := 17) (N := (some 81)) (v := ?_) (a' := ?_) #[true, true, true, true, true, true, true, true, true, true, true, true, true, true, true, true, true, true, false, true, true, true, true, false, false, false, false] rfl rfl (by kernel_rfl) (fun _ _ _ h => h) (Or.inl ⟨by rfl, ?_⟩) hHeld ?_ ?_
                rotate_left
                · (rintro w' ⟨s0, s1, s2, s3, s4⟩; have d0 : w'.cell? ⟨w.heap.size, 0, none⟩ = some (.slice A1 g.terms.length c1) := (blk_cell s0 0).trans rfl; have d1 : w'.cell? ⟨w.heap.size, 1, none⟩ = some (.slice A2 g.names.length c2) := (blk_cell s0 1).trans rfl; have d2 : w'.cell? ⟨w.heap.size, 2, none⟩ = some (.slice (some a3) g.rules.length c3) := (blk_cell s0 2).trans rfl; have d3 : w'.cell? ⟨w.heap.size + 1, 1, none⟩ = some (.slice (some ad) x.right.length cr) := (blk_cell s1 1).trans rfl; go_simp; with_reducible rfl)
                rotate_left
                · (simp only [Act.put, List.setIfInBounds_toArray, List.set_cons_zero, List.set_cons_succ]; rfl)
                refine take_ (i := 23) (N := (some 87)) (v := ?_) (a' := ?_) #[true, true, true, true, true, true, true, true, true, true, true, true, true, true, true, true, true, true, false, true, true, true, true, true, false, false, false] rfl rfl (by kernel_rfl) (fun _ _ _ h => h) (Or.inl ⟨by rfl, ?_⟩) hHeld ?_ ?_
                rotate_left
                · (rintro w' ⟨s0, s1, s2, s3, s4⟩; have d0 : w'.cell? ⟨w.heap.size, 0, none⟩ = some (.slice A1 g.terms.length c1) := (blk_cell s0 0).trans rfl; have d1 : w'.cell? ⟨w.heap.size, 1, none⟩ = some (.slice A2 g.names.length c2) := (blk_cell s0 1).trans rfl; have d2 : w'.cell? ⟨w.heap.size, 2, none⟩ = some (.slice (some a3) g.rules.length c3) := (blk_cell s0 2).trans rfl; have d3 : w'.cell? ⟨w.heap.size + 1, 1, none⟩ = some (.slice (some ad) x.right.length cr) := (blk_cell s1 1).trans rfl; go_simp; with_reducible rfl)
                rotate_left
                · (simp only [Act.put, List.setIfInBounds_toArray, List.set_cons_zero, List.set_cons_succ]; rfl)
                refine pure_ (i := 24) (N := (some 88)) (v := ?_) (a' := ?_) #[true, true, true, true, true, true, true, true, true, true, true, true, true, true, true, true, true, true, false, true, true, true, true, true, true, false, false] rfl rfl (by kernel_rfl) (fun _ _ _ h => h) (Or.inl ⟨by rfl, ?_⟩) ?_ ?_
                rotate_left
                · (intro w'; go_simp; with_reducible rfl)
                rotate_left
                · (simp only [Act.put, List.setIfInBounds_toArray, List.set_cons_zero, List.set_cons_succ]; rfl)
                refine one_ (i := 18) (N := (some 82)) #[true, true, true, true, true, true, true, true, true, true, true, true, true, true, true, true, true, true, true, true, true, true, true, true, true, false, false] rfl rfl (by kernel_rfl) (by decide) (fun K hK => ?_)
                (refine goes_ Try.func25 (by kernel_rfl) rfl #[.agg #[.slice A1 g.terms.length c1, .slice A2 g.names.length c2, .slice (some a3) g.rules.length c3], .int .i64 (x.right[k]'hk1)] (by rfl) rfl rfl (by simp [Act.eval]) ?_; refine (term_c g A1 A2 (some a3) c1 c2 c3 _ _).mono ?_; rw [HTM.out]; rintro e w6 ⟨rfl, hb6⟩; refine ⟨_, rfl, ?_⟩; have HK6 := Aside0.mk (HK5.out.drew_.below_ hb6); clear hb6; refine hK.out _ _ (HK6.out.held k hk1 hk2) (fun hHeld => ?_))
                skip
                clear hK K
                refine norm_ (a' := ?_) ?_ ?_
                rotate_left
                · (show Act.put _ (some 82) _ = _; simp only [Act.put, List.setIfInBounds_toArray, List.set_cons_zero, List.set_cons_succ]; rfl)
                refine pure_ (i := 25) (N := (some 89)) (v := ?_) (a' := ?_) #[true, true, true, true, true, true, true, true, true, true, true, true, true, true, true, true, true, true, true, true, true, true, true, true, true, true, false] rfl rfl (by kernel_rfl) (fun _ _ _ h => h) (Or.inl ⟨by rfl, ?_⟩) ?_ ?_
                rotate_left
                · (intro w'; go_simp; with_reducible rfl)
                rotate_left
                · (simp only [Act.put, List.setIfInBounds_toArray, List.set_cons_zero, List.set_cons_succ]; rfl)
                refine pure_ (i := 26) (N := (some 90)) (v := ?_) (a' := ?_) #[true, true, true, true, true, true, true, true, true, true, true, true, true, true, true, true, true, true, true, true, true, true, true, true, true, true, true] rfl rfl (by kernel_rfl) (fun _ _ _ h => h) (Or.inl ⟨by rfl, ?_⟩) ?_ ?_
                rotate_left
                · (intro w'; go_simp; with_reducible rfl)
                rotate_left
                · (simp only [Act.put, List.setIfInBounds_toArray, List.set_cons_zero, List.set_cons_succ]; rfl)
                refine done_ (by kernel_rfl) ?_
                go_wp2
                go_ret
                exact ⟨ret_bool (by rw [HE.out, ← HD.out, HNM.out, HTM.out, decide_eq_false HKD.out]; simp), HK6.out.b⟩
            | false =>
              have HTM := Aside0.mk htm
              clear htm
              by_cases hkd : (right[k]'hk2).kind = 2
              · have HST := Aside0.mk hst
                have HKD := Aside0.mk hkd
                have hkb : (((right[k]'hk2).kind == 2) : Bool) = true := by rw [hkd]; rfl
                clear hst hkd
                go_wp2
                refine start_ (n := 12) (S := fun w' => IS w.heap.size g A1 A2 (some a3) c1 c2 c3 x cr k ad bd (x.right[k]'hk1) (right[k]'hk2).kind (right[k]'hk2).text w') (ds := []) #[false, false, false, false, false, false, false, false, false, false, false, false] (by kernel_rfl) rfl rfl (HK.out.drew_.held k hk1 hk2) (fun hHeld => ?_)
                refine pure_ (i := 1) (N := (some 56)) (v := ?_) (a' := ?_) #[false, true, false, false, false, false, false, false, false, false, false, false] rfl rfl (by kernel_rfl) (fun _ _ _ h => h) (Or.inl ⟨by rfl, ?_⟩) ?_ ?_
                rotate_left
                · (intro w'; go_simp; with_reducible rfl)
                rotate_left
                · (simp only [Act.put, List.setIfInBounds_toArray, List.set_cons_zero, List.set_cons_succ]; rfl)
                refine pure_ (i := 3) (N := (some 58)) (v := ?_) (a' := ?_) #[false, true, false, true, false, false, false, false, false, false, false, false] rfl rfl (by kernel_rfl) (fun _ _ _ h => h) (Or.inl ⟨by rfl, ?_⟩) ?_ ?_
                rotate_left
                · (intro w'; go_simp; with_reducible rfl)
                rotate_left
                · (simp only [Act.put, List.setIfInBounds_toArray, List.set_cons_zero, List.set_cons_succ]; rfl)
                refine take_ (i := 0) (N := (some 55)) (v := ?_) (a' := ?_) #[true, true, false, true, false, false, false, false, false, false, false, false] rfl rfl (by kernel_rfl) (fun _ _ _ h => h) (Or.inl ⟨by rfl, ?_⟩) hHeld ?_ ?_
                rotate_left
                · (rintro w' ⟨s0, s1, s2, s3, s4⟩; have d0 : w'.cell? ⟨w.heap.size, 0, none⟩ = some (.slice A1 g.terms.length c1) := (blk_cell s0 0).trans rfl; have d1 : w'.cell? ⟨w.heap.size, 1, none⟩ = some (.slice A2 g.names.length c2) := (blk_cell s0 1).trans rfl; have d2 : w'.cell? ⟨w.heap.size, 2, none⟩ = some (.slice (some a3) g.rules.length c3) := (blk_cell s0 2).trans rfl; have d3 : w'.cell? ⟨w.heap.size + 1, 1, none⟩ = some (.slice (some ad) x.right.length cr) := (blk_cell s1 1).trans rfl; go_simp; with_reducible rfl)
                rotate_left
                · (simp only [Act.put, List.setIfInBounds_toArray, List.set_cons_zero, List.set_cons_succ]; rfl)
                refine take_ (i := 2) (N := (some 57)) (v := ?_) (a' := ?_) #[true, true, true, true, false, false, false, false, false, false, false, false] rfl rfl (by kernel_rfl) (fun _ _ _ h => h) (Or.inl ⟨by rfl, ?_⟩) hHeld ?_ ?_
                rotate_left
                · (rintro w' ⟨s0, s1, s2, s3, s4⟩; have d0 : w'.cell? ⟨w.heap.size, 0, none⟩ = some (.slice A1 g.terms.length c1) := (blk_cell s0 0).trans rfl; have d1 : w'.cell? ⟨w.heap.size, 1, none⟩ = some (.slice A2 g.names.length c2) := (blk_cell s0 1).trans rfl; have d2 : w'.cell? ⟨w.heap.size, 2, none⟩ = some (.slice (some a3) g.rules.length c3) := (blk_cell s0 2).trans rfl; have d3 : w'.cell? ⟨w.heap.size + 1, 1, none⟩ = some (.slice (some ad) x.right.length cr) := (blk_cell s1 1).trans rfl; go_simp; with_reducible rfl)
                rotate_left
                · (simp only [Act.put, List.setIfInBounds_toArray, List.set_cons_zero, List.set_cons_succ]; rfl)
                refine pure_ (i := 4) (N := (some 59)) (v := ?_) (a' := ?_) #[true, true, true, true, true, false, false, false, false, false, false, false] rfl rfl (by kernel_rfl) (fun _ _ _ h => h) (Or.inl ⟨by rfl, ?_⟩) ?_ ?_
                rotate_left
                · (intro w'; go_simp; with_reducible rfl)
                rotate_left
                · (simp only [Act.put, List.setIfInBounds_toArray, List.set_cons_zero, List.set_cons_succ]; rfl)
                refine take_ (i := 5) (N := (some 60)) (v := ?_) (a' := ?_) #[true, true, true, true, true, true, false, false, false, false, false, false] rfl rfl (by kernel_rfl) (fun _ _ _ h => h) (Or.inl ⟨by rfl, ?_⟩) hHeld ?_ ?_
                rotate_left
                · (rintro w' ⟨s0, s1, s2, s3, s4⟩; have d0 : w'.cell? ⟨w.heap.size, 0, none⟩ = some (.slice A1 g.terms.length c1) := (blk_cell s0 0).trans rfl; have d1 : w'.cell? ⟨w.heap.size, 1, none⟩ = some (.slice A2 g.names.length c2) := (blk_cell s0 1).trans rfl; have d2 : w'.cell? ⟨w.heap.size, 2, none⟩ = some (.slice (some a3) g.rules.length c3) := (blk_cell s0 2).trans rfl; have d3 : w'.cell? ⟨w.heap.size + 1, 1, none⟩ = some (.slice (some ad) x.right.length cr) := (blk_cell s1 1).trans rfl; go_simp; with_reducible rfl)
                rotate_left
                · (simp only [Act.put, List.setIfInBounds_toArray, List.set_cons_zero, List.set_cons_succ]; rfl)
                refine one_ (i := 6) (N := (some 61)) #[true, true, true, true, true, true, true, false, false, false, false, false] rfl rfl (by kernel_rfl) (by decide) (fun K hK => ?_)
                (refine goes_ Try.func20 (by kernel_rfl) rfl #[.agg #[.slice A1 g.terms.length c1, .slice A2 g.names.length c2, .slice (some a3) g.rules.length c3], .int .i64 (x.right[k]'hk1)] (by rfl) rfl rfl (by simp [Act.eval]) ?_; refine (name_c g A1 A2 (some a3) c1 c2 c3 _ _ (HK.out.drew_).rep hsz hzb).mono ?_; rw [HNM.out]; rintro e w5 ⟨he, hb5⟩; obtain rfl : e = .returned (.tuple #[.string s, .bool true]) := he; refine ⟨_, rfl, ?_⟩; have HK5 := Aside0.mk (HK.out.drew_.below_ hb5); clear hb5; refine hK.out _ _ (HK5.out.held k hk1 hk2) (fun hHeld => ?_))
                skip
                clear hK K
                refine norm_ (a' := ?_) ?_ ?_
                rotate_left
                · (show Act.put _ (some 61) _ = _; simp only [Act.put, List.setIfInBounds_toArray, List.set_cons_zero, List.set_cons_succ]; rfl)
                refine pure_ (i := 7) (N := (some 54)) (v := ?_) (a' := ?_) #[true, true, true, true, true, true, true, true, false, false, false, false] rfl rfl (by kernel_rfl) (fun _ _ _ h => h) (Or.inl ⟨by rfl, ?_⟩) ?_ ?_
                rotate_left
                · (intro w'; go_simp; with_reducible rfl)
                rotate_left
                · (simp only [Act.put, List.setIfInBounds_toArray, List.set_cons_zero, List.set_cons_succ]; rfl)
                refine pure_ (i := 8) (N := (some 62)) (v := ?_) (a' := ?_) #[true, true, true, true, true, true, true, true, true, false, false, false] rfl rfl (by kernel_rfl) (fun _ _ _ h => h) (Or.inl ⟨by rfl, ?_⟩) ?_ ?_
                rotate_left
                · (intro w'; go_simp; with_reducible rfl)
                rotate_left
                · (simp only [Act.put, List.setIfInBounds_toArray, List.set_cons_zero, List.set_cons_succ]; rfl)
                refine pure_ (i := 9) (N := (some 63)) (v := ?_) (a' := ?_) #[true, true, true, true, true, true, true, true, true, true, false, false] rfl rfl (by kernel_rfl) (fun _ _ _ h => h) (Or.inl ⟨by rfl, ?_⟩) ?_ ?_
                rotate_left
                · (intro w'; go_simp; with_reducible rfl)
                rotate_left
                · (simp only [Act.put, List.setIfInBounds_toArray, List.set_cons_zero, List.set_cons_succ]; rfl)
                refine pure_ (i := 10) (N := (some 13)) (v := ?_) (a' := ?_) #[true, true, true, true, true, true, true, true, true, true, true, false] rfl rfl (by kernel_rfl) (fun _ _ _ h => h) (Or.inl ⟨by rfl, ?_⟩) ?_ ?_
                rotate_left
                · (intro w'; go_simp; with_reducible rfl)
                rotate_left
                · (simp only [Act.put, List.setIfInBounds_toArray, List.set_cons_zero, List.set_cons_succ]; rfl)
                refine pure_ (i := 11) (N := (some 14)) (v := ?_) (a' := ?_) #[true, true, true, true, true, true, true, true, true, true, true, true] rfl rfl (by kernel_rfl) (fun _ _ _ h => h) (Or.inl ⟨by rfl, ?_⟩) ?_ ?_
                rotate_left
                · (intro w'; go_simp; with_reducible rfl)
                rotate_left
                · (simp only [Act.put, List.setIfInBounds_toArray, List.set_cons_zero, List.set_cons_succ]; rfl)
                refine done_ (by kernel_rfl) ?_
                go_wp2
                refine start_ (n := 27) (S := fun w' => IS w.heap.size g A1 A2 (some a3) c1 c2 c3 x cr k ad bd (x.right[k]'hk1) (right[k]'hk2).kind (right[k]'hk2).text w') (ds := []) #[false, false, false, false, false, false, false, false, false, false, false, false, false, false, false, false, false, false, false, false, false, false, false, false, false, false, false] (by kernel_rfl) rfl rfl (HK5.out.drew_.held k hk1 hk2) (fun hHeld => ?_)
                refine pure_ (i := 0) (N := (some 64)) (v := ?_) (a' := ?_) #[true, false, false, false, false, false, false, false, false, false, false, false, false, false, false, false, false, false, false, false, false, false, false, false, false, false, false] rfl rfl (by kernel_rfl) (fun _ _ _ h => h) (Or.inl ⟨by rfl, ?_⟩) ?_ ?_
                rotate_left
                · (intro w'; go_simp; with_reducible rfl)
                rotate_left
                · (simp only [Act.put, List.setIfInBounds_toArray, List.set_cons_zero, List.set_cons_succ]; rfl)
                refine pure_ (i := 1) (N := (some 65)) (v := ?_) (a' := ?_) #[true, true, false, false, false, false, false, false, false, false, false, false, false, false, false, false, false, false, false, false, false, false, false, false, false, false, false] rfl rfl (by kernel_rfl) (fun _ _ _ h => h) (Or.inl ⟨by rfl, ?_⟩) ?_ ?_
                rotate_left
                · (intro w'; go_simp; with_reducible rfl)
                rotate_left
                · (simp only [Act.put, List.setIfInBounds_toArray, List.set_cons_zero, List.set_cons_succ]; rfl)
                refine pure_ (i := 2) (N := (some 66)) (v := ?_) (a' := ?_) #[true, true, true, false, false, false, false, false, false, false, false, false, false, false, false, false, false, false, false, false, false, false, false, false, false, false, false] rfl rfl (by kernel_rfl) (fun _ _ _ h => h) (Or.inl ⟨by rfl, ?_⟩) ?_ ?_
                rotate_left
                · (intro w'; go_simp; with_reducible rfl)
                rotate_left
                · (simp only [Act.put, List.setIfInBounds_toArray, List.set_cons_zero, List.set_cons_succ]; rfl)
                refine pure_ (i := 3) (N := (some 67)) (v := ?_) (a' := ?_) #[true, true, true, true, false, false, false, false, false, false, false, false, false, false, false, false, false, false, false, false, false, false, false, false, false, false, false] rfl rfl (by kernel_rfl) (fun _ _ _ h => h) (Or.inl ⟨by rfl, ?_⟩) ?_ ?_
                rotate_left
                · (intro w'; go_simp; with_reducible rfl)
                rotate_left
                · (simp only [Act.put, List.setIfInBounds_toArray, List.set_cons_zero, List.set_cons_succ]; rfl)
                refine pure_ (i := 4) (N := (some 68)) (v := ?_) (a' := ?_) #[true, true, true, true, true, false, false, false, false, false, false, false, false, false, false, false, false, false, false, false, false, false, false, false, false, false, false] rfl rfl (by kernel_rfl) (fun _ _ _ h => h) (Or.inl ⟨by rfl, ?_⟩) ?_ ?_
                rotate_left
                · (intro w'; go_simp; with_reducible rfl)
                rotate_left
                · (simp only [Act.put, List.setIfInBounds_toArray, List.set_cons_zero, List.set_cons_succ]; rfl)
                refine pure_ (i := 5) (N := (some 69)) (v := ?_) (a' := ?_) #[true, true, true, true, true, true, false, false, false, false, false, false, false, false, false, false, false, false, false, false, false, false, false, false, false, false, false] rfl rfl (by kernel_rfl) (fun _ _ _ h => h) (Or.inl ⟨by rfl, ?_⟩) ?_ ?_
                rotate_left
                · (intro w'; go_simp; with_reducible rfl)
                rotate_left
                · (simp only [Act.put, List.setIfInBounds_toArray, List.set_cons_zero, List.set_cons_succ]; rfl)
                refine pure_ (i := 6) (N := (some 70)) (v := ?_) (a' := ?_) #[true, true, true, true, true, true, true, false, false, false, false, false, false, false, false, false, false, false, false, false, false, false, false, false, false, false, false] rfl rfl (by kernel_rfl) (fun _ _ _ h => h) (Or.inl ⟨by rfl, ?_⟩) ?_ ?_
                rotate_left
                · (intro w'; go_simp; with_reducible rfl)
                rotate_left
                · (simp only [Act.put, List.setIfInBounds_toArray, List.set_cons_zero, List.set_cons_succ]; rfl)
                refine pure_ (i := 7) (N := (some 71)) (v := ?_) (a' := ?_) #[true, true, true, true, true, true, true, true, false, false, false, false, false, false, false, false, false, false, false, false, false, false, false, false, false, false, false] rfl rfl (by kernel_rfl) (fun _ _ _ h => h) (Or.inl ⟨by rfl, ?_⟩) ?_ ?_
                rotate_left
                · (intro w'; go_simp; with_reducible rfl)
                rotate_left
                · (simp only [Act.put, List.setIfInBounds_toArray, List.set_cons_zero, List.set_cons_succ]; rfl)
                refine take_ (i := 8) (N := (some 72)) (v := ?_) (a' := ?_) #[true, true, true, true, true, true, true, true, true, false, false, false, false, false, false, false, false, false, false, false, false, false, false, false, false, false, false] rfl rfl (by kernel_rfl) (fun _ _ _ h => h) (Or.inl ⟨by rfl, ?_⟩) hHeld ?_ ?_
                rotate_left
                · (rintro w' ⟨s0, s1, s2, s3, s4⟩; have d0 : w'.cell? ⟨w.heap.size, 0, none⟩ = some (.slice A1 g.terms.length c1) := (blk_cell s0 0).trans rfl; have d1 : w'.cell? ⟨w.heap.size, 1, none⟩ = some (.slice A2 g.names.length c2) := (blk_cell s0 1).trans rfl; have d2 : w'.cell? ⟨w.heap.size, 2, none⟩ = some (.slice (some a3) g.rules.length c3) := (blk_cell s0 2).trans rfl; have d3 : w'.cell? ⟨w.heap.size + 1, 1, none⟩ = some (.slice (some ad) x.right.length cr) := (blk_cell s1 1).trans rfl; go_simp; with_reducible rfl)
                rotate_left
                · (simp only [Act.put, List.setIfInBounds_toArray, List.set_cons_zero, List.set_cons_succ]; rfl)
                refine pure_ (i := 9) (N := (some 73)) (v := ?_) (a' := ?_) #[true, true, true, true, true, true, true, true, true, true, false, false, false, false, false, false, false, false, false, false, false, false, false, false, false, false, false] rfl rfl (by kernel_rfl) (fun _ _ _ h => h) (Or.inl ⟨by rfl, ?_⟩) ?_ ?_
                rotate_left
                · (intro w'; go_simp; with_reducible rfl)
                rotate_left
                · (simp only [Act.put, List.setIfInBounds_toArray, List.set_cons_zero, List.set_cons_succ]; rfl)
                refine pure_ (i := 10) (N := (some 74)) (v := ?_) (a' := ?_) #[true, true, true, true, true, true, true, true, true, true, true, false, false, false, false, false, false, false, false, false, false, false, false, false, false, false, false] rfl rfl (by kernel_rfl) (fun _ _ _ h => h) (Or.inl ⟨by rfl, ?_⟩) ?_ ?_
                rotate_left
                · (intro w'; go_simp; with_reducible rfl)
                rotate_left
                · (simp only [Act.put, List.setIfInBounds_toArray, List.set_cons_zero, List.set_cons_succ]; rfl)
                refine pure_ (i := 11) (N := (some 75)) (v := ?_) (a' := ?_) #[true, true, true, true, true, true, true, true, true, true, true, true, false, false, false, false, false, false, false, false, false, false, false, false, false, false, false] rfl rfl (by kernel_rfl) (fun _ _ _ h => h) (Or.inl ⟨by rfl, ?_⟩) ?_ ?_
                rotate_left
                · (intro w'; go_simp; with_reducible rfl)
                rotate_left
                · (simp only [Act.put, List.setIfInBounds_toArray, List.set_cons_zero, List.set_cons_succ]; rfl)
                refine pure_ (i := 13) (N := (some 77)) (v := ?_) (a' := ?_) #[true, true, true, true, true, true, true, true, true, true, true, true, false, true, false, false, false, false, false, false, false, false, false, false, false, false, false] rfl rfl (by kernel_rfl) (fun _ _ _ h => h) (Or.inl ⟨by rfl, ?_⟩) ?_ ?_
                rotate_left
                · (intro w'; go_simp; with_reducible rfl)
                rotate_left
                · (simp only [Act.put, List.setIfInBounds_toArray, List.set_cons_zero, List.set_cons_succ]; rfl)
                refine pure_ (i := 15) (N := (some 79)) (v := ?_) (a' := ?_) #[true, true, true, true, true, true, true, true, true, true, true, true, false, true, false, true, false, false, false, false, false, false, false, false, false, false, false] rfl rfl (by kernel_rfl) (fun _ _ _ h => h) (Or.inl ⟨by rfl, ?_⟩) ?_ ?_
                rotate_left
                · (intro w'; go_simp; with_reducible rfl)
                rotate_left
                · (simp only [Act.put, List.setIfInBounds_toArray, List.set_cons_zero, List.set_cons_succ]; rfl)
                refine pure_ (i := 19) (N := (some 83)) (v := ?_) (a' := ?_) #[true, true, true, true, true, true, true, true, true, true, true, true, false, true, false, true, false, false, false, true, false, false, false, false, false, false, false] rfl rfl (by kernel_rfl) (fun _ _ _ h => h) (Or.inl ⟨by rfl, ?_⟩) ?_ ?_
                rotate_left
                · (intro w'; go_simp; with_reducible rfl)
                rotate_left
                · (simp only [Act.put, List.setIfInBounds_toArray, List.set_cons_zero, List.set_cons_succ]; rfl)
                refine pure_ (i := 20) (N := (some 84)) (v := ?_) (a' := ?_) #[true, true, true, true, true, true, true, true, true, true, true, true, false, true, false, true, false, false, false, true, true, false, false, false, false, false, false] rfl rfl (by kernel_rfl) (fun _ _ _ h => h) (Or.inl ⟨by rfl, ?_⟩) ?_ ?_
                rotate_left
                · (intro w'; go_simp; with_reducible rfl)
                rotate_left
                · (simp only [Act.put, List.setIfInBounds_toArray, List.set_cons_zero, List.set_cons_succ]; rfl)
                refine pure_ (i := 21) (N := (some 85)) (v := ?_) (a' := ?_) #[true, true, true, true, true, true, true, true, true, true, true, true, false, true, false, true, false, false, false, true, true, true, false, false, false, false, false] rfl rfl (by kernel_rfl) (fun _ _ _ h => h) (Or.inl ⟨by rfl, ?_⟩) ?_ ?_
                rotate_left
                · (intro w'; go_simp; with_reducible rfl)
                rotate_left
                · (simp only [Act.put, List.setIfInBounds_toArray, List.set_cons_zero, List.set_cons_succ]; rfl)
                refine pure_ (i := 22) (N := (some 86)) (v := ?_) (a' := ?_) #[true, true, true, true, true, true, true, true, true, true, true, true, false, true, false, true, false, false, false, true, true, true, true, false, false, false, false] rfl rfl (by kernel_rfl) (fun _ _ _ h => h) (Or.inl ⟨by rfl, ?_⟩) ?_ ?_
                rotate_left
                · (intro w'; go_simp; with_reducible rfl)
                rotate_left
                · (simp only [Act.put, List.setIfInBounds_toArray, List.set_cons_zero, List.set_cons_succ]; rfl)
                refine take_ (i := 12) (N := (some 76)) (v := ?_) (a' := ?_) #[true, true, true, true, true, true, true, true, true, true, true, true, true, true, false, true, false, false, false, true, true, true, true, false, false, false, false] rfl rfl (by kernel_rfl) (fun _ _ _ h => h) (Or.inl ⟨by rfl, ?_⟩) hHeld ?_ ?_
                rotate_left
                · (rintro w' ⟨s0, s1, s2, s3, s4⟩; have d0 : w'.cell? ⟨w.heap.size, 0, none⟩ = some (.slice A1 g.terms.length c1) := (blk_cell s0 0).trans rfl; have d1 : w'.cell? ⟨w.heap.size, 1, none⟩ = some (.slice A2 g.names.length c2) := (blk_cell s0 1).trans rfl; have d2 : w'.cell? ⟨w.heap.size, 2, none⟩ = some (.slice (some a3) g.rules.length c3) := (blk_cell s0 2).trans rfl; have d3 : w'.cell? ⟨w.heap.size + 1, 1, none⟩ = some (.slice (some ad) x.right.length cr) := (blk_cell s1 1).trans rfl; go_simp; with_reducible rfl)
                rotate_left
                · (simp only [Act.put, List.setIfInBounds_toArray, List.set_cons_zero, List.set_cons_succ]; rfl)
                refine take_ (i := 14) (N := (some 78)) (v := ?_) (a' := ?_) #[true, true, true, true, true, true, true, true, true, true, true, true, true, true, true, true, false, false, false, true, true, true, true, false, false, false, false] rfl rfl (by kernel_rfl) (fun _ _ _ h => h) (Or.inl ⟨by rfl, ?_⟩) hHeld ?_ ?_
                rotate_left
                · (rintro w' ⟨s0, s1, s2, s3, s4⟩; have d0 : w'.cell? ⟨w.heap.size, 0, none⟩ = some (.slice A1 g.terms.length c1) := (blk_cell s0 0).trans rfl; have d1 : w'.cell? ⟨w.heap.size, 1, none⟩ = some (.slice A2 g.names.length c2) := (blk_cell s0 1).trans rfl; have d2 : w'.cell? ⟨w.heap.size, 2, none⟩ = some (.slice (some a3) g.rules.length c3) := (blk_cell s0 2).trans rfl; have d3 : w'.cell? ⟨w.heap.size + 1, 1, none⟩ = some (.slice (some ad) x.right.length cr) := (blk_cell s1 1).trans rfl; go_simp; with_reducible rfl)
                rotate_left
                · (simp only [Act.put, List.setIfInBounds_toArray, List.set_cons_zero, List.set_cons_succ]; rfl)
                refine pure_ (i := 16) (N := (some 80)) (v := ?_) (a' := ?_) #[true, true, true, true, true, true, true, true, true, true, true, true, true, true, true, true, true, false, false, true, true, true, true, false, false, false, false] rfl rfl (by kernel_rfl) (fun _ _ _ h => h) (Or.inl ⟨by rfl, ?_⟩) ?_ ?_
                rotate_left
                · (intro w'; go_simp; with_reducible rfl)
                rotate_left
                · (simp only [Act.put, List.setIfInBounds_toArray, List.set_cons_zero, List.set_cons_succ]; rfl)
                refine take_ (i := 17) (N := (some 81)) (v := ?_) (a' := ?_) #[true, true, true, true, true, true, true, true, true, true, true, true, true, true, true, true, true, true, false, true, true, true, true, false, false, false, false] rfl rfl (by kernel_rfl) (fun _ _ _ h => h) (Or.inl ⟨by rfl, ?_⟩) hHeld ?_ ?_
                rotate_left
                · (rintro w' ⟨s0, s1, s2, s3, s4⟩; have d0 : w'.cell? ⟨w.heap.size, 0, none⟩ = some (.slice A1 g.terms.length c1) := (blk_cell s0 0).trans rfl; have d1 : w'.cell? ⟨w.heap.size, 1, none⟩ = some (.slice A2 g.names.length c2) := (blk_cell s0 1).trans rfl; have d2 : w'.cell? ⟨w.heap.size, 2, none⟩ = some (.slice (some a3) g.rules.length c3) := (blk_cell s0 2).trans rfl; have d3 : w'.cell? ⟨w.heap.size + 1, 1, none⟩ = some (.slice (some ad) x.right.length cr) := (blk_cell s1 1).trans rfl; go_simp; with_reducible rfl)
                rotate_left
                · (simp only [Act.put, List.setIfInBounds_toArray, List.set_cons_zero, List.set_cons_succ]; rfl)
                refine take_ (i := 23) (N := (some 87)) (v := ?_) (a' := ?_) #[true, true, true, true, true, true, true, true, true, true, true, true, true, true, true, true, true, true, false, true, true, true, true, true, false, false, false] rfl rfl (by kernel_rfl) (fun _ _ _ h => h) (Or.inl ⟨by rfl, ?_⟩) hHeld ?_ ?_
                rotate_left
                · (rintro w' ⟨s0, s1, s2, s3, s4⟩; have d0 : w'.cell? ⟨w.heap.size, 0, none⟩ = some (.slice A1 g.terms.length c1) := (blk_cell s0 0).trans rfl; have d1 : w'.cell? ⟨w.heap.size, 1, none⟩ = some (.slice A2 g.names.length c2) := (blk_cell s0 1).trans rfl; have d2 : w'.cell? ⟨w.heap.size, 2, none⟩ = some (.slice (some a3) g.rules.length c3) := (blk_cell s0 2).trans rfl; have d3 : w'.cell? ⟨w.heap.size + 1, 1, none⟩ = some (.slice (some ad) x.right.length cr) := (blk_cell s1 1).trans rfl; go_simp; with_reducible rfl)
                rotate_left
                · (simp only [Act.put, List.setIfInBounds_toArray, List.set_cons_zero, List.set_cons_succ]; rfl)
                refine pure_ (i := 24) (N := (some 88)) (v := ?_) (a' := ?_) #[true, true, true, true, true, true, true, true, true, true, true, true, true, true, true, true, true, true, false, true, true, true, true, true, true, false, false] rfl rfl (by kernel_rfl) (fun _ _ _ h => h) (Or.inl ⟨by rfl, ?_⟩) ?_ ?_
                rotate_left
                · (intro w'; go_simp; with_reducible rfl)
                rotate_left
                · (simp only [Act.put, List.setIfInBounds_toArray, List.set_cons_zero, List.set_cons_succ]; rfl)
                refine one_ (i := 18) (N := (some 82)) #[true, true, true, true, true, true, true, true, true, true, true, true, true, true, true, true, true, true, true, true, true, true, true, true, true, false, false] rfl rfl (by kernel_rfl) (by decide) (fun K hK => ?_)
                (refine goes_ Try.func25 (by kernel_rfl) rfl #[.agg #[.slice A1 g.terms.length c1, .slice A2 g.names.length c2, .slice (some a3) g.rules.length c3], .int .i64 (x.right[k]'hk1)] (by rfl) rfl rfl (by simp [Act.eval]) ?_; refine (term_c g A1 A2 (some a3) c1 c2 c3 _ _).mono ?_; rw [HTM.out]; rintro e w6 ⟨rfl, hb6⟩; refine ⟨_, rfl, ?_⟩; have HK6 := Aside0.mk (HK5.out.drew_.below_ hb6); clear hb6; refine hK.out _ _ (HK6.out.held k hk1 hk2) (fun hHeld => ?_))
                skip
                clear hK K
                refine norm_ (a' := ?_) ?_ ?_
                rotate_left
                · (show Act.put _ (some 82) _ = _; simp only [Act.put, List.setIfInBounds_toArray, List.set_cons_zero, List.set_cons_succ]; rfl)
                refine pure_ (i := 25) (N := (some 89)) (v := ?_) (a' := ?_) #[true, true, true, true, true, true, true, true, true, true, true, true, true, true, true, true, true, true, true, true, true, true, true, true, true, true, false] rfl rfl (by kernel_rfl) (fun _ _ _ h => h) (Or.inl ⟨by rfl, ?_⟩) ?_ ?_
                rotate_left
                · (intro w'; go_simp; with_reducible rfl)
                rotate_left
                · (simp only [Act.put, List.setIfInBounds_toArray, List.set_cons_zero, List.set_cons_succ]; rfl)
                refine pure_ (i := 26) (N := (some 90)) (v := ?_) (a' := ?_) #[true, true, true, true, true, true, true, true, true, true, true, true, true, true, true, true, true, true, true, true, true, true, true, true, true, true, true] rfl rfl (by kernel_rfl) (fun _ _ _ h => h) (Or.inl ⟨by rfl, ?_⟩) ?_ ?_
                rotate_left
                · (intro w'; go_simp; with_reducible rfl)
                rotate_left
                · (simp only [Act.put, List.setIfInBounds_toArray, List.set_cons_zero, List.set_cons_succ]; rfl)
                refine done_ (by kernel_rfl) ?_
                go_wp2
                go_ret
                exact ⟨ret_bool (by rw [HE.out, ← HD.out, HNM.out, HTM.out, decide_eq_true HKD.out]; simp), HK6.out.b⟩
              · have HST := Aside0.mk hst
                have HKD := Aside0.mk hkd
                have hkb : (((right[k]'hk2).kind == 2) : Bool) = false := by rw [beq_eq_false_iff_ne]; exact hkd
                clear hst hkd
                go_wp2
                refine start_ (n := 12) (S := fun w' => IS w.heap.size g A1 A2 (some a3) c1 c2 c3 x cr k ad bd (x.right[k]'hk1) (right[k]'hk2).kind (right[k]'hk2).text w') (ds := []) #[false, false, false, false, false, false, false, false, false, false, false, false] (by kernel_rfl) rfl rfl (HK.out.drew_.held k hk1 hk2) (fun hHeld => ?_)
                refine pure_ (i := 1) (N := (some 56)) (v := ?_) (a' := ?_) #[false, true, false, false, false, false, false, false, false, false, false, false] rfl rfl (by kernel_rfl) (fun _ _ _ h => h) (Or.inl ⟨by rfl, ?_⟩) ?_ ?_
                rotate_left
                · (intro w'; go_simp; with_reducible rfl)
                rotate_left
                · (simp only [Act.put, List.setIfInBounds_toArray, List.set_cons_zero, List.set_cons_succ]; rfl)
                refine pure_ (i := 3) (N := (some 58)) (v := ?_) (a' := ?_) #[false, true, false, true, false, false, false, false, false, false, false, false] rfl rfl (by kernel_rfl) (fun _ _ _ h => h) (Or.inl ⟨by rfl, ?_⟩) ?_ ?_
                rotate_left
                · (intro w'; go_simp; with_reducible rfl)
                rotate_left
                · (simp only [Act.put, List.setIfInBounds_toArray, List.set_cons_zero, List.set_cons_succ]; rfl)
                refine take_ (i := 0) (N := (some 55)) (v := ?_) (a' := ?_) #[true, true, false, true, false, false, false, false, false, false, false, false] rfl rfl (by kernel_rfl) (fun _ _ _ h => h) (Or.inl ⟨by rfl, ?_⟩) hHeld ?_ ?_
                rotate_left
                · (rintro w' ⟨s0, s1, s2, s3, s4⟩; have d0 : w'.cell? ⟨w.heap.size, 0, none⟩ = some (.slice A1 g.terms.length c1) := (blk_cell s0 0).trans rfl; have d1 : w'.cell? ⟨w.heap.size, 1, none⟩ = some (.slice A2 g.names.length c2) := (blk_cell s0 1).trans rfl; have d2 : w'.cell? ⟨w.heap.size, 2, none⟩ = some (.slice (some a3) g.rules.length c3) := (blk_cell s0 2).trans rfl; have d3 : w'.cell? ⟨w.heap.size + 1, 1, none⟩ = some (.slice (some ad) x.right.length cr) := (blk_cell s1 1).trans rfl; go_simp; with_reducible rfl)
                rotate_left
                · (simp only [Act.put, List.setIfInBounds_toArray, List.set_cons_zero, List.set_cons_succ]; rfl)
                refine take_ (i := 2) (N := (some 57)) (v := ?_) (a' := ?_) #[true, true, true, true, false, false, false, false, false, false, false, false] rfl rfl (by kernel_rfl) (fun _ _ _ h => h) (Or.inl ⟨by rfl, ?_⟩) hHeld ?_ ?_
                rotate_left
                · (rintro w' ⟨s0, s1, s2, s3, s4⟩; have d0 : w'.cell? ⟨w.heap.size, 0, none⟩ = some (.slice A1 g.terms.length c1) := (blk_cell s0 0).trans rfl; have d1 : w'.cell? ⟨w.heap.size, 1, none⟩ = some (.slice A2 g.names.length c2) := (blk_cell s0 1).trans rfl; have d2 : w'.cell? ⟨w.heap.size, 2, none⟩ = some (.slice (some a3) g.rules.length c3) := (blk_cell s0 2).trans rfl; have d3 : w'.cell? ⟨w.heap.size + 1, 1, none⟩ = some (.slice (some ad) x.right.length cr) := (blk_cell s1 1).trans rfl; go_simp; with_reducible rfl)
                rotate_left
                · (simp only [Act.put, List.setIfInBounds_toArray, List.set_cons_zero, List.set_cons_succ]; rfl)
                refine pure_ (i := 4) (N := (some 59)) (v := ?_) (a' := ?_) #[true, true, true, true, true, false, false, false, false, false, false, false] rfl rfl (by kernel_rfl) (fun _ _ _ h => h) (Or.inl ⟨by rfl, ?_⟩) ?_ ?_
                rotate_left
                · (intro w'; go_simp; with_reducible rfl)
                rotate_left
                · (simp only [Act.put, List.setIfInBounds_toArray, List.set_cons_zero, List.set_cons_succ]; rfl)
                refine take_ (i := 5) (N := (some 60)) (v := ?_) (a' := ?_) #[true, true, true, true, true, true, false, false, false, false, false, false] rfl rfl (by kernel_rfl) (fun _ _ _ h => h) (Or.inl ⟨by rfl, ?_⟩) hHeld ?_ ?_
                rotate_left
                · (rintro w' ⟨s0, s1, s2, s3, s4⟩; have d0 : w'.cell? ⟨w.heap.size, 0, none⟩ = some (.slice A1 g.terms.length c1) := (blk_cell s0 0).trans rfl; have d1 : w'.cell? ⟨w.heap.size, 1, none⟩ = some (.slice A2 g.names.length c2) := (blk_cell s0 1).trans rfl; have d2 : w'.cell? ⟨w.heap.size, 2, none⟩ = some (.slice (some a3) g.rules.length c3) := (blk_cell s0 2).trans rfl; have d3 : w'.cell? ⟨w.heap.size + 1, 1, none⟩ = some (.slice (some ad) x.right.length cr) := (blk_cell s1 1).trans rfl; go_simp; with_reducible rfl)
                rotate_left
                · (simp only [Act.put, List.setIfInBounds_toArray, List.set_cons_zero, List.set_cons_succ]; rfl)
                refine one_ (i := 6) (N := (some 61)) #[true, true, true, true, true, true, true, false, false, false, false, false] rfl rfl (by kernel_rfl) (by decide) (fun K hK => ?_)
                (refine goes_ Try.func20 (by kernel_rfl) rfl #[.agg #[.slice A1 g.terms.length c1, .slice A2 g.names.length c2, .slice (some a3) g.rules.length c3], .int .i64 (x.right[k]'hk1)] (by rfl) rfl rfl (by simp [Act.eval]) ?_; refine (name_c g A1 A2 (some a3) c1 c2 c3 _ _ (HK.out.drew_).rep hsz hzb).mono ?_; rw [HNM.out]; rintro e w5 ⟨he, hb5⟩; obtain rfl : e = .returned (.tuple #[.string s, .bool true]) := he; refine ⟨_, rfl, ?_⟩; have HK5 := Aside0.mk (HK.out.drew_.below_ hb5); clear hb5; refine hK.out _ _ (HK5.out.held k hk1 hk2) (fun hHeld => ?_))
                skip
                clear hK K
                refine norm_ (a' := ?_) ?_ ?_
                rotate_left
                · (show Act.put _ (some 61) _ = _; simp only [Act.put, List.setIfInBounds_toArray, List.set_cons_zero, List.set_cons_succ]; rfl)
                refine pure_ (i := 7) (N := (some 54)) (v := ?_) (a' := ?_) #[true, true, true, true, true, true, true, true, false, false, false, false] rfl rfl (by kernel_rfl) (fun _ _ _ h => h) (Or.inl ⟨by rfl, ?_⟩) ?_ ?_
                rotate_left
                · (intro w'; go_simp; with_reducible rfl)
                rotate_left
                · (simp only [Act.put, List.setIfInBounds_toArray, List.set_cons_zero, List.set_cons_succ]; rfl)
                refine pure_ (i := 8) (N := (some 62)) (v := ?_) (a' := ?_) #[true, true, true, true, true, true, true, true, true, false, false, false] rfl rfl (by kernel_rfl) (fun _ _ _ h => h) (Or.inl ⟨by rfl, ?_⟩) ?_ ?_
                rotate_left
                · (intro w'; go_simp; with_reducible rfl)
                rotate_left
                · (simp only [Act.put, List.setIfInBounds_toArray, List.set_cons_zero, List.set_cons_succ]; rfl)
                refine pure_ (i := 9) (N := (some 63)) (v := ?_) (a' := ?_) #[true, true, true, true, true, true, true, true, true, true, false, false] rfl rfl (by kernel_rfl) (fun _ _ _ h => h) (Or.inl ⟨by rfl, ?_⟩) ?_ ?_
                rotate_left
                · (intro w'; go_simp; with_reducible rfl)
                rotate_left
                · (simp only [Act.put, List.setIfInBounds_toArray, List.set_cons_zero, List.set_cons_succ]; rfl)
                refine pure_ (i := 10) (N := (some 13)) (v := ?_) (a' := ?_) #[true, true, true, true, true, true, true, true, true, true, true, false] rfl rfl (by kernel_rfl) (fun _ _ _ h => h) (Or.inl ⟨by rfl, ?_⟩) ?_ ?_
                rotate_left
                · (intro w'; go_simp; with_reducible rfl)
                rotate_left
                · (simp only [Act.put, List.setIfInBounds_toArray, List.set_cons_zero, List.set_cons_succ]; rfl)
                refine pure_ (i := 11) (N := (some 14)) (v := ?_) (a' := ?_) #[true, true, true, true, true, true, true, true, true, true, true, true] rfl rfl (by kernel_rfl) (fun _ _ _ h => h) (Or.inl ⟨by rfl, ?_⟩) ?_ ?_
                rotate_left
                · (intro w'; go_simp; with_reducible rfl)
                rotate_left
                · (simp only [Act.put, List.setIfInBounds_toArray, List.set_cons_zero, List.set_cons_succ]; rfl)
                refine done_ (by kernel_rfl) ?_
                go_wp2
                refine start_ (n := 27) (S := fun w' => IS w.heap.size g A1 A2 (some a3) c1 c2 c3 x cr k ad bd (x.right[k]'hk1) (right[k]'hk2).kind (right[k]'hk2).text w') (ds := []) #[false, false, false, false, false, false, false, false, false, false, false, false, false, false, false, false, false, false, false, false, false, false, false, false, false, false, false] (by kernel_rfl) rfl rfl (HK5.out.drew_.held k hk1 hk2) (fun hHeld => ?_)
                refine pure_ (i := 0) (N := (some 64)) (v := ?_) (a' := ?_) #[true, false, false, false, false, false, false, false, false, false, false, false, false, false, false, false, false, false, false, false, false, false, false, false, false, false, false] rfl rfl (by kernel_rfl) (fun _ _ _ h => h) (Or.inl ⟨by rfl, ?_⟩) ?_ ?_
                rotate_left
                · (intro w'; go_simp; with_reducible rfl)
                rotate_left
                · (simp only [Act.put, List.setIfInBounds_toArray, List.set_cons_zero, List.set_cons_succ]; rfl)
                refine pure_ (i := 1) (N := (some 65)) (v := ?_) (a' := ?_) #[true, true, false, false, false, false, false, false, false, false, false, false, false, false, false, false, false, false, false, false, false, false, false, false, false, false, false] rfl rfl (by kernel_rfl) (fun _ _ _ h => h) (Or.inl ⟨by rfl, ?_⟩) ?_ ?_
                rotate_left
                · (intro w'; go_simp; with_reducible rfl)
                rotate_left
                · (simp only [Act.put, List.setIfInBounds_toArray, List.set_cons_zero, List.set_cons_succ]; rfl)
                refine pure_ (i := 2) (N := (some 66)) (v := ?_) (a' := ?_) #[true, true, true, false, false, false, false, false, false, false, false, false, false, false, false, false, false, false, false, false, false, false, false, false, false, false, false] rfl rfl (by kernel_rfl) (fun _ _ _ h => h) (Or.inl ⟨by rfl, ?_⟩) ?_ ?_
                rotate_left
                · (intro w'; go_simp; with_reducible rfl)
                rotate_left
                · (simp only [Act.put, List.setIfInBounds_toArray, List.set_cons_zero, List.set_cons_succ]; rfl)
                refine pure_ (i := 3) (N := (some 67)) (v := ?_) (a' := ?_) #[true, true, true, true, false, false, false, false, false, false, false, false, false, false, false, false, false, false, false, false, false, false, false, false, false, false, false] rfl rfl (by kernel_rfl) (fun _ _ _ h => h) (Or.inl ⟨by rfl, ?_⟩) ?_ ?_
                rotate_left
                · (intro w'; go_simp; with_reducible rfl)
                rotate_left
                · (simp only [Act.put, List.setIfInBounds_toArray, List.set_cons_zero, List.set_cons_succ]; rfl)
                refine pure_ (i := 4) (N := (some 68)) (v := ?_) (a' := ?_) #[true, true, true, true, true, false, false, false, false, false, false, false, false, false, false, false, false, false, false, false, false, false, false, false, false, false, false] rfl rfl (by kernel_rfl) (fun _ _ _ h => h) (Or.inl ⟨by rfl, ?_⟩) ?_ ?_
                rotate_left
                · (intro w'; go_simp; with_reducible rfl)
                rotate_left
                · (simp only [Act.put, List.setIfInBounds_toArray, List.set_cons_zero, List.set_cons_succ]; rfl)
                refine pure_ (i := 5) (N := (some 69)) (v := ?_) (a' := ?_) #[true, true, true, true, true, true, false, false, false, false, false, false, false, false, false, false, false, false, false, false, false, false, false, false, false, false, false] rfl rfl (by kernel_rfl) (fun _ _ _ h => h) (Or.inl ⟨by rfl, ?_⟩) ?_ ?_
                rotate_left
                · (intro w'; go_simp; with_reducible rfl)
                rotate_left
                · (simp only [Act.put, List.setIfInBounds_toArray, List.set_cons_zero, List.set_cons_succ]; rfl)
                refine pure_ (i := 6) (N := (some 70)) (v := ?_) (a' := ?_) #[true, true, true, true, true, true, true, false, false, false, false, false, false, false, false, false, false, false, false, false, false, false, false, false, false, false, false] rfl rfl (by kernel_rfl) (fun _ _ _ h => h) (Or.inl ⟨by rfl, ?_⟩) ?_ ?_
                rotate_left
                · (intro w'; go_simp; with_reducible rfl)
                rotate_left
                · (simp only [Act.put, List.setIfInBounds_toArray, List.set_cons_zero, List.set_cons_succ]; rfl)
                refine pure_ (i := 7) (N := (some 71)) (v := ?_) (a' := ?_) #[true, true, true, true, true, true, true, true, false, false, false, false, false, false, false, false, false, false, false, false, false, false, false, false, false, false, false] rfl rfl (by kernel_rfl) (fun _ _ _ h => h) (Or.inl ⟨by rfl, ?_⟩) ?_ ?_
                rotate_left
                · (intro w'; go_simp; with_reducible rfl)
                rotate_left
                · (simp only [Act.put, List.setIfInBounds_toArray, List.set_cons_zero, List.set_cons_succ]; rfl)
                refine take_ (i := 8) (N := (some 72)) (v := ?_) (a' := ?_) #[true, true, true, true, true, true, true, true, true, false, false, false, false, false, false, false, false, false, false, false, false, false, false, false, false, false, false] rfl rfl (by kernel_rfl) (fun _ _ _ h => h) (Or.inl ⟨by rfl, ?_⟩) hHeld ?_ ?_
                rotate_left
                · (rintro w' ⟨s0, s1, s2, s3, s4⟩; have d0 : w'.cell? ⟨w.heap.size, 0, none⟩ = some (.slice A1 g.terms.length c1) := (blk_cell s0 0).trans rfl; have d1 : w'.cell? ⟨w.heap.size, 1, none⟩ = some (.slice A2 g.names.length c2) := (blk_cell s0 1).trans rfl; have d2 : w'.cell? ⟨w.heap.size, 2, none⟩ = some (.slice (some a3) g.rules.length c3) := (blk_cell s0 2).trans rfl; have d3 : w'.cell? ⟨w.heap.size + 1, 1, none⟩ = some (.slice (some ad) x.right.length cr) := (blk_cell s1 1).trans rfl; go_simp; with_reducible rfl)
                rotate_left
                · (simp only [Act.put, List.setIfInBounds_toArray, List.set_cons_zero, List.set_cons_succ]; rfl)
                refine pure_ (i := 9) (N := (some 73)) (v := ?_) (a' := ?_) #[true, true, true, true, true, true, true, true, true, true, false, false, false, false, false, false, false, false, false, false, false, false, false, false, false, false, false] rfl rfl (by kernel_rfl) (fun _ _ _ h => h) (Or.inl ⟨by rfl, ?_⟩) ?_ ?_
                rotate_left
                · (intro w'; go_simp; with_reducible rfl)
                rotate_left
                · (simp only [Act.put, List.setIfInBounds_toArray, List.set_cons_zero, List.set_cons_succ]; rfl)
                refine pure_ (i := 10) (N := (some 74)) (v := ?_) (a' := ?_) #[true, true, true, true, true, true, true, true, true, true, true, false, false, false, false, false, false, false, false, false, false, false, false, false, false, false, false] rfl rfl (by kernel_rfl) (fun _ _ _ h => h) (Or.inl ⟨by rfl, ?_⟩) ?_ ?_
                rotate_left
                · (intro w'; go_simp; with_reducible rfl)
                rotate_left
                · (simp only [Act.put, List.setIfInBounds_toArray, List.set_cons_zero, List.set_cons_succ]; rfl)
                refine pure_ (i := 11) (N := (some 75)) (v := ?_) (a' := ?_) #[true, true, true, true, true, true, true, true, true, true, true, true, false, false, false, false, false, false, false, false, false, false, false, false, false, false, false] rfl rfl (by kernel_rfl) (fun _ _ _ h => h) (Or.inl ⟨by rfl, ?_⟩) ?_ ?_
                rotate_left
                · (intro w'; go_simp; with_reducible rfl)
                rotate_left
                · (simp only [Act.put, List.setIfInBounds_toArray, List.set_cons_zero, List.set_cons_succ]; rfl)
                refine pure_ (i := 13) (N := (some 77)) (v := ?_) (a' := ?_) #[true, true, true, true, true, true, true, true, true, true, true, true, false, true, false, false, false, false, false, false, false, false, false, false, false, false, false] rfl rfl (by kernel_rfl) (fun _ _ _ h => h) (Or.inl ⟨by rfl, ?_⟩) ?_ ?_
                rotate_left
                · (intro w'; go_simp; with_reducible rfl)
                rotate_left
                · (simp only [Act.put, List.setIfInBounds_toArray, List.set_cons_zero, List.set_cons_succ]; rfl)
                refine pure_ (i := 15) (N := (some 79)) (v := ?_) (a' := ?_) #[true, true, true, true, true, true, true, true, true, true, true, true, false, true, false, true, false, false, false, false, false, false, false, false, false, false, false] rfl rfl (by kernel_rfl) (fun _ _ _ h => h) (Or.inl ⟨by rfl, ?_⟩) ?_ ?_
                rotate_left
                · (intro w'; go_simp; with_reducible rfl)
                rotate_left
                · (simp only [Act.put, List.setIfInBounds_toArray, List.set_cons_zero, List.set_cons_succ]; rfl)
                refine pure_ (i := 19) (N := (some 83)) (v := ?_) (a' := ?_) #[true, true, true, true, true, true, true, true, true, true, true, true, false, true, false, true, false, false, false, true, false, false, false, false, false, false, false] rfl rfl (by kernel_rfl) (fun _ _ _ h => h) (Or.inl ⟨by rfl, ?_⟩) ?_ ?_
                rotate_left
                · (intro w'; go_simp; with_reducible rfl)
                rotate_left
                · (simp only [Act.put, List.setIfInBounds_toArray, List.set_cons_zero, List.set_cons_succ]; rfl)
                refine pure_ (i := 20) (N := (some 84)) (v := ?_) (a' := ?_) #[true, true, true, true, true, true, true, true, true, true, true, true, false, true, false, true, false, false, false, true, true, false, false, false, false, false, false] rfl rfl (by kernel_rfl) (fun _ _ _ h => h) (Or.inl ⟨by rfl, ?_⟩) ?_ ?_
                rotate_left
                · (intro w'; go_simp; with_reducible rfl)
                rotate_left
                · (simp only [Act.put, List.setIfInBounds_toArray, List.set_cons_zero, List.set_cons_succ]; rfl)
                refine pure_ (i := 21) (N := (some 85)) (v := ?_) (a' := ?_) #[true, true, true, true, true, true, true, true, true, true, true, true, false, true, false, true, false, false, false, true, true, true, false, false, false, false, false] rfl rfl (by kernel_rfl) (fun _ _ _ h => h) (Or.inl ⟨by rfl, ?_⟩) ?_ ?_
                rotate_left
                · (intro w'; go_simp; with_reducible rfl)
                rotate_left
                · (simp only [Act.put, List.setIfInBounds_toArray, List.set_cons_zero, List.set_cons_succ]; rfl)
                refine pure_ (i := 22) (N := (some 86)) (v := ?_) (a' := ?_) #[true, true, true, true, true, true, true, true, true, true, true, true, false, true, false, true, false, false, false, true, true, true, true, false, false, false, false] rfl rfl (by kernel_rfl) (fun _ _ _ h => h) (Or.inl ⟨by rfl, ?_⟩) ?_ ?_
                rotate_left
                · (intro w'; go_simp; with_reducible rfl)
                rotate_left
                · (simp only [Act.put, List.setIfInBounds_toArray, List.set_cons_zero, List.set_cons_succ]; rfl)
                refine take_ (i := 12) (N := (some 76)) (v := ?_) (a' := ?_) #[true, true, true, true, true, true, true, true, true, true, true, true, true, true, false, true, false, false, false, true, true, true, true, false, false, false, false] rfl rfl (by kernel_rfl) (fun _ _ _ h => h) (Or.inl ⟨by rfl, ?_⟩) hHeld ?_ ?_
                rotate_left
                · (rintro w' ⟨s0, s1, s2, s3, s4⟩; have d0 : w'.cell? ⟨w.heap.size, 0, none⟩ = some (.slice A1 g.terms.length c1) := (blk_cell s0 0).trans rfl; have d1 : w'.cell? ⟨w.heap.size, 1, none⟩ = some (.slice A2 g.names.length c2) := (blk_cell s0 1).trans rfl; have d2 : w'.cell? ⟨w.heap.size, 2, none⟩ = some (.slice (some a3) g.rules.length c3) := (blk_cell s0 2).trans rfl; have d3 : w'.cell? ⟨w.heap.size + 1, 1, none⟩ = some (.slice (some ad) x.right.length cr) := (blk_cell s1 1).trans rfl; go_simp; with_reducible rfl)
                rotate_left
                · (simp only [Act.put, List.setIfInBounds_toArray, List.set_cons_zero, List.set_cons_succ]; rfl)
                refine take_ (i := 14) (N := (some 78)) (v := ?_) (a' := ?_) #[true, true, true, true, true, true, true, true, true, true, true, true, true, true, true, true, false, false, false, true, true, true, true, false, false, false, false] rfl rfl (by kernel_rfl) (fun _ _ _ h => h) (Or.inl ⟨by rfl, ?_⟩) hHeld ?_ ?_
                rotate_left
                · (rintro w' ⟨s0, s1, s2, s3, s4⟩; have d0 : w'.cell? ⟨w.heap.size, 0, none⟩ = some (.slice A1 g.terms.length c1) := (blk_cell s0 0).trans rfl; have d1 : w'.cell? ⟨w.heap.size, 1, none⟩ = some (.slice A2 g.names.length c2) := (blk_cell s0 1).trans rfl; have d2 : w'.cell? ⟨w.heap.size, 2, none⟩ = some (.slice (some a3) g.rules.length c3) := (blk_cell s0 2).trans rfl; have d3 : w'.cell? ⟨w.heap.size + 1, 1, none⟩ = some (.slice (some ad) x.right.length cr) := (blk_cell s1 1).trans rfl; go_simp; with_reducible rfl)
                rotate_left
                · (simp only [Act.put, List.setIfInBounds_toArray, List.set_cons_zero, List.set_cons_succ]; rfl)
                refine pure_ (i := 16) (N := (some 80)) (v := ?_) (a' := ?_) #[true, true, true, true, true, true, true, true, true, true, true, true, true, true, true, true, true, false, false, true, true, true, true, false, false, false, false] rfl rfl (by kernel_rfl) (fun _ _ _ h => h) (Or.inl ⟨by rfl, ?_⟩) ?_ ?_
                rotate_left
                · (intro w'; go_simp; with_reducible rfl)
                rotate_left
                · (simp only [Act.put, List.setIfInBounds_toArray, List.set_cons_zero, List.set_cons_succ]; rfl)
                refine take_ (i := 17) (N := (some 81)) (v := ?_) (a' := ?_) #[true, true, true, true, true, true, true, true, true, true, true, true, true, true, true, true, true, true, false, true, true, true, true, false, false, false, false] rfl rfl (by kernel_rfl) (fun _ _ _ h => h) (Or.inl ⟨by rfl, ?_⟩) hHeld ?_ ?_
                rotate_left
                · (rintro w' ⟨s0, s1, s2, s3, s4⟩; have d0 : w'.cell? ⟨w.heap.size, 0, none⟩ = some (.slice A1 g.terms.length c1) := (blk_cell s0 0).trans rfl; have d1 : w'.cell? ⟨w.heap.size, 1, none⟩ = some (.slice A2 g.names.length c2) := (blk_cell s0 1).trans rfl; have d2 : w'.cell? ⟨w.heap.size, 2, none⟩ = some (.slice (some a3) g.rules.length c3) := (blk_cell s0 2).trans rfl; have d3 : w'.cell? ⟨w.heap.size + 1, 1, none⟩ = some (.slice (some ad) x.right.length cr) := (blk_cell s1 1).trans rfl; go_simp; with_reducible rfl)
                rotate_left
                · (simp only [Act.put, List.setIfInBounds_toArray, List.set_cons_zero, List.set_cons_succ]; rfl)
                refine take_ (i := 23) (N := (some 87)) (v := ?_) (a' := ?_) #[true, true, true, true, true, true, true, true, true, true, true, true, true, true, true, true, true, true, false, true, true, true, true, true, false, false, false] rfl rfl (by kernel_rfl) (fun _ _ _ h => h) (Or.inl ⟨by rfl, ?_⟩) hHeld ?_ ?_
                rotate_left
                · (rintro w' ⟨s0, s1, s2, s3, s4⟩; have d0 : w'.cell? ⟨w.heap.size, 0, none⟩ = some (.slice A1 g.terms.length c1) := (blk_cell s0 0).trans rfl; have d1 : w'.cell? ⟨w.heap.size, 1, none⟩ = some (.slice A2 g.names.length c2) := (blk_cell s0 1).trans rfl; have d2 : w'.cell? ⟨w.heap.size, 2, none⟩ = some (.slice (some a3) g.rules.length c3) := (blk_cell s0 2).trans rfl; have d3 : w'.cell? ⟨w.heap.size + 1, 1, none⟩ = some (.slice (some ad) x.right.length cr) := (blk_cell s1 1).trans rfl; go_simp; with_reducible rfl)
                rotate_left
                · (simp only [Act.put, List.setIfInBounds_toArray, List.set_cons_zero, List.set_cons_succ]; rfl)
                refine pure_ (i := 24) (N := (some 88)) (v := ?_) (a' := ?_) #[true, true, true, true, true, true, true, true, true, true, true, true, true, true, true, true, true, true, false, true, true, true, true, true, true, false, false] rfl rfl (by kernel_rfl) (fun _ _ _ h => h) (Or.inl ⟨by rfl, ?_⟩) ?_ ?_
                rotate_left
                · (intro w'; go_simp; with_reducible rfl)
                rotate_left
                · (simp only [Act.put, List.setIfInBounds_toArray, List.set_cons_zero, List.set_cons_succ]; rfl)
                refine one_ (i := 18) (N := (some 82)) #[true, true, true, true, true, true, true, true, true, true, true, true, true, true, true, true, true, true, true, true, true, true, true, true, true, false, false] rfl rfl (by kernel_rfl) (by decide) (fun K hK => ?_)
                (refine goes_ Try.func25 (by kernel_rfl) rfl #[.agg #[.slice A1 g.terms.length c1, .slice A2 g.names.length c2, .slice (some a3) g.rules.length c3], .int .i64 (x.right[k]'hk1)] (by rfl) rfl rfl (by simp [Act.eval]) ?_; refine (term_c g A1 A2 (some a3) c1 c2 c3 _ _).mono ?_; rw [HTM.out]; rintro e w6 ⟨rfl, hb6⟩; refine ⟨_, rfl, ?_⟩; have HK6 := Aside0.mk (HK5.out.drew_.below_ hb6); clear hb6; refine hK.out _ _ (HK6.out.held k hk1 hk2) (fun hHeld => ?_))
                skip
                clear hK K
                refine norm_ (a' := ?_) ?_ ?_
                rotate_left
                · (show Act.put _ (some 82) _ = _; simp only [Act.put, List.setIfInBounds_toArray, List.set_cons_zero, List.set_cons_succ]; rfl)
                refine pure_ (i := 25) (N := (some 89)) (v := ?_) (a' := ?_) #[true, true, true, true, true, true, true, true, true, true, true, true, true, true, true, true, true, true, true, true, true, true, true, true, true, true, false] rfl rfl (by kernel_rfl) (fun _ _ _ h => h) (Or.inl ⟨by rfl, ?_⟩) ?_ ?_
                rotate_left
                · (intro w'; go_simp; with_reducible rfl)
                rotate_left
                · (simp only [Act.put, List.setIfInBounds_toArray, List.set_cons_zero, List.set_cons_succ]; rfl)
                refine pure_ (i := 26) (N := (some 90)) (v := ?_) (a' := ?_) #[true, true, true, true, true, true, true, true, true, true, true, true, true, true, true, true, true, true, true, true, true, true, true, true, true, true, true] rfl rfl (by kernel_rfl) (fun _ _ _ h => h) (Or.inl ⟨by rfl, ?_⟩) ?_ ?_
                rotate_left
                · (intro w'; go_simp; with_reducible rfl)
                rotate_left
                · (simp only [Act.put, List.setIfInBounds_toArray, List.set_cons_zero, List.set_cons_succ]; rfl)
                refine done_ (by kernel_rfl) ?_
                go_wp2
                go_roundw
                case rel => exact ⟨k + 1, by omega, by go_num, ⟨by rw [← HD.out, HNM.out, HTM.out, decide_eq_false HKD.out, HST.out]; simp⟩, HK6⟩
                case measure => simp [intOf]; omega
          · have hsb : (s.toList == (right[k]'hk2).text.toList) = false := by rw [str_beq]; exact decide_eq_false hst
            have HST := Aside0.mk hst
            clear hst
            go_wp2
            refine start_ (n := 12) (S := fun w' => IS w.heap.size g A1 A2 (some a3) c1 c2 c3 x cr k ad bd (x.right[k]'hk1) (right[k]'hk2).kind (right[k]'hk2).text w') (ds := []) #[false, false, false, false, false, false, false, false, false, false, false, false] (by kernel_rfl) rfl rfl (HK.out.drew_.held k hk1 hk2) (fun hHeld => ?_)
            refine pure_ (i := 1) (N := (some 56)) (v := ?_) (a' := ?_) #[false, true, false, false, false, false, false, false, false, false, false, false] rfl rfl (by kernel_rfl) (fun _ _ _ h => h) (Or.inl ⟨by rfl, ?_⟩) ?_ ?_
            rotate_left
            · (intro w'; go_simp; with_reducible rfl)
            rotate_left
            · (simp only [Act.put, List.setIfInBounds_toArray, List.set_cons_zero, List.set_cons_succ]; rfl)
            refine pure_ (i := 3) (N := (some 58)) (v := ?_) (a' := ?_) #[false, true, false, true, false, false, false, false, false, false, false, false] rfl rfl (by kernel_rfl) (fun _ _ _ h => h) (Or.inl ⟨by rfl, ?_⟩) ?_ ?_
            rotate_left
            · (intro w'; go_simp; with_reducible rfl)
            rotate_left
            · (simp only [Act.put, List.setIfInBounds_toArray, List.set_cons_zero, List.set_cons_succ]; rfl)
            refine take_ (i := 0) (N := (some 55)) (v := ?_) (a' := ?_) #[true, true, false, true, false, false, false, false, false, false, false, false] rfl rfl (by kernel_rfl) (fun _ _ _ h => h) (Or.inl ⟨by rfl, ?_⟩) hHeld ?_ ?_
            rotate_left
            · (rintro w' ⟨s0, s1, s2, s3, s4⟩; have d0 : w'.cell? ⟨w.heap.size, 0, none⟩ = some (.slice A1 g.terms.length c1) := (blk_cell s0 0).trans rfl; have d1 : w'.cell? ⟨w.heap.size, 1, none⟩ = some (.slice A2 g.names.length c2) := (blk_cell s0 1).trans rfl; have d2 : w'.cell? ⟨w.heap.size, 2, none⟩ = some (.slice (some a3) g.rules.length c3) := (blk_cell s0 2).trans rfl; have d3 : w'.cell? ⟨w.heap.size + 1, 1, none⟩ = some (.slice (some ad) x.right.length cr) := (blk_cell s1 1).trans rfl; go_simp; with_reducible rfl)
            rotate_left
            · (simp only [Act.put, List.setIfInBounds_toArray, List.set_cons_zero, List.set_cons_succ]; rfl)
            refine take_ (i := 2) (N := (some 57)) (v := ?_) (a' := ?_) #[true, true, true, true, false, false, false, false, false, false, false, false] rfl rfl (by kernel_rfl) (fun _ _ _ h => h) (Or.inl ⟨by rfl, ?_⟩) hHeld ?_ ?_
            rotate_left
            · (rintro w' ⟨s0, s1, s2, s3, s4⟩; have d0 : w'.cell? ⟨w.heap.size, 0, none⟩ = some (.slice A1 g.terms.length c1) := (blk_cell s0 0).trans rfl; have d1 : w'.cell? ⟨w.heap.size, 1, none⟩ = some (.slice A2 g.names.length c2) := (blk_cell s0 1).trans rfl; have d2 : w'.cell? ⟨w.heap.size, 2, none⟩ = some (.slice (some a3) g.rules.length c3) := (blk_cell s0 2).trans rfl; have d3 : w'.cell? ⟨w.heap.size + 1, 1, none⟩ = some (.slice (some ad) x.right.length cr) := (blk_cell s1 1).trans rfl; go_simp; with_reducible rfl)
            rotate_left
            · (simp only [Act.put, List.setIfInBounds_toArray, List.set_cons_zero, List.set_cons_succ]; rfl)
            refine pure_ (i := 4) (N := (some 59)) (v := ?_) (a' := ?_) #[true, true, true, true, true, false, false, false, false, false, false, false] rfl rfl (by kernel_rfl) (fun _ _ _ h => h) (Or.inl ⟨by rfl, ?_⟩) ?_ ?_
            rotate_left
            · (intro w'; go_simp; with_reducible rfl)
            rotate_left
            · (simp only [Act.put, List.setIfInBounds_toArray, List.set_cons_zero, List.set_cons_succ]; rfl)
            refine take_ (i := 5) (N := (some 60)) (v := ?_) (a' := ?_) #[true, true, true, true, true, true, false, false, false, false, false, false] rfl rfl (by kernel_rfl) (fun _ _ _ h => h) (Or.inl ⟨by rfl, ?_⟩) hHeld ?_ ?_
            rotate_left
            · (rintro w' ⟨s0, s1, s2, s3, s4⟩; have d0 : w'.cell? ⟨w.heap.size, 0, none⟩ = some (.slice A1 g.terms.length c1) := (blk_cell s0 0).trans rfl; have d1 : w'.cell? ⟨w.heap.size, 1, none⟩ = some (.slice A2 g.names.length c2) := (blk_cell s0 1).trans rfl; have d2 : w'.cell? ⟨w.heap.size, 2, none⟩ = some (.slice (some a3) g.rules.length c3) := (blk_cell s0 2).trans rfl; have d3 : w'.cell? ⟨w.heap.size + 1, 1, none⟩ = some (.slice (some ad) x.right.length cr) := (blk_cell s1 1).trans rfl; go_simp; with_reducible rfl)
            rotate_left
            · (simp only [Act.put, List.setIfInBounds_toArray, List.set_cons_zero, List.set_cons_succ]; rfl)
            refine one_ (i := 6) (N := (some 61)) #[true, true, true, true, true, true, true, false, false, false, false, false] rfl rfl (by kernel_rfl) (by decide) (fun K hK => ?_)
            (refine goes_ Try.func20 (by kernel_rfl) rfl #[.agg #[.slice A1 g.terms.length c1, .slice A2 g.names.length c2, .slice (some a3) g.rules.length c3], .int .i64 (x.right[k]'hk1)] (by rfl) rfl rfl (by simp [Act.eval]) ?_; refine (name_c g A1 A2 (some a3) c1 c2 c3 _ _ (HK.out.drew_).rep hsz hzb).mono ?_; rw [HNM.out]; rintro e w5 ⟨he, hb5⟩; obtain rfl : e = .returned (.tuple #[.string s, .bool true]) := he; refine ⟨_, rfl, ?_⟩; have HK5 := Aside0.mk (HK.out.drew_.below_ hb5); clear hb5; refine hK.out _ _ (HK5.out.held k hk1 hk2) (fun hHeld => ?_))
            skip
            clear hK K
            refine norm_ (a' := ?_) ?_ ?_
            rotate_left
            · (show Act.put _ (some 61) _ = _; simp only [Act.put, List.setIfInBounds_toArray, List.set_cons_zero, List.set_cons_succ]; rfl)
            refine pure_ (i := 7) (N := (some 54)) (v := ?_) (a' := ?_) #[true, true, true, true, true, true, true, true, false, false, false, false] rfl rfl (by kernel_rfl) (fun _ _ _ h => h) (Or.inl ⟨by rfl, ?_⟩) ?_ ?_
            rotate_left
            · (intro w'; go_simp; with_reducible rfl)
            rotate_left
            · (simp only [Act.put, List.setIfInBounds_toArray, List.set_cons_zero, List.set_cons_succ]; rfl)
            refine pure_ (i := 8) (N := (some 62)) (v := ?_) (a' := ?_) #[true, true, true, true, true, true, true, true, true, false, false, false] rfl rfl (by kernel_rfl) (fun _ _ _ h => h) (Or.inl ⟨by rfl, ?_⟩) ?_ ?_
            rotate_left
            · (intro w'; go_simp; with_reducible rfl)
            rotate_left
            · (simp only [Act.put, List.setIfInBounds_toArray, List.set_cons_zero, List.set_cons_succ]; rfl)
            refine pure_ (i := 9) (N := (some 63)) (v := ?_) (a' := ?_) #[true, true, true, true, true, true, true, true, true, true, false, false] rfl rfl (by kernel_rfl) (fun _ _ _ h => h) (Or.inl ⟨by rfl, ?_⟩) ?_ ?_
            rotate_left
            · (intro w'; go_simp; with_reducible rfl)
            rotate_left
            · (simp only [Act.put, List.setIfInBounds_toArray, List.set_cons_zero, List.set_cons_succ]; rfl)
            refine pure_ (i := 10) (N := (some 13)) (v := ?_) (a' := ?_) #[true, true, true, true, true, true, true, true, true, true, true, false] rfl rfl (by kernel_rfl) (fun _ _ _ h => h) (Or.inl ⟨by rfl, ?_⟩) ?_ ?_
            rotate_left
            · (intro w'; go_simp; with_reducible rfl)
            rotate_left
            · (simp only [Act.put, List.setIfInBounds_toArray, List.set_cons_zero, List.set_cons_succ]; rfl)
            refine pure_ (i := 11) (N := (some 14)) (v := ?_) (a' := ?_) #[true, true, true, true, true, true, true, true, true, true, true, true] rfl rfl (by kernel_rfl) (fun _ _ _ h => h) (Or.inl ⟨by rfl, ?_⟩) ?_ ?_
            rotate_left
            · (intro w'; go_simp; with_reducible rfl)
            rotate_left
            · (simp only [Act.put, List.setIfInBounds_toArray, List.set_cons_zero, List.set_cons_succ]; rfl)
            refine done_ (by kernel_rfl) ?_
            go_wp2
            refine start_ (n := 27) (S := fun w' => IS w.heap.size g A1 A2 (some a3) c1 c2 c3 x cr k ad bd (x.right[k]'hk1) (right[k]'hk2).kind (right[k]'hk2).text w') (ds := []) #[false, false, false, false, false, false, false, false, false, false, false, false, false, false, false, false, false, false, false, false, false, false, false, false, false, false, false] (by kernel_rfl) rfl rfl (HK5.out.drew_.held k hk1 hk2) (fun hHeld => ?_)
            refine pure_ (i := 0) (N := (some 64)) (v := ?_) (a' := ?_) #[true, false, false, false, false, false, false, false, false, false, false, false, false, false, false, false, false, false, false, false, false, false, false, false, false, false, false] rfl rfl (by kernel_rfl) (fun _ _ _ h => h) (Or.inl ⟨by rfl, ?_⟩) ?_ ?_
            rotate_left
            · (intro w'; go_simp; with_reducible rfl)
            rotate_left
            · (simp only [Act.put, List.setIfInBounds_toArray, List.set_cons_zero, List.set_cons_succ]; rfl)
            refine pure_ (i := 1) (N := (some 65)) (v := ?_) (a' := ?_) #[true, true, false, false, false, false, false, false, false, false, false, false, false, false, false, false, false, false, false, false, false, false, false, false, false, false, false] rfl rfl (by kernel_rfl) (fun _ _ _ h => h) (Or.inl ⟨by rfl, ?_⟩) ?_ ?_
            rotate_left
            · (intro w'; go_simp; with_reducible rfl)
            rotate_left
            · (simp only [Act.put, List.setIfInBounds_toArray, List.set_cons_zero, List.set_cons_succ]; rfl)
            refine pure_ (i := 2) (N := (some 66)) (v := ?_) (a' := ?_) #[true, true, true, false, false, false, false, false, false, false, false, false, false, false, false, false, false, false, false, false, false, false, false, false, false, false, false] rfl rfl (by kernel_rfl) (fun _ _ _ h => h) (Or.inl ⟨by rfl, ?_⟩) ?_ ?_
            rotate_left
            · (intro w'; go_simp; with_reducible rfl)
            rotate_left
            · (simp only [Act.put, List.setIfInBounds_toArray, List.set_cons_zero, List.set_cons_succ]; rfl)
            refine pure_ (i := 3) (N := (some 67)) (v := ?_) (a' := ?_) #[true, true, true, true, false, false, false, false, false, false, false, false, false, false, false, false, false, false, false, false, false, false, false, false, false, false, false] rfl rfl (by kernel_rfl) (fun _ _ _ h => h) (Or.inl ⟨by rfl, ?_⟩) ?_ ?_
            rotate_left
            · (intro w'; go_simp; with_reducible rfl)
            rotate_left
            · (simp only [Act.put, List.setIfInBounds_toArray, List.set_cons_zero, List.set_cons_succ]; rfl)
            refine pure_ (i := 4) (N := (some 68)) (v := ?_) (a' := ?_) #[true, true, true, true, true, false, false, false, false, false, false, false, false, false, false, false, false, false, false, false, false, false, false, false, false, false, false] rfl rfl (by kernel_rfl) (fun _ _ _ h => h) (Or.inl ⟨by rfl, ?_⟩) ?_ ?_
            rotate_left
            · (intro w'; go_simp; with_reducible rfl)
            rotate_left
            · (simp only [Act.put, List.setIfInBounds_toArray, List.set_cons_zero, List.set_cons_succ]; rfl)
            refine pure_ (i := 5) (N := (some 69)) (v := ?_) (a' := ?_) #[true, true, true, true, true, true, false, false, false, false, false, false, false, false, false, false, false, false, false, false, false, false, false, false, false, false, false] rfl rfl (by kernel_rfl) (fun _ _ _ h => h) (Or.inl ⟨by rfl, ?_⟩) ?_ ?_
            rotate_left
            · (intro w'; go_simp; with_reducible rfl)
            rotate_left
            · (simp only [Act.put, List.setIfInBounds_toArray, List.set_cons_zero, List.set_cons_succ]; rfl)
            refine pure_ (i := 6) (N := (some 70)) (v := ?_) (a' := ?_) #[true, true, true, true, true, true, true, false, false, false, false, false, false, false, false, false, false, false, false, false, false, false, false, false, false, false, false] rfl rfl (by kernel_rfl) (fun _ _ _ h => h) (Or.inl ⟨by rfl, ?_⟩) ?_ ?_
            rotate_left
            · (intro w'; go_simp; with_reducible rfl)
            rotate_left
            · (simp only [Act.put, List.setIfInBounds_toArray, List.set_cons_zero, List.set_cons_succ]; rfl)
            refine pure_ (i := 7) (N := (some 71)) (v := ?_) (a' := ?_) #[true, true, true, true, true, true, true, true, false, false, false, false, false, false, false, false, false, false, false, false, false, false, false, false, false, false, false] rfl rfl (by kernel_rfl) (fun _ _ _ h => h) (Or.inl ⟨by rfl, ?_⟩) ?_ ?_
            rotate_left
            · (intro w'; go_simp; with_reducible rfl)
            rotate_left
            · (simp only [Act.put, List.setIfInBounds_toArray, List.set_cons_zero, List.set_cons_succ]; rfl)
            refine take_ (i := 8) (N := (some 72)) (v := ?_) (a' := ?_) #[true, true, true, true, true, true, true, true, true, false, false, false, false, false, false, false, false, false, false, false, false, false, false, false, false, false, false] rfl rfl (by kernel_rfl) (fun _ _ _ h => h) (Or.inl ⟨by rfl, ?_⟩) hHeld ?_ ?_
            rotate_left
            · (rintro w' ⟨s0, s1, s2, s3, s4⟩; have d0 : w'.cell? ⟨w.heap.size, 0, none⟩ = some (.slice A1 g.terms.length c1) := (blk_cell s0 0).trans rfl; have d1 : w'.cell? ⟨w.heap.size, 1, none⟩ = some (.slice A2 g.names.length c2) := (blk_cell s0 1).trans rfl; have d2 : w'.cell? ⟨w.heap.size, 2, none⟩ = some (.slice (some a3) g.rules.length c3) := (blk_cell s0 2).trans rfl; have d3 : w'.cell? ⟨w.heap.size + 1, 1, none⟩ = some (.slice (some ad) x.right.length cr) := (blk_cell s1 1).trans rfl; go_simp; with_reducible rfl)
            rotate_left
            · (simp only [Act.put, List.setIfInBounds_toArray, List.set_cons_zero, List.set_cons_succ]; rfl)
            refine pure_ (i := 9) (N := (some 73)) (v := ?_) (a' := ?_) #[true, true, true, true, true, true, true, true, true, true, false, false, false, false, false, false, false, false, false, false, false, false, false, false, false, false, false] rfl rfl (by kernel_rfl) (fun _ _ _ h => h) (Or.inl ⟨by rfl, ?_⟩) ?_ ?_
            rotate_left
            · (intro w'; go_simp; with_reducible rfl)
            rotate_left
            · (simp only [Act.put, List.setIfInBounds_toArray, List.set_cons_zero, List.set_cons_succ]; rfl)
            refine pure_ (i := 10) (N := (some 74)) (v := ?_) (a' := ?_) #[true, true, true, true, true, true, true, true, true, true, true, false, false, false, false, false, false, false, false, false, false, false, false, false, false, false, false] rfl rfl (by kernel_rfl) (fun _ _ _ h => h) (Or.inl ⟨by rfl, ?_⟩) ?_ ?_
            rotate_left
            · (intro w'; go_simp; with_reducible rfl)
            rotate_left
            · (simp only [Act.put, List.setIfInBounds_toArray, List.set_cons_zero, List.set_cons_succ]; rfl)
            refine pure_ (i := 11) (N := (some 75)) (v := ?_) (a' := ?_) #[true, true, true, true, true, true, true, true, true, true, true, true, false, false, false, false, false, false, false, false, false, false, false, false, false, false, false] rfl rfl (by kernel_rfl) (fun _ _ _ h => h) (Or.inl ⟨by rfl, ?_⟩) ?_ ?_
            rotate_left
            · (intro w'; go_simp; with_reducible rfl)
            rotate_left
            · (simp only [Act.put, List.setIfInBounds_toArray, List.set_cons_zero, List.set_cons_succ]; rfl)
            refine pure_ (i := 13) (N := (some 77)) (v := undef) (a' := ?_) #[true, true, true, true, true, true, true, true, true, true, true, true, false, true, false, false, false, false, false, false, false, false, false, false, false, false, false] rfl rfl (by kernel_rfl) (fun _ _ _ h => h) (Or.inr ⟨by rfl, rfl⟩) ?_ ?_
            rotate_left
            · (simp only [Act.put, List.setIfInBounds_toArray, List.set_cons_zero, List.set_cons_succ]; rfl)
            refine pure_ (i := 15) (N := (some 79)) (v := undef) (a' := ?_) #[true, true, true, true, true, true, true, true, true, true, true, true, false, true, false, true, false, false, false, false, false, false, false, false, false, false, false] rfl rfl (by kernel_rfl) (fun _ _ _ h => h) (Or.inr ⟨by rfl, rfl⟩) ?_ ?_
            rotate_left
            · (simp only [Act.put, List.setIfInBounds_toArray, List.set_cons_zero, List.set_cons_succ]; rfl)
            refine pure_ (i := 19) (N := (some 83)) (v := undef) (a' := ?_) #[true, true, true, true, true, true, true, true, true, true, true, true, false, true, false, true, false, false, false, true, false, false, false, false, false, false, false] rfl rfl (by kernel_rfl) (fun _ _ _ h => h) (Or.inr ⟨by rfl, rfl⟩) ?_ ?_
            rotate_left
            · (simp only [Act.put, List.setIfInBounds_toArray, List.set_cons_zero, List.set_cons_succ]; rfl)
            refine pure_ (i := 20) (N := (some 84)) (v := undef) (a' := ?_) #[true, true, true, true, true, true, true, true, true, true, true, true, false, true, false, true, false, false, false, true, true, false, false, false, false, false, false] rfl rfl (by kernel_rfl) (fun _ _ _ h => h) (Or.inr ⟨by rfl, rfl⟩) ?_ ?_
            rotate_left
            · (simp only [Act.put, List.setIfInBounds_toArray, List.set_cons_zero, List.set_cons_succ]; rfl)
            refine pure_ (i := 21) (N := (some 85)) (v := undef) (a' := ?_) #[true, true, true, true, true, true, true, true, true, true, true, true, false, true, false, true, false, false, false, true, true, true, false, false, false, false, false] rfl rfl (by kernel_rfl) (fun _ _ _ h => h) (Or.inr ⟨by rfl, rfl⟩) ?_ ?_
            rotate_left
            · (simp only [Act.put, List.setIfInBounds_toArray, List.set_cons_zero, List.set_cons_succ]; rfl)
            refine pure_ (i := 22) (N := (some 86)) (v := undef) (a' := ?_) #[true, true, true, true, true, true, true, true, true, true, true, true, false, true, false, true, false, false, false, true, true, true, true, false, false, false, false] rfl rfl (by kernel_rfl) (fun _ _ _ h => h) (Or.inr ⟨by rfl, rfl⟩) ?_ ?_
            rotate_left
            · (simp only [Act.put, List.setIfInBounds_toArray, List.set_cons_zero, List.set_cons_succ]; rfl)
            refine pure_ (i := 12) (N := (some 76)) (v := undef) (a' := ?_) #[true, true, true, true, true, true, true, true, true, true, true, true, true, true, false, true, false, false, false, true, true, true, true, false, false, false, false] rfl rfl (by kernel_rfl) (fun _ _ _ h => h) (Or.inr ⟨by rfl, rfl⟩) ?_ ?_
            rotate_left
            · (simp only [Act.put, List.setIfInBounds_toArray, List.set_cons_zero, List.set_cons_succ]; rfl)
            refine pure_ (i := 14) (N := (some 78)) (v := undef) (a' := ?_) #[true, true, true, true, true, true, true, true, true, true, true, true, true, true, true, true, false, false, false, true, true, true, true, false, false, false, false] rfl rfl (by kernel_rfl) (fun _ _ _ h => h) (Or.inr ⟨by rfl, rfl⟩) ?_ ?_
            rotate_left
            · (simp only [Act.put, List.setIfInBounds_toArray, List.set_cons_zero, List.set_cons_succ]; rfl)
            refine pure_ (i := 16) (N := (some 80)) (v := undef) (a' := ?_) #[true, true, true, true, true, true, true, true, true, true, true, true, true, true, true, true, true, false, false, true, true, true, true, false, false, false, false] rfl rfl (by kernel_rfl) (fun _ _ _ h => h) (Or.inr ⟨by rfl, rfl⟩) ?_ ?_
            rotate_left
            · (simp only [Act.put, List.setIfInBounds_toArray, List.set_cons_zero, List.set_cons_succ]; rfl)
            refine pure_ (i := 17) (N := (some 81)) (v := undef) (a' := ?_) #[true, true, true, true, true, true, true, true, true, true, true, true, true, true, true, true, true, true, false, true, true, true, true, false, false, false, false] rfl rfl (by kernel_rfl) (fun _ _ _ h => h) (Or.inr ⟨by rfl, rfl⟩) ?_ ?_
            rotate_left
            · (simp only [Act.put, List.setIfInBounds_toArray, List.set_cons_zero, List.set_cons_succ]; rfl)
            refine pure_ (i := 23) (N := (some 87)) (v := undef) (a' := ?_) #[true, true, true, true, true, true, true, true, true, true, true, true, true, true, true, true, true, true, false, true, true, true, true, true, false, false, false] rfl rfl (by kernel_rfl) (fun _ _ _ h => h) (Or.inr ⟨by rfl, rfl⟩) ?_ ?_
            rotate_left
            · (simp only [Act.put, List.setIfInBounds_toArray, List.set_cons_zero, List.set_cons_succ]; rfl)
            refine pure_ (i := 24) (N := (some 88)) (v := undef) (a' := ?_) #[true, true, true, true, true, true, true, true, true, true, true, true, true, true, true, true, true, true, false, true, true, true, true, true, true, false, false] rfl rfl (by kernel_rfl) (fun _ _ _ h => h) (Or.inr ⟨by rfl, rfl⟩) ?_ ?_
            rotate_left
            · (simp only [Act.put, List.setIfInBounds_toArray, List.set_cons_zero, List.set_cons_succ]; rfl)
            refine one_ (i := 18) (N := (some 82)) #[true, true, true, true, true, true, true, true, true, true, true, true, true, true, true, true, true, true, true, true, true, true, true, true, true, false, false] rfl rfl (by kernel_rfl) (by decide) (fun K hK => ?_)
            refine off_ (by rfl) ?_
            refine hK.out _ _ hHeld (fun hHeld => ?_)
            clear hK K
            refine norm_ (a' := ?_) ?_ ?_
            rotate_left
            · (show Act.put _ (some 82) _ = _; simp only [Act.put, List.setIfInBounds_toArray, List.set_cons_zero, List.set_cons_succ]; rfl)
            refine pure_ (i := 25) (N := (some 89)) (v := undef) (a' := ?_) #[true, true, true, true, true, true, true, true, true, true, true, true, true, true, true, true, true, true, true, true, true, true, true, true, true, true, false] rfl rfl (by kernel_rfl) (fun _ _ _ h => h) (Or.inr ⟨by rfl, rfl⟩) ?_ ?_
            rotate_left
            · (simp only [Act.put, List.setIfInBounds_toArray, List.set_cons_zero, List.set_cons_succ]; rfl)
            refine pure_ (i := 26) (N := (some 90)) (v := ?_) (a' := ?_) #[true, true, true, true, true, true, true, true, true, true, true, true, true, true, true, true, true, true, true, true, true, true, true, true, true, true, true] rfl rfl (by kernel_rfl) (fun _ _ _ h => h) (Or.inl ⟨by rfl, ?_⟩) ?_ ?_
            rotate_left
            · (intro w'; go_simp; with_reducible rfl)
            rotate_left
            · (simp only [Act.put, List.setIfInBounds_toArray, List.set_cons_zero, List.set_cons_succ]; rfl)
            refine done_ (by kernel_rfl) ?_
            go_wp2
            go_ret
            exact ⟨ret_bool (by rw [HE.out, ← HD.out, HNM.out, decide_eq_false (by intro h; injection h with h; exact HST.out h)]; simp), HK5.out.drew_.b⟩
        · go_wp2
          go_ret
          obtain rfl : k = right.length := by omega
          exact ⟨ret_bool (by rw [HE.out, ← HS.out, List.drop_length, List.drop_eq_nil_of_le (by have := HLEN.out; omega)]; rfl), HK.out.b⟩
    · have hlb2 : ((x.right.length : Int) != (right.length : Int)) = true := by rw [bne_iff_ne]; omega
      go_enter Try.func27, Try.ntmps27
      go_wp2_with (first | (have hx := HK1.out; go_at_call 25; go_loud (refine (term_c g A1 A2 (some a3) c1 c2 c3 _ _).mono ?_; rw [HT0.out]; rintro e w2 ⟨rfl, hb2⟩; have HK2 := Aside0.mk (HK1.out.below_ hb2); obtain ⟨t1, t2, t3, t4, t5⟩ := HK2.out.cells; clear hb2)) | (go_at_call 20; go_loud (refine (name_c g A1 A2 (some a3) c1 c2 c3 _ _ HK0.out.rep hsz hlb).mono ?_; rw [HN0.out]; rintro e w1 ⟨he, hb1⟩; obtain rfl : e = .returned (.tuple #[.string s0, .bool true]) := he; have HK1 := Aside0.mk (HK0.out.below_ hb1); obtain ⟨q1, q2, q3, q4, q5⟩ := HK1.out.cells; clear hb1)))
      go_ret
      exact ⟨ret_bool (by unfold isF; rw [decide_eq_false hlen]; simp), HK2.out.b⟩
  · have hnb : (s0.toList == left.toList) = false := by rw [str_beq]; exact decide_eq_false hnl
    go_enter Try.func27, Try.ntmps27
    go_wp2_with (go_at_call 20; go_loud (refine (name_c g A1 A2 (some a3) c1 c2 c3 _ _ HK0.out.rep hsz hlb).mono ?_; rw [HN0.out]; rintro e w1 ⟨he, hb1⟩; obtain rfl : e = .returned (.tuple #[.string s0, .bool true]) := he; have HK1 := Aside0.mk (HK0.out.below_ hb1); obtain ⟨q1, q2, q3, q4, q5⟩ := HK1.out.cells; clear hb1))
    go_ret
    exact ⟨ret_bool (by unfold isF; rw [HN0.out, decide_eq_false (by intro h; injection h with h; exact hnl h)]; simp), HK1.out.b⟩
end Go.Proofs.Ytphmmppmhphgeaa
