/- The contracts of the document's answers: the place of a text, whether a rule is among some, a symbol's name. -/
import Derived.Test.YtphmmppmhphgeaaT1
import Derived.Test.YtphmmppmhphgeaaB3
import Derived.Test.YtphmmppmhphgeaaC6
import Derived.Test.YtphmmppmhphgeaaWLast
set_option linter.unusedVariables false
set_option linter.unusedSimpArgs false
namespace Go.Proofs.Ytphmmppmhphgeaa
open Go.RowKit Go.Proofs.YtphmmppmhphgeaaW.PrintWords Go.Proofs.YtphmmppmhphgeaaW.PrintLast

theorem cell_at {w W : World} {p : Addr} {v : Value} (hb : Below w.heap.size w W) (h : w.cell? p = some v) : W.cell? p = some v := by
  have hlt : p.block < w.heap.size := by
    unfold World.cell? at h
    split at h
    · rename_i hb; exact blk_lt hb
    · cases h
  exact (Below.cell hb hlt).trans h
set_option maxRecDepth 100000 in
set_option maxHeartbeats 2000000 in
theorem at1_c (A : Option Addr) (c n : Nat) (l : List ByteArray) (x : ByteArray) (w : World) (hr : kStr.C w A n l) :
    Calls Try.prog 52 #[.slice A n c, .string x] w fun e w' => e = .returned (.int .i64 (idxF l x)) ∧ w = w' := by
  obtain rfl := C_len hr
  have hm := C_max hr
  have HR := Aside0.mk hr
  clear hr
  obtain ⟨R, hR⟩ : ∃ R, idxF l x = R := ⟨_, rfl⟩
  rw [hR]
  have HE := Aside0.mk hR
  clear hR
  go_enter Try.func52, Try.ntmps52
  go_wp2
  go_loop [5] (fun i => ∃ k : Nat, k ≤ l.length ∧ i = .int .i64 k ∧ Aside0 (posF (fun y => decide (x = y)) (l.drop k) k = R)) (fun i => l.length - (intOf i).toNat)
  case atStart => exact ⟨0, Nat.zero_le _, rfl, ⟨HE.out⟩⟩
  case round =>
    clear HE
    obtain ⟨k, hk, rfl, HI⟩ := hrel
    by_cases hlt : k < l.length
    · obtain ⟨ad, ead, hx⟩ := at_str HR.out k hlt
      cases ead
      have i1 : (0 : Int) ≤ (k : Int) := by omega
      have i2 : (k : Int) < (l.length : Int) := by omega
      by_cases he : (l[k]'hlt) = x
      · have hb : ((l[k]'hlt).toList == x.toList) = true := by rw [str_beq]; exact decide_eq_true he
        have HH := Aside0.mk (posF_hit hlt HI.out (decide_eq_true he.symm))
        clear he
        go_wp2
        go_ret
        exact ⟨ret_int HH.out.symm, rfl⟩
      · have hb : ((l[k]'hlt).toList == x.toList) = false := by rw [str_beq]; exact decide_eq_false he
        have HH := Aside0.mk (posF_step hlt HI.out (decide_eq_false (fun h => he h.symm)))
        clear he
        go_wp2
        go_round
        case rel => exact ⟨k + 1, by omega, by go_num, HH⟩
        case measure => simp [intOf]; omega
    · have HH := Aside0.mk (posF_end (by omega) HI.out)
      go_wp2
      go_ret
      exact ⟨ret_int HH.out.symm, rfl⟩
def has1_rel (x y : Rule) (k : Nat) : Prop := x.left = y.left ∧ x.right.length = y.right.length ∧ x.right.take k = y.right.take k
set_option maxRecDepth 100000 in
set_option maxHeartbeats 4000000 in
theorem has1_c (A B : Option Addr) (c d n : Nat) (l : List Rule) (y : Rule) (w : World) (hr : kRule.C w A n l) (hs : kInt.C w B y.right.length y.right) :
    Calls Try.prog 53 #[.slice A n c, .agg #[.int .i64 y.left, .slice B y.right.length d]] w fun e w' => e = .returned (.bool (l.any fun x => decide (x = y))) ∧ Below w.heap.size w w' := by
  obtain rfl := C_len hr
  have hm := C_max hr
  have hmy := C_max hs
  obtain ⟨w1, hw1⟩ : ∃ w1 : World, w1 = w.alloc (.cells #[.int .i64 y.left, .slice B y.right.length d] 56 (0, 0)) := ⟨_, rfl⟩
  have HB1 : Aside0 (Below w.heap.size w w1) := ⟨by rw [hw1]; exact (Below.refl w.heap.size w).alloc (Nat.le_refl _) _⟩
  have hp : w1.heap[w.heap.size]? = some (.cells #[.int .i64 y.left, .slice B y.right.length d] 56 (0, 0)) := by rw [hw1]; exact blk_new w _
  have HR := Aside0.mk (Kd.C_below hr HB1.out)
  have HS := Aside0.mk (Kd.C_below hs HB1.out)
  have p0 := Aside0.mk ((blk_cell hp 0).trans rfl : w1.cell? ⟨w.heap.size, 0, none⟩ = some (.int .i64 y.left))
  have p1 := Aside0.mk ((blk_cell hp 1).trans rfl : w1.cell? ⟨w.heap.size, 1, none⟩ = some (.slice B y.right.length d))
  clear hr hs hp
  go_enter Try.func53, Try.ntmps53
  go_wp2
  simp only [← hw1]
  clear hw1
  go_loopw [5] (fun iv wr => ∃ i : Nat, i ≤ l.length ∧ iv = .int .i64 i ∧ Aside0 (Below w1.heap.size w1 wr) ∧ Aside0 (∀ j (hj : j < l.length), j < i → ¬ l[j] = y)) (fun iv _ => l.length - (intOf iv).toNat)
  case atStart => exact ⟨0, Nat.zero_le _, rfl, ⟨Below.refl _ _⟩, ⟨fun j hj h => by omega⟩⟩
  case round =>
    obtain ⟨i, hi, rfl, HB, HN⟩ := hrel
    by_cases hlt : i < l.length
    · obtain ⟨ad, R, cr, eA, hx1, hx2, hcr, hR⟩ := at_rule HR.out i hlt
      subst eA
      obtain ⟨x, hx⟩ : ∃ x, x = l[i]'hlt := ⟨_, rfl⟩
      rw [← hx] at hx1 hx2 hcr hR
      have HX := Aside0.mk hx
      have hmx := C_max hR
      have K1 := Aside0.mk hx1
      have K2 := Aside0.mk hx2
      have KR := Aside0.mk hR
      have j1 : (0 : Int) ≤ (i : Int) := by omega
      have j2 : (i : Int) < (l.length : Int) := by omega
      clear hx hx1 hx2 hR
      by_cases hl : x.left = y.left
      · have hlb : (x.left == y.left) = true := by rw [hl]; simp
        by_cases hn : x.right.length = y.right.length
        · have hnb : ((x.right.length : Int) == (y.right.length : Int)) = true := by rw [hn]; simp
          have HL := Aside0.mk hl
          have HLN := Aside0.mk hn
          clear hl hn
          go_wp2
          refine start_ (n := 21) (S := fun w' => Below w1.heap.size w1 w') (ds := []) (lb 21 0x0) (by kernel_rfl) rfl (by kernel_rfl) (below_drew1 HB.out) (fun hHeld => ?_)
          refine pure_ (i := 0) (N := (some 14)) (v := ?_) (a' := ?_) (lb 21 0x1) rfl rfl (by kernel_rfl) (fun _ _ _ h => h) (Or.inl ⟨by rfl, ?_⟩) ?_ ?_
          rotate_left
          · (intro w'; go_simp; with_reducible rfl)
          rotate_left
          · (simp only [Act.put, List.setIfInBounds_toArray, List.set_cons_zero, List.set_cons_succ]; rfl)
          refine pure_ (i := 1) (N := (some 15)) (v := ?_) (a' := ?_) (lb 21 0x3) rfl rfl (by kernel_rfl) (fun _ _ _ h => h) (Or.inl ⟨by rfl, ?_⟩) ?_ ?_
          rotate_left
          · (intro w'; go_simp; with_reducible rfl)
          rotate_left
          · (simp only [Act.put, List.setIfInBounds_toArray, List.set_cons_zero, List.set_cons_succ]; rfl)
          refine pure_ (i := 2) (N := (some 16)) (v := ?_) (a' := ?_) (lb 21 0x7) rfl rfl (by kernel_rfl) (fun _ _ _ h => h) (Or.inl ⟨by rfl, ?_⟩) ?_ ?_
          rotate_left
          · (intro w'; go_simp; with_reducible rfl)
          rotate_left
          · (simp only [Act.put, List.setIfInBounds_toArray, List.set_cons_zero, List.set_cons_succ]; rfl)
          refine pure_ (i := 3) (N := (some 17)) (v := ?_) (a' := ?_) (lb 21 0xf) rfl rfl (by kernel_rfl) (fun _ _ _ h => h) (Or.inl ⟨by rfl, ?_⟩) ?_ ?_
          rotate_left
          · (intro w'; go_simp; with_reducible rfl)
          rotate_left
          · (simp only [Act.put, List.setIfInBounds_toArray, List.set_cons_zero, List.set_cons_succ]; rfl)
          refine pure_ (i := 5) (N := (some 19)) (v := ?_) (a' := ?_) (lb 21 0x2f) rfl rfl (by kernel_rfl) (fun _ _ _ h => h) (Or.inl ⟨by rfl, ?_⟩) ?_ ?_
          rotate_left
          · (intro w'; go_simp; with_reducible rfl)
          rotate_left
          · (simp only [Act.put, List.setIfInBounds_toArray, List.set_cons_zero, List.set_cons_succ]; rfl)
          refine take_ (i := 4) (N := (some 18)) (v := ?_) (a' := ?_) (lb 21 0x3f) rfl rfl (by kernel_rfl) (fun _ _ _ h => h) (Or.inl ⟨by rfl, ?_⟩) hHeld ?_ ?_
          rotate_left
          · (rintro w' hS; have d0 := cell_at hS p0.out; have d1 := cell_at hS p1.out; have d2 := cell_at hS K1.out; have d3 := cell_at hS K2.out; go_simp; with_reducible rfl)
          rotate_left
          · (simp only [Act.put, List.setIfInBounds_toArray, List.set_cons_zero, List.set_cons_succ]; rfl)
          refine take_ (i := 6) (N := (some 20)) (v := ?_) (a' := ?_) (lb 21 0x7f) rfl rfl (by kernel_rfl) (fun _ _ _ h => h) (Or.inl ⟨by rfl, ?_⟩) hHeld ?_ ?_
          rotate_left
          · (rintro w' hS; have d0 := cell_at hS p0.out; have d1 := cell_at hS p1.out; have d2 := cell_at hS K1.out; have d3 := cell_at hS K2.out; go_simp; with_reducible rfl)
          rotate_left
          · (simp only [Act.put, List.setIfInBounds_toArray, List.set_cons_zero, List.set_cons_succ]; rfl)
          refine pure_ (i := 7) (N := (some 21)) (v := ?_) (a' := ?_) (lb 21 0xff) rfl rfl (by kernel_rfl) (fun _ _ _ h => h) (Or.inl ⟨by rfl, ?_⟩) ?_ ?_
          rotate_left
          · (intro w'; go_simp; with_reducible rfl)
          rotate_left
          · (simp only [Act.put, List.setIfInBounds_toArray, List.set_cons_zero, List.set_cons_succ]; rfl)
          refine pure_ (i := 8) (N := (some 22)) (v := ?_) (a' := ?_) (lb 21 0x1ff) rfl rfl (by kernel_rfl) (fun _ _ _ h => h) (Or.inl ⟨by rfl, ?_⟩) ?_ ?_
          rotate_left
          · (intro w'; go_simp; with_reducible rfl)
          rotate_left
          · (simp only [Act.put, List.setIfInBounds_toArray, List.set_cons_zero, List.set_cons_succ]; rfl)
          refine pure_ (i := 9) (N := (some 23)) (v := ?_) (a' := ?_) (lb 21 0x3ff) rfl rfl (by kernel_rfl) (fun _ _ _ h => h) (Or.inl ⟨by rfl, ?_⟩) ?_ ?_
          rotate_left
          · (intro w'; go_simp; with_reducible rfl)
          rotate_left
          · (simp only [Act.put, List.setIfInBounds_toArray, List.set_cons_zero, List.set_cons_succ]; rfl)
          refine pure_ (i := 10) (N := (some 24)) (v := ?_) (a' := ?_) (lb 21 0x7ff) rfl rfl (by kernel_rfl) (fun _ _ _ h => h) (Or.inl ⟨by rfl, ?_⟩) ?_ ?_
          rotate_left
          · (intro w'; go_simp; with_reducible rfl)
          rotate_left
          · (simp only [Act.put, List.setIfInBounds_toArray, List.set_cons_zero, List.set_cons_succ]; rfl)
          refine pure_ (i := 11) (N := (some 25)) (v := ?_) (a' := ?_) (lb 21 0xfff) rfl rfl (by kernel_rfl) (fun _ _ _ h => h) (Or.inl ⟨by rfl, ?_⟩) ?_ ?_
          rotate_left
          · (intro w'; go_simp; with_reducible rfl)
          rotate_left
          · (simp only [Act.put, List.setIfInBounds_toArray, List.set_cons_zero, List.set_cons_succ]; rfl)
          refine pure_ (i := 12) (N := (some 26)) (v := ?_) (a' := ?_) (lb 21 0x1fff) rfl rfl (by kernel_rfl) (fun _ _ _ h => h) (Or.inl ⟨by rfl, ?_⟩) ?_ ?_
          rotate_left
          · (intro w'; go_simp; with_reducible rfl)
          rotate_left
          · (simp only [Act.put, List.setIfInBounds_toArray, List.set_cons_zero, List.set_cons_succ]; rfl)
          refine pure_ (i := 15) (N := (some 29)) (v := ?_) (a' := ?_) (lb 21 0x9fff) rfl rfl (by kernel_rfl) (fun _ _ _ h => h) (Or.inl ⟨by rfl, ?_⟩) ?_ ?_
          rotate_left
          · (intro w'; go_simp; with_reducible rfl)
          rotate_left
          · (simp only [Act.put, List.setIfInBounds_toArray, List.set_cons_zero, List.set_cons_succ]; rfl)
          refine take_ (i := 13) (N := (some 27)) (v := ?_) (a' := ?_) (lb 21 0xbfff) rfl rfl (by kernel_rfl) (fun _ _ _ h => h) (Or.inl ⟨by rfl, ?_⟩) hHeld ?_ ?_
          rotate_left
          · (rintro w' hS; have d0 := cell_at hS p0.out; have d1 := cell_at hS p1.out; have d2 := cell_at hS K1.out; have d3 := cell_at hS K2.out; go_simp; with_reducible rfl)
          rotate_left
          · (simp only [Act.put, List.setIfInBounds_toArray, List.set_cons_zero, List.set_cons_succ]; rfl)
          refine pure_ (i := 14) (N := (some 28)) (v := ?_) (a' := ?_) (lb 21 0xffff) rfl rfl (by kernel_rfl) (fun _ _ _ h => h) (Or.inl ⟨by rfl, ?_⟩) ?_ ?_
          rotate_left
          · (intro w'; go_simp; with_reducible rfl)
          rotate_left
          · (simp only [Act.put, List.setIfInBounds_toArray, List.set_cons_zero, List.set_cons_succ]; rfl)
          refine take_ (i := 16) (N := (some 30)) (v := ?_) (a' := ?_) (lb 21 0x1ffff) rfl rfl (by kernel_rfl) (fun _ _ _ h => h) (Or.inl ⟨by rfl, ?_⟩) hHeld ?_ ?_
          rotate_left
          · (rintro w' hS; have d0 := cell_at hS p0.out; have d1 := cell_at hS p1.out; have d2 := cell_at hS K1.out; have d3 := cell_at hS K2.out; go_simp; with_reducible rfl)
          rotate_left
          · (simp only [Act.put, List.setIfInBounds_toArray, List.set_cons_zero, List.set_cons_succ]; rfl)
          refine pure_ (i := 17) (N := (some 31)) (v := ?_) (a' := ?_) (lb 21 0x3ffff) rfl rfl (by kernel_rfl) (fun _ _ _ h => h) (Or.inl ⟨by rfl, ?_⟩) ?_ ?_
          rotate_left
          · (intro w'; go_simp; with_reducible rfl)
          rotate_left
          · (simp only [Act.put, List.setIfInBounds_toArray, List.set_cons_zero, List.set_cons_succ]; rfl)
          refine pure_ (i := 18) (N := (some 32)) (v := ?_) (a' := ?_) (lb 21 0x7ffff) rfl rfl (by kernel_rfl) (fun _ _ _ h => h) (Or.inl ⟨by rfl, ?_⟩) ?_ ?_
          rotate_left
          · (intro w'; go_simp; with_reducible rfl)
          rotate_left
          · (simp only [Act.put, List.setIfInBounds_toArray, List.set_cons_zero, List.set_cons_succ]; rfl)
          refine pure_ (i := 19) (N := (some 33)) (v := ?_) (a' := ?_) (lb 21 0xfffff) rfl rfl (by kernel_rfl) (fun _ _ _ h => h) (Or.inl ⟨by rfl, ?_⟩) ?_ ?_
          rotate_left
          · (intro w'; go_simp; with_reducible rfl)
          rotate_left
          · (simp only [Act.put, List.setIfInBounds_toArray, List.set_cons_zero, List.set_cons_succ]; rfl)
          refine pure_ (i := 20) (N := (some 6)) (v := ?_) (a' := ?_) (lb 21 0x1fffff) rfl rfl (by kernel_rfl) (fun _ _ _ h => h) (Or.inl ⟨by rfl, ?_⟩) ?_ ?_
          rotate_left
          · (intro w'; go_simp; with_reducible rfl)
          rotate_left
          · (simp only [Act.put, List.setIfInBounds_toArray, List.set_cons_zero, List.set_cons_succ]; rfl)
          refine done_ (by kernel_rfl) ?_
          go_wp2
          go_loopw [7, 6] (fun kv sv wi => ∃ (k : Nat) (sb : Bool), k ≤ y.right.length ∧ kv = .int .i64 k ∧ sv = .bool sb ∧ Aside0 (Below w1.heap.size w1 wi) ∧ Aside0 ((sb = true → x.right.take k = y.right.take k) ∧ (sb = false → ¬ x = y))) (fun kv _ _ => y.right.length - (intOf kv).toNat)
          case atStart => exact ⟨0, true, Nat.zero_le _, rfl, rfl, ⟨below_drew1 HB.out⟩, ⟨⟨fun _ => rfl, fun h => (by cases h)⟩⟩⟩
          case round =>
            clear HB
            obtain ⟨k, sb, hk, rfl, rfl, HB, HC⟩ := hrel
            have z1 := cell_at HB.out p1.out
            cases sb with
            | true =>
              by_cases hkl : k < y.right.length
              · have hkx : k < x.right.length := by have := HLN.out; omega
                obtain ⟨xd, eX, hxv⟩ := at_int KR.out k hkx
                subst eX
                obtain ⟨yd, eY, hyv⟩ := at_int HS.out k hkl
                subst eY
                have KX := Aside0.mk hxv
                have KY := Aside0.mk hyv
                have j3 : (0 : Int) ≤ (k : Int) := by omega
                have j4 : (k : Int) < (y.right.length : Int) := by omega
                have j5 : (k : Int) < (x.right.length : Int) := by omega
                clear hxv hyv
                by_cases he : (x.right[k]'hkx) = (y.right[k]'hkl)
                · have hb : ((x.right[k]'hkx) == (y.right[k]'hkl)) = true := by rw [he]; simp
                  have HE := Aside0.mk he
                  clear he
                  go_wp2
                  refine start_ (n := 15) (S := fun w' => Below w1.heap.size w1 w') (ds := []) (lb 15 0x0) (by kernel_rfl) rfl (by kernel_rfl) (below_drew1 HB.out) (fun hHeld => ?_)
                  refine pure_ (i := 0) (N := (some 44)) (v := ?_) (a' := ?_) (lb 15 0x1) rfl rfl (by kernel_rfl) (fun _ _ _ h => h) (Or.inl ⟨by rfl, ?_⟩) ?_ ?_
                  rotate_left
                  · (intro w'; go_simp; with_reducible rfl)
                  rotate_left
                  · (simp only [Act.put, List.setIfInBounds_toArray, List.set_cons_zero, List.set_cons_succ]; rfl)
                  refine pure_ (i := 1) (N := (some 45)) (v := ?_) (a' := ?_) (lb 15 0x3) rfl rfl (by kernel_rfl) (fun _ _ _ h => h) (Or.inl ⟨by rfl, ?_⟩) ?_ ?_
                  rotate_left
                  · (intro w'; go_simp; with_reducible rfl)
                  rotate_left
                  · (simp only [Act.put, List.setIfInBounds_toArray, List.set_cons_zero, List.set_cons_succ]; rfl)
                  refine pure_ (i := 2) (N := (some 46)) (v := ?_) (a' := ?_) (lb 15 0x7) rfl rfl (by kernel_rfl) (fun _ _ _ h => h) (Or.inl ⟨by rfl, ?_⟩) ?_ ?_
                  rotate_left
                  · (intro w'; go_simp; with_reducible rfl)
                  rotate_left
                  · (simp only [Act.put, List.setIfInBounds_toArray, List.set_cons_zero, List.set_cons_succ]; rfl)
                  refine pure_ (i := 3) (N := (some 47)) (v := ?_) (a' := ?_) (lb 15 0xf) rfl rfl (by kernel_rfl) (fun _ _ _ h => h) (Or.inl ⟨by rfl, ?_⟩) ?_ ?_
                  rotate_left
                  · (intro w'; go_simp; with_reducible rfl)
                  rotate_left
                  · (simp only [Act.put, List.setIfInBounds_toArray, List.set_cons_zero, List.set_cons_succ]; rfl)
                  refine pure_ (i := 5) (N := (some 49)) (v := ?_) (a' := ?_) (lb 15 0x2f) rfl rfl (by kernel_rfl) (fun _ _ _ h => h) (Or.inl ⟨by rfl, ?_⟩) ?_ ?_
                  rotate_left
                  · (intro w'; go_simp; with_reducible rfl)
                  rotate_left
                  · (simp only [Act.put, List.setIfInBounds_toArray, List.set_cons_zero, List.set_cons_succ]; rfl)
                  refine pure_ (i := 8) (N := (some 52)) (v := ?_) (a' := ?_) (lb 15 0x12f) rfl rfl (by kernel_rfl) (fun _ _ _ h => h) (Or.inl ⟨by rfl, ?_⟩) ?_ ?_
                  rotate_left
                  · (intro w'; go_simp; with_reducible rfl)
                  rotate_left
                  · (simp only [Act.put, List.setIfInBounds_toArray, List.set_cons_zero, List.set_cons_succ]; rfl)
                  refine pure_ (i := 10) (N := (some 54)) (v := ?_) (a' := ?_) (lb 15 0x52f) rfl rfl (by kernel_rfl) (fun _ _ _ h => h) (Or.inl ⟨by rfl, ?_⟩) ?_ ?_
                  rotate_left
                  · (intro w'; go_simp; with_reducible rfl)
                  rotate_left
                  · (simp only [Act.put, List.setIfInBounds_toArray, List.set_cons_zero, List.set_cons_succ]; rfl)
                  refine take_ (i := 4) (N := (some 48)) (v := ?_) (a' := ?_) (lb 15 0x53f) rfl rfl (by kernel_rfl) (fun _ _ _ h => h) (Or.inl ⟨by rfl, ?_⟩) hHeld ?_ ?_
                  rotate_left
                  · (rintro w' hS; have d0 := cell_at hS p1.out; have d1 := cell_at hS K2.out; have d2 := cell_at hS KX.out; have d3 := cell_at hS KY.out; go_simp; with_reducible rfl)
                  rotate_left
                  · (simp only [Act.put, List.setIfInBounds_toArray, List.set_cons_zero, List.set_cons_succ]; rfl)
                  refine pure_ (i := 6) (N := (some 50)) (v := ?_) (a' := ?_) (lb 15 0x57f) rfl rfl (by kernel_rfl) (fun _ _ _ h => h) (Or.inl ⟨by rfl, ?_⟩) ?_ ?_
                  rotate_left
                  · (intro w'; go_simp; with_reducible rfl)
                  rotate_left
                  · (simp only [Act.put, List.setIfInBounds_toArray, List.set_cons_zero, List.set_cons_succ]; rfl)
                  refine take_ (i := 7) (N := (some 51)) (v := ?_) (a' := ?_) (lb 15 0x5ff) rfl rfl (by kernel_rfl) (fun _ _ _ h => h) (Or.inl ⟨by rfl, ?_⟩) hHeld ?_ ?_
                  rotate_left
                  · (rintro w' hS; have d0 := cell_at hS p1.out; have d1 := cell_at hS K2.out; have d2 := cell_at hS KX.out; have d3 := cell_at hS KY.out; go_simp; with_reducible rfl)
                  rotate_left
                  · (simp only [Act.put, List.setIfInBounds_toArray, List.set_cons_zero, List.set_cons_succ]; rfl)
                  refine take_ (i := 9) (N := (some 53)) (v := ?_) (a' := ?_) (lb 15 0x7ff) rfl rfl (by kernel_rfl) (fun _ _ _ h => h) (Or.inl ⟨by rfl, ?_⟩) hHeld ?_ ?_
                  rotate_left
                  · (rintro w' hS; have d0 := cell_at hS p1.out; have d1 := cell_at hS K2.out; have d2 := cell_at hS KX.out; have d3 := cell_at hS KY.out; go_simp; with_reducible rfl)
                  rotate_left
                  · (simp only [Act.put, List.setIfInBounds_toArray, List.set_cons_zero, List.set_cons_succ]; rfl)
                  refine pure_ (i := 11) (N := (some 55)) (v := ?_) (a' := ?_) (lb 15 0xfff) rfl rfl (by kernel_rfl) (fun _ _ _ h => h) (Or.inl ⟨by rfl, ?_⟩) ?_ ?_
                  rotate_left
                  · (intro w'; go_simp; with_reducible rfl)
                  rotate_left
                  · (simp only [Act.put, List.setIfInBounds_toArray, List.set_cons_zero, List.set_cons_succ]; rfl)
                  refine take_ (i := 12) (N := (some 56)) (v := ?_) (a' := ?_) (lb 15 0x1fff) rfl rfl (by kernel_rfl) (fun _ _ _ h => h) (Or.inl ⟨by rfl, ?_⟩) hHeld ?_ ?_
                  rotate_left
                  · (rintro w' hS; have d0 := cell_at hS p1.out; have d1 := cell_at hS K2.out; have d2 := cell_at hS KX.out; have d3 := cell_at hS KY.out; go_simp; with_reducible rfl)
                  rotate_left
                  · (simp only [Act.put, List.setIfInBounds_toArray, List.set_cons_zero, List.set_cons_succ]; rfl)
                  refine pure_ (i := 13) (N := (some 57)) (v := ?_) (a' := ?_) (lb 15 0x3fff) rfl rfl (by kernel_rfl) (fun _ _ _ h => h) (Or.inl ⟨by rfl, ?_⟩) ?_ ?_
                  rotate_left
                  · (intro w'; go_simp; with_reducible rfl)
                  rotate_left
                  · (simp only [Act.put, List.setIfInBounds_toArray, List.set_cons_zero, List.set_cons_succ]; rfl)
                  refine pure_ (i := 14) (N := (some 6)) (v := ?_) (a' := ?_) (lb 15 0x7fff) rfl rfl (by kernel_rfl) (fun _ _ _ h => h) (Or.inl ⟨by rfl, ?_⟩) ?_ ?_
                  rotate_left
                  · (intro w'; go_simp; with_reducible rfl)
                  rotate_left
                  · (simp only [Act.put, List.setIfInBounds_toArray, List.set_cons_zero, List.set_cons_succ]; rfl)
                  refine done_ (by kernel_rfl) ?_
                  go_wp2
                  go_roundw
                  case rel => exact ⟨k + 1, true, by omega, by go_num, rfl, ⟨below_drew1 HB.out⟩, ⟨⟨fun _ => by rw [List.take_succ_eq_append_getElem hkx, List.take_succ_eq_append_getElem hkl, HC.out.1 (by first | rfl | trivial), HE.out], fun h => (by cases h)⟩⟩⟩
                  case measure => simp [intOf]; omega
                · have hb : ((x.right[k]'hkx) == (y.right[k]'hkl)) = false := by rw [beq_eq_false_iff_ne]; exact he
                  have HE := Aside0.mk he
                  clear he
                  go_wp2
                  refine start_ (n := 15) (S := fun w' => Below w1.heap.size w1 w') (ds := []) (lb 15 0x0) (by kernel_rfl) rfl (by kernel_rfl) (below_drew1 HB.out) (fun hHeld => ?_)
                  refine pure_ (i := 0) (N := (some 44)) (v := ?_) (a' := ?_) (lb 15 0x1) rfl rfl (by kernel_rfl) (fun _ _ _ h => h) (Or.inl ⟨by rfl, ?_⟩) ?_ ?_
                  rotate_left
                  · (intro w'; go_simp; with_reducible rfl)
                  rotate_left
                  · (simp only [Act.put, List.setIfInBounds_toArray, List.set_cons_zero, List.set_cons_succ]; rfl)
                  refine pure_ (i := 1) (N := (some 45)) (v := ?_) (a' := ?_) (lb 15 0x3) rfl rfl (by kernel_rfl) (fun _ _ _ h => h) (Or.inl ⟨by rfl, ?_⟩) ?_ ?_
                  rotate_left
                  · (intro w'; go_simp; with_reducible rfl)
                  rotate_left
                  · (simp only [Act.put, List.setIfInBounds_toArray, List.set_cons_zero, List.set_cons_succ]; rfl)
                  refine pure_ (i := 2) (N := (some 46)) (v := ?_) (a' := ?_) (lb 15 0x7) rfl rfl (by kernel_rfl) (fun _ _ _ h => h) (Or.inl ⟨by rfl, ?_⟩) ?_ ?_
                  rotate_left
                  · (intro w'; go_simp; with_reducible rfl)
                  rotate_left
                  · (simp only [Act.put, List.setIfInBounds_toArray, List.set_cons_zero, List.set_cons_succ]; rfl)
                  refine pure_ (i := 3) (N := (some 47)) (v := ?_) (a' := ?_) (lb 15 0xf) rfl rfl (by kernel_rfl) (fun _ _ _ h => h) (Or.inl ⟨by rfl, ?_⟩) ?_ ?_
                  rotate_left
                  · (intro w'; go_simp; with_reducible rfl)
                  rotate_left
                  · (simp only [Act.put, List.setIfInBounds_toArray, List.set_cons_zero, List.set_cons_succ]; rfl)
                  refine pure_ (i := 5) (N := (some 49)) (v := ?_) (a' := ?_) (lb 15 0x2f) rfl rfl (by kernel_rfl) (fun _ _ _ h => h) (Or.inl ⟨by rfl, ?_⟩) ?_ ?_
                  rotate_left
                  · (intro w'; go_simp; with_reducible rfl)
                  rotate_left
                  · (simp only [Act.put, List.setIfInBounds_toArray, List.set_cons_zero, List.set_cons_succ]; rfl)
                  refine pure_ (i := 8) (N := (some 52)) (v := ?_) (a' := ?_) (lb 15 0x12f) rfl rfl (by kernel_rfl) (fun _ _ _ h => h) (Or.inl ⟨by rfl, ?_⟩) ?_ ?_
                  rotate_left
                  · (intro w'; go_simp; with_reducible rfl)
                  rotate_left
                  · (simp only [Act.put, List.setIfInBounds_toArray, List.set_cons_zero, List.set_cons_succ]; rfl)
                  refine pure_ (i := 10) (N := (some 54)) (v := ?_) (a' := ?_) (lb 15 0x52f) rfl rfl (by kernel_rfl) (fun _ _ _ h => h) (Or.inl ⟨by rfl, ?_⟩) ?_ ?_
                  rotate_left
                  · (intro w'; go_simp; with_reducible rfl)
                  rotate_left
                  · (simp only [Act.put, List.setIfInBounds_toArray, List.set_cons_zero, List.set_cons_succ]; rfl)
                  refine take_ (i := 4) (N := (some 48)) (v := ?_) (a' := ?_) (lb 15 0x53f) rfl rfl (by kernel_rfl) (fun _ _ _ h => h) (Or.inl ⟨by rfl, ?_⟩) hHeld ?_ ?_
                  rotate_left
                  · (rintro w' hS; have d0 := cell_at hS p1.out; have d1 := cell_at hS K2.out; have d2 := cell_at hS KX.out; have d3 := cell_at hS KY.out; go_simp; with_reducible rfl)
                  rotate_left
                  · (simp only [Act.put, List.setIfInBounds_toArray, List.set_cons_zero, List.set_cons_succ]; rfl)
                  refine pure_ (i := 6) (N := (some 50)) (v := ?_) (a' := ?_) (lb 15 0x57f) rfl rfl (by kernel_rfl) (fun _ _ _ h => h) (Or.inl ⟨by rfl, ?_⟩) ?_ ?_
                  rotate_left
                  · (intro w'; go_simp; with_reducible rfl)
                  rotate_left
                  · (simp only [Act.put, List.setIfInBounds_toArray, List.set_cons_zero, List.set_cons_succ]; rfl)
                  refine take_ (i := 7) (N := (some 51)) (v := ?_) (a' := ?_) (lb 15 0x5ff) rfl rfl (by kernel_rfl) (fun _ _ _ h => h) (Or.inl ⟨by rfl, ?_⟩) hHeld ?_ ?_
                  rotate_left
                  · (rintro w' hS; have d0 := cell_at hS p1.out; have d1 := cell_at hS K2.out; have d2 := cell_at hS KX.out; have d3 := cell_at hS KY.out; go_simp; with_reducible rfl)
                  rotate_left
                  · (simp only [Act.put, List.setIfInBounds_toArray, List.set_cons_zero, List.set_cons_succ]; rfl)
                  refine take_ (i := 9) (N := (some 53)) (v := ?_) (a' := ?_) (lb 15 0x7ff) rfl rfl (by kernel_rfl) (fun _ _ _ h => h) (Or.inl ⟨by rfl, ?_⟩) hHeld ?_ ?_
                  rotate_left
                  · (rintro w' hS; have d0 := cell_at hS p1.out; have d1 := cell_at hS K2.out; have d2 := cell_at hS KX.out; have d3 := cell_at hS KY.out; go_simp; with_reducible rfl)
                  rotate_left
                  · (simp only [Act.put, List.setIfInBounds_toArray, List.set_cons_zero, List.set_cons_succ]; rfl)
                  refine pure_ (i := 11) (N := (some 55)) (v := ?_) (a' := ?_) (lb 15 0xfff) rfl rfl (by kernel_rfl) (fun _ _ _ h => h) (Or.inl ⟨by rfl, ?_⟩) ?_ ?_
                  rotate_left
                  · (intro w'; go_simp; with_reducible rfl)
                  rotate_left
                  · (simp only [Act.put, List.setIfInBounds_toArray, List.set_cons_zero, List.set_cons_succ]; rfl)
                  refine take_ (i := 12) (N := (some 56)) (v := ?_) (a' := ?_) (lb 15 0x1fff) rfl rfl (by kernel_rfl) (fun _ _ _ h => h) (Or.inl ⟨by rfl, ?_⟩) hHeld ?_ ?_
                  rotate_left
                  · (rintro w' hS; have d0 := cell_at hS p1.out; have d1 := cell_at hS K2.out; have d2 := cell_at hS KX.out; have d3 := cell_at hS KY.out; go_simp; with_reducible rfl)
                  rotate_left
                  · (simp only [Act.put, List.setIfInBounds_toArray, List.set_cons_zero, List.set_cons_succ]; rfl)
                  refine pure_ (i := 13) (N := (some 57)) (v := ?_) (a' := ?_) (lb 15 0x3fff) rfl rfl (by kernel_rfl) (fun _ _ _ h => h) (Or.inl ⟨by rfl, ?_⟩) ?_ ?_
                  rotate_left
                  · (intro w'; go_simp; with_reducible rfl)
                  rotate_left
                  · (simp only [Act.put, List.setIfInBounds_toArray, List.set_cons_zero, List.set_cons_succ]; rfl)
                  refine pure_ (i := 14) (N := (some 6)) (v := ?_) (a' := ?_) (lb 15 0x7fff) rfl rfl (by kernel_rfl) (fun _ _ _ h => h) (Or.inl ⟨by rfl, ?_⟩) ?_ ?_
                  rotate_left
                  · (intro w'; go_simp; with_reducible rfl)
                  rotate_left
                  · (simp only [Act.put, List.setIfInBounds_toArray, List.set_cons_zero, List.set_cons_succ]; rfl)
                  refine done_ (by kernel_rfl) ?_
                  go_wp2
                  go_roundw
                  case rel => exact ⟨k + 1, false, by omega, by go_num, rfl, ⟨below_drew1 HB.out⟩, ⟨⟨fun h => (by cases h), fun _ e => HE.out (by subst e; rfl)⟩⟩⟩
                  case measure => simp [intOf]; omega
              · go_wp2
                go_ret
                refine ⟨ret_bool ?_, below_then HB1.out HB1.out.size HB.out⟩
                have hxy : x = y := by
                  have h1 := HC.out.1 (by first | rfl | trivial)
                  rw [List.take_of_length_le (by have := HLN.out; omega), List.take_of_length_le (by omega)] at h1
                  have := HL.out
                  cases x; cases y; simp_all
                symm
                rw [List.any_eq_true]
                exact ⟨x, by rw [HX.out]; exact List.getElem_mem hlt, decide_eq_true hxy⟩
            | false =>
              go_wp2
              all_goals
                go_roundw
                case rel => exact ⟨i + 1, by omega, by go_num, HB, ⟨fun j hj hji => by
                  rcases Nat.lt_or_ge j i with h | h
                  · exact HN.out j hj h
                  · obtain rfl : j = i := by omega
                    rw [← HX.out]
                    exact HC.out.2 (by first | rfl | trivial)⟩⟩
                case measure => simp [intOf]; omega
        · have hnb : ((x.right.length : Int) == (y.right.length : Int)) = false := by rw [beq_eq_false_iff_ne]; omega
          have HNE : Aside0 (¬ x = y) := ⟨fun e => hn (by rw [e])⟩
          clear hl hn
          go_wp2
          refine start_ (n := 21) (S := fun w' => Below w1.heap.size w1 w') (ds := []) (lb 21 0x0) (by kernel_rfl) rfl (by kernel_rfl) (below_drew1 HB.out) (fun hHeld => ?_)
          refine pure_ (i := 0) (N := (some 14)) (v := ?_) (a' := ?_) (lb 21 0x1) rfl rfl (by kernel_rfl) (fun _ _ _ h => h) (Or.inl ⟨by rfl, ?_⟩) ?_ ?_
          rotate_left
          · (intro w'; go_simp; with_reducible rfl)
          rotate_left
          · (simp only [Act.put, List.setIfInBounds_toArray, List.set_cons_zero, List.set_cons_succ]; rfl)
          refine pure_ (i := 1) (N := (some 15)) (v := ?_) (a' := ?_) (lb 21 0x3) rfl rfl (by kernel_rfl) (fun _ _ _ h => h) (Or.inl ⟨by rfl, ?_⟩) ?_ ?_
          rotate_left
          · (intro w'; go_simp; with_reducible rfl)
          rotate_left
          · (simp only [Act.put, List.setIfInBounds_toArray, List.set_cons_zero, List.set_cons_succ]; rfl)
          refine pure_ (i := 2) (N := (some 16)) (v := ?_) (a' := ?_) (lb 21 0x7) rfl rfl (by kernel_rfl) (fun _ _ _ h => h) (Or.inl ⟨by rfl, ?_⟩) ?_ ?_
          rotate_left
          · (intro w'; go_simp; with_reducible rfl)
          rotate_left
          · (simp only [Act.put, List.setIfInBounds_toArray, List.set_cons_zero, List.set_cons_succ]; rfl)
          refine pure_ (i := 3) (N := (some 17)) (v := ?_) (a' := ?_) (lb 21 0xf) rfl rfl (by kernel_rfl) (fun _ _ _ h => h) (Or.inl ⟨by rfl, ?_⟩) ?_ ?_
          rotate_left
          · (intro w'; go_simp; with_reducible rfl)
          rotate_left
          · (simp only [Act.put, List.setIfInBounds_toArray, List.set_cons_zero, List.set_cons_succ]; rfl)
          refine pure_ (i := 5) (N := (some 19)) (v := ?_) (a' := ?_) (lb 21 0x2f) rfl rfl (by kernel_rfl) (fun _ _ _ h => h) (Or.inl ⟨by rfl, ?_⟩) ?_ ?_
          rotate_left
          · (intro w'; go_simp; with_reducible rfl)
          rotate_left
          · (simp only [Act.put, List.setIfInBounds_toArray, List.set_cons_zero, List.set_cons_succ]; rfl)
          refine take_ (i := 4) (N := (some 18)) (v := ?_) (a' := ?_) (lb 21 0x3f) rfl rfl (by kernel_rfl) (fun _ _ _ h => h) (Or.inl ⟨by rfl, ?_⟩) hHeld ?_ ?_
          rotate_left
          · (rintro w' hS; have d0 := cell_at hS p0.out; have d1 := cell_at hS p1.out; have d2 := cell_at hS K1.out; have d3 := cell_at hS K2.out; go_simp; with_reducible rfl)
          rotate_left
          · (simp only [Act.put, List.setIfInBounds_toArray, List.set_cons_zero, List.set_cons_succ]; rfl)
          refine take_ (i := 6) (N := (some 20)) (v := ?_) (a' := ?_) (lb 21 0x7f) rfl rfl (by kernel_rfl) (fun _ _ _ h => h) (Or.inl ⟨by rfl, ?_⟩) hHeld ?_ ?_
          rotate_left
          · (rintro w' hS; have d0 := cell_at hS p0.out; have d1 := cell_at hS p1.out; have d2 := cell_at hS K1.out; have d3 := cell_at hS K2.out; go_simp; with_reducible rfl)
          rotate_left
          · (simp only [Act.put, List.setIfInBounds_toArray, List.set_cons_zero, List.set_cons_succ]; rfl)
          refine pure_ (i := 7) (N := (some 21)) (v := ?_) (a' := ?_) (lb 21 0xff) rfl rfl (by kernel_rfl) (fun _ _ _ h => h) (Or.inl ⟨by rfl, ?_⟩) ?_ ?_
          rotate_left
          · (intro w'; go_simp; with_reducible rfl)
          rotate_left
          · (simp only [Act.put, List.setIfInBounds_toArray, List.set_cons_zero, List.set_cons_succ]; rfl)
          refine pure_ (i := 8) (N := (some 22)) (v := ?_) (a' := ?_) (lb 21 0x1ff) rfl rfl (by kernel_rfl) (fun _ _ _ h => h) (Or.inl ⟨by rfl, ?_⟩) ?_ ?_
          rotate_left
          · (intro w'; go_simp; with_reducible rfl)
          rotate_left
          · (simp only [Act.put, List.setIfInBounds_toArray, List.set_cons_zero, List.set_cons_succ]; rfl)
          refine pure_ (i := 9) (N := (some 23)) (v := ?_) (a' := ?_) (lb 21 0x3ff) rfl rfl (by kernel_rfl) (fun _ _ _ h => h) (Or.inl ⟨by rfl, ?_⟩) ?_ ?_
          rotate_left
          · (intro w'; go_simp; with_reducible rfl)
          rotate_left
          · (simp only [Act.put, List.setIfInBounds_toArray, List.set_cons_zero, List.set_cons_succ]; rfl)
          refine pure_ (i := 10) (N := (some 24)) (v := ?_) (a' := ?_) (lb 21 0x7ff) rfl rfl (by kernel_rfl) (fun _ _ _ h => h) (Or.inl ⟨by rfl, ?_⟩) ?_ ?_
          rotate_left
          · (intro w'; go_simp; with_reducible rfl)
          rotate_left
          · (simp only [Act.put, List.setIfInBounds_toArray, List.set_cons_zero, List.set_cons_succ]; rfl)
          refine pure_ (i := 11) (N := (some 25)) (v := ?_) (a' := ?_) (lb 21 0xfff) rfl rfl (by kernel_rfl) (fun _ _ _ h => h) (Or.inl ⟨by rfl, ?_⟩) ?_ ?_
          rotate_left
          · (intro w'; go_simp; with_reducible rfl)
          rotate_left
          · (simp only [Act.put, List.setIfInBounds_toArray, List.set_cons_zero, List.set_cons_succ]; rfl)
          refine pure_ (i := 12) (N := (some 26)) (v := ?_) (a' := ?_) (lb 21 0x1fff) rfl rfl (by kernel_rfl) (fun _ _ _ h => h) (Or.inl ⟨by rfl, ?_⟩) ?_ ?_
          rotate_left
          · (intro w'; go_simp; with_reducible rfl)
          rotate_left
          · (simp only [Act.put, List.setIfInBounds_toArray, List.set_cons_zero, List.set_cons_succ]; rfl)
          refine pure_ (i := 15) (N := (some 29)) (v := ?_) (a' := ?_) (lb 21 0x9fff) rfl rfl (by kernel_rfl) (fun _ _ _ h => h) (Or.inl ⟨by rfl, ?_⟩) ?_ ?_
          rotate_left
          · (intro w'; go_simp; with_reducible rfl)
          rotate_left
          · (simp only [Act.put, List.setIfInBounds_toArray, List.set_cons_zero, List.set_cons_succ]; rfl)
          refine take_ (i := 13) (N := (some 27)) (v := ?_) (a' := ?_) (lb 21 0xbfff) rfl rfl (by kernel_rfl) (fun _ _ _ h => h) (Or.inl ⟨by rfl, ?_⟩) hHeld ?_ ?_
          rotate_left
          · (rintro w' hS; have d0 := cell_at hS p0.out; have d1 := cell_at hS p1.out; have d2 := cell_at hS K1.out; have d3 := cell_at hS K2.out; go_simp; with_reducible rfl)
          rotate_left
          · (simp only [Act.put, List.setIfInBounds_toArray, List.set_cons_zero, List.set_cons_succ]; rfl)
          refine pure_ (i := 14) (N := (some 28)) (v := ?_) (a' := ?_) (lb 21 0xffff) rfl rfl (by kernel_rfl) (fun _ _ _ h => h) (Or.inl ⟨by rfl, ?_⟩) ?_ ?_
          rotate_left
          · (intro w'; go_simp; with_reducible rfl)
          rotate_left
          · (simp only [Act.put, List.setIfInBounds_toArray, List.set_cons_zero, List.set_cons_succ]; rfl)
          refine take_ (i := 16) (N := (some 30)) (v := ?_) (a' := ?_) (lb 21 0x1ffff) rfl rfl (by kernel_rfl) (fun _ _ _ h => h) (Or.inl ⟨by rfl, ?_⟩) hHeld ?_ ?_
          rotate_left
          · (rintro w' hS; have d0 := cell_at hS p0.out; have d1 := cell_at hS p1.out; have d2 := cell_at hS K1.out; have d3 := cell_at hS K2.out; go_simp; with_reducible rfl)
          rotate_left
          · (simp only [Act.put, List.setIfInBounds_toArray, List.set_cons_zero, List.set_cons_succ]; rfl)
          refine pure_ (i := 17) (N := (some 31)) (v := ?_) (a' := ?_) (lb 21 0x3ffff) rfl rfl (by kernel_rfl) (fun _ _ _ h => h) (Or.inl ⟨by rfl, ?_⟩) ?_ ?_
          rotate_left
          · (intro w'; go_simp; with_reducible rfl)
          rotate_left
          · (simp only [Act.put, List.setIfInBounds_toArray, List.set_cons_zero, List.set_cons_succ]; rfl)
          refine pure_ (i := 18) (N := (some 32)) (v := ?_) (a' := ?_) (lb 21 0x7ffff) rfl rfl (by kernel_rfl) (fun _ _ _ h => h) (Or.inl ⟨by rfl, ?_⟩) ?_ ?_
          rotate_left
          · (intro w'; go_simp; with_reducible rfl)
          rotate_left
          · (simp only [Act.put, List.setIfInBounds_toArray, List.set_cons_zero, List.set_cons_succ]; rfl)
          refine pure_ (i := 19) (N := (some 33)) (v := ?_) (a' := ?_) (lb 21 0xfffff) rfl rfl (by kernel_rfl) (fun _ _ _ h => h) (Or.inl ⟨by rfl, ?_⟩) ?_ ?_
          rotate_left
          · (intro w'; go_simp; with_reducible rfl)
          rotate_left
          · (simp only [Act.put, List.setIfInBounds_toArray, List.set_cons_zero, List.set_cons_succ]; rfl)
          refine pure_ (i := 20) (N := (some 6)) (v := ?_) (a' := ?_) (lb 21 0x1fffff) rfl rfl (by kernel_rfl) (fun _ _ _ h => h) (Or.inl ⟨by rfl, ?_⟩) ?_ ?_
          rotate_left
          · (intro w'; go_simp; with_reducible rfl)
          rotate_left
          · (simp only [Act.put, List.setIfInBounds_toArray, List.set_cons_zero, List.set_cons_succ]; rfl)
          refine done_ (by kernel_rfl) ?_
          go_wp2
          go_loopw [7, 6] (fun kv sv wi => kv = .int .i64 0 ∧ sv = .bool false ∧ Aside0 (Below w1.heap.size w1 wi)) (fun kv _ _ => 0)
          case atStart => exact ⟨rfl, rfl, ⟨below_drew1 HB.out⟩⟩
          case round =>
            clear HB
            obtain ⟨rfl, rfl, HB⟩ := hrel
            have z1 := cell_at HB.out p1.out
            go_wp2
            all_goals
              go_roundw
              case rel => exact ⟨i + 1, by omega, by go_num, HB, ⟨fun j hj hji => by
                rcases Nat.lt_or_ge j i with h | h
                · exact HN.out j hj h
                · obtain rfl : j = i := by omega
                  rw [← HX.out]
                  exact HNE.out⟩⟩
              case measure => simp [intOf]; omega
      · have hlb : (x.left == y.left) = false := by rw [beq_eq_false_iff_ne]; exact hl
        have HNE : Aside0 (¬ x = y) := ⟨fun e => hl (by rw [e])⟩
        clear hl
        go_wp2
        refine start_ (n := 21) (S := fun w' => Below w1.heap.size w1 w') (ds := []) (lb 21 0x0) (by kernel_rfl) rfl (by kernel_rfl) (below_drew1 HB.out) (fun hHeld => ?_)
        refine pure_ (i := 0) (N := (some 14)) (v := ?_) (a' := ?_) (lb 21 0x1) rfl rfl (by kernel_rfl) (fun _ _ _ h => h) (Or.inl ⟨by rfl, ?_⟩) ?_ ?_
        rotate_left
        · (intro w'; go_simp; with_reducible rfl)
        rotate_left
        · (simp only [Act.put, List.setIfInBounds_toArray, List.set_cons_zero, List.set_cons_succ]; rfl)
        refine pure_ (i := 1) (N := (some 15)) (v := ?_) (a' := ?_) (lb 21 0x3) rfl rfl (by kernel_rfl) (fun _ _ _ h => h) (Or.inl ⟨by rfl, ?_⟩) ?_ ?_
        rotate_left
        · (intro w'; go_simp; with_reducible rfl)
        rotate_left
        · (simp only [Act.put, List.setIfInBounds_toArray, List.set_cons_zero, List.set_cons_succ]; rfl)
        refine pure_ (i := 2) (N := (some 16)) (v := ?_) (a' := ?_) (lb 21 0x7) rfl rfl (by kernel_rfl) (fun _ _ _ h => h) (Or.inl ⟨by rfl, ?_⟩) ?_ ?_
        rotate_left
        · (intro w'; go_simp; with_reducible rfl)
        rotate_left
        · (simp only [Act.put, List.setIfInBounds_toArray, List.set_cons_zero, List.set_cons_succ]; rfl)
        refine pure_ (i := 3) (N := (some 17)) (v := ?_) (a' := ?_) (lb 21 0xf) rfl rfl (by kernel_rfl) (fun _ _ _ h => h) (Or.inl ⟨by rfl, ?_⟩) ?_ ?_
        rotate_left
        · (intro w'; go_simp; with_reducible rfl)
        rotate_left
        · (simp only [Act.put, List.setIfInBounds_toArray, List.set_cons_zero, List.set_cons_succ]; rfl)
        refine pure_ (i := 5) (N := (some 19)) (v := ?_) (a' := ?_) (lb 21 0x2f) rfl rfl (by kernel_rfl) (fun _ _ _ h => h) (Or.inl ⟨by rfl, ?_⟩) ?_ ?_
        rotate_left
        · (intro w'; go_simp; with_reducible rfl)
        rotate_left
        · (simp only [Act.put, List.setIfInBounds_toArray, List.set_cons_zero, List.set_cons_succ]; rfl)
        refine take_ (i := 4) (N := (some 18)) (v := ?_) (a' := ?_) (lb 21 0x3f) rfl rfl (by kernel_rfl) (fun _ _ _ h => h) (Or.inl ⟨by rfl, ?_⟩) hHeld ?_ ?_
        rotate_left
        · (rintro w' hS; have d0 := cell_at hS p0.out; have d1 := cell_at hS p1.out; have d2 := cell_at hS K1.out; have d3 := cell_at hS K2.out; go_simp; with_reducible rfl)
        rotate_left
        · (simp only [Act.put, List.setIfInBounds_toArray, List.set_cons_zero, List.set_cons_succ]; rfl)
        refine take_ (i := 6) (N := (some 20)) (v := ?_) (a' := ?_) (lb 21 0x7f) rfl rfl (by kernel_rfl) (fun _ _ _ h => h) (Or.inl ⟨by rfl, ?_⟩) hHeld ?_ ?_
        rotate_left
        · (rintro w' hS; have d0 := cell_at hS p0.out; have d1 := cell_at hS p1.out; have d2 := cell_at hS K1.out; have d3 := cell_at hS K2.out; go_simp; with_reducible rfl)
        rotate_left
        · (simp only [Act.put, List.setIfInBounds_toArray, List.set_cons_zero, List.set_cons_succ]; rfl)
        refine pure_ (i := 7) (N := (some 21)) (v := ?_) (a' := ?_) (lb 21 0xff) rfl rfl (by kernel_rfl) (fun _ _ _ h => h) (Or.inl ⟨by rfl, ?_⟩) ?_ ?_
        rotate_left
        · (intro w'; go_simp; with_reducible rfl)
        rotate_left
        · (simp only [Act.put, List.setIfInBounds_toArray, List.set_cons_zero, List.set_cons_succ]; rfl)
        refine pure_ (i := 8) (N := (some 22)) (v := ?_) (a' := ?_) (lb 21 0x1ff) rfl rfl (by kernel_rfl) (fun _ _ _ h => h) (Or.inl ⟨by rfl, ?_⟩) ?_ ?_
        rotate_left
        · (intro w'; go_simp; with_reducible rfl)
        rotate_left
        · (simp only [Act.put, List.setIfInBounds_toArray, List.set_cons_zero, List.set_cons_succ]; rfl)
        refine pure_ (i := 9) (N := (some 23)) (v := undef) (a' := ?_) (lb 21 0x3ff) rfl rfl (by kernel_rfl) (fun _ _ _ h => h) (Or.inr ⟨by rfl, rfl⟩) ?_ ?_
        rotate_left
        · (simp only [Act.put, List.setIfInBounds_toArray, List.set_cons_zero, List.set_cons_succ]; rfl)
        refine pure_ (i := 10) (N := (some 24)) (v := undef) (a' := ?_) (lb 21 0x7ff) rfl rfl (by kernel_rfl) (fun _ _ _ h => h) (Or.inr ⟨by rfl, rfl⟩) ?_ ?_
        rotate_left
        · (simp only [Act.put, List.setIfInBounds_toArray, List.set_cons_zero, List.set_cons_succ]; rfl)
        refine pure_ (i := 11) (N := (some 25)) (v := undef) (a' := ?_) (lb 21 0xfff) rfl rfl (by kernel_rfl) (fun _ _ _ h => h) (Or.inr ⟨by rfl, rfl⟩) ?_ ?_
        rotate_left
        · (simp only [Act.put, List.setIfInBounds_toArray, List.set_cons_zero, List.set_cons_succ]; rfl)
        refine pure_ (i := 12) (N := (some 26)) (v := undef) (a' := ?_) (lb 21 0x1fff) rfl rfl (by kernel_rfl) (fun _ _ _ h => h) (Or.inr ⟨by rfl, rfl⟩) ?_ ?_
        rotate_left
        · (simp only [Act.put, List.setIfInBounds_toArray, List.set_cons_zero, List.set_cons_succ]; rfl)
        refine pure_ (i := 15) (N := (some 29)) (v := undef) (a' := ?_) (lb 21 0x9fff) rfl rfl (by kernel_rfl) (fun _ _ _ h => h) (Or.inr ⟨by rfl, rfl⟩) ?_ ?_
        rotate_left
        · (simp only [Act.put, List.setIfInBounds_toArray, List.set_cons_zero, List.set_cons_succ]; rfl)
        refine pure_ (i := 13) (N := (some 27)) (v := undef) (a' := ?_) (lb 21 0xbfff) rfl rfl (by kernel_rfl) (fun _ _ _ h => h) (Or.inr ⟨by rfl, rfl⟩) ?_ ?_
        rotate_left
        · (simp only [Act.put, List.setIfInBounds_toArray, List.set_cons_zero, List.set_cons_succ]; rfl)
        refine pure_ (i := 14) (N := (some 28)) (v := undef) (a' := ?_) (lb 21 0xffff) rfl rfl (by kernel_rfl) (fun _ _ _ h => h) (Or.inr ⟨by rfl, rfl⟩) ?_ ?_
        rotate_left
        · (simp only [Act.put, List.setIfInBounds_toArray, List.set_cons_zero, List.set_cons_succ]; rfl)
        refine pure_ (i := 16) (N := (some 30)) (v := undef) (a' := ?_) (lb 21 0x1ffff) rfl rfl (by kernel_rfl) (fun _ _ _ h => h) (Or.inr ⟨by rfl, rfl⟩) ?_ ?_
        rotate_left
        · (simp only [Act.put, List.setIfInBounds_toArray, List.set_cons_zero, List.set_cons_succ]; rfl)
        refine pure_ (i := 17) (N := (some 31)) (v := undef) (a' := ?_) (lb 21 0x3ffff) rfl rfl (by kernel_rfl) (fun _ _ _ h => h) (Or.inr ⟨by rfl, rfl⟩) ?_ ?_
        rotate_left
        · (simp only [Act.put, List.setIfInBounds_toArray, List.set_cons_zero, List.set_cons_succ]; rfl)
        refine pure_ (i := 18) (N := (some 32)) (v := undef) (a' := ?_) (lb 21 0x7ffff) rfl rfl (by kernel_rfl) (fun _ _ _ h => h) (Or.inr ⟨by rfl, rfl⟩) ?_ ?_
        rotate_left
        · (simp only [Act.put, List.setIfInBounds_toArray, List.set_cons_zero, List.set_cons_succ]; rfl)
        refine pure_ (i := 19) (N := (some 33)) (v := ?_) (a' := ?_) (lb 21 0xfffff) rfl rfl (by kernel_rfl) (fun _ _ _ h => h) (Or.inl ⟨by rfl, ?_⟩) ?_ ?_
        rotate_left
        · (intro w'; go_simp; with_reducible rfl)
        rotate_left
        · (simp only [Act.put, List.setIfInBounds_toArray, List.set_cons_zero, List.set_cons_succ]; rfl)
        refine pure_ (i := 20) (N := (some 6)) (v := ?_) (a' := ?_) (lb 21 0x1fffff) rfl rfl (by kernel_rfl) (fun _ _ _ h => h) (Or.inl ⟨by rfl, ?_⟩) ?_ ?_
        rotate_left
        · (intro w'; go_simp; with_reducible rfl)
        rotate_left
        · (simp only [Act.put, List.setIfInBounds_toArray, List.set_cons_zero, List.set_cons_succ]; rfl)
        refine done_ (by kernel_rfl) ?_
        go_wp2
        go_loopw [7, 6] (fun kv sv wi => kv = .int .i64 0 ∧ sv = .bool false ∧ Aside0 (Below w1.heap.size w1 wi)) (fun kv _ _ => 0)
        case atStart => exact ⟨rfl, rfl, ⟨below_drew1 HB.out⟩⟩
        case round =>
          clear HB
          obtain ⟨rfl, rfl, HB⟩ := hrel
          have z1 := cell_at HB.out p1.out
          go_wp2
          all_goals
            go_roundw
            case rel => exact ⟨i + 1, by omega, by go_num, HB, ⟨fun j hj hji => by
              rcases Nat.lt_or_ge j i with h | h
              · exact HN.out j hj h
              · obtain rfl : j = i := by omega
                rw [← HX.out]
                exact HNE.out⟩⟩
            case measure => simp [intOf]; omega
    · go_wp2
      go_ret
      refine ⟨ret_bool ?_, below_then HB1.out HB1.out.size HB.out⟩
      symm
      rw [List.any_eq_false]
      intro x hx h
      obtain ⟨j, hj, rfl⟩ := List.mem_iff_getElem.1 hx
      exact HN.out j hj (by omega) (of_decide_eq_true h)
theorem results_name1 {tmps : Array Value} {W : World} {q : Nat} {s : ByteArray} {b : Bool} (t4 : tmps.getD 4 undef = .pointer (some ⟨q, 0, none⟩))
    (h : W.heap[q]? = some (.cells #[.string s, .bool b] 40 (0, 0))) :
    (results Try.f21 tmps).run Try.prog W = .ok (.agg #[.string s, .bool b]) W := by
  have d1 := blk_cell h 0
  have d4 := blk_cell h 1
  simp only [List.getElem?_toArray, List.getElem?_cons_zero, List.getElem?_cons_succ] at d1 d4
  simp only [Array.getD_eq_getD_getElem?] at t4
  simp [results, Try.results21, go_sem, d1, d4, t4]
end Go.Proofs.Ytphmmppmhphgeaa
