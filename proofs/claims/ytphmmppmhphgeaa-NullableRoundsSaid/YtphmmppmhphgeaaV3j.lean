/- The law NullableRounds, walked: it answers true. -/
import Derived.Test.YtphmmppmhphgeaaV2j
import Derived.Test.YtphmmppmhphgeaaX4j
import Derived.Test.YtphmmppmhphgeaaP12j
set_option linter.unusedVariables false
set_option linter.unusedSimpArgs false
namespace Go.Proofs.Ytphmmppmhphgeaa
open Go.RowKit Go.Proofs.YtphmmppmhphgeaaW.PrintWords Go.Proofs.YtphmmppmhphgeaaW.PrintLast

theorem set_same {l : List Bool} {i : Nat} {v : Bool} (hi : i < l.length) (h : l[i] = v) : l.set i v = l := by
  subst h; exact List.set_getElem_self hi
set_option maxRecDepth 100000 in
set_option maxHeartbeats 16000000 in
theorem nullRounds_c (g : Gram) (A1 A2 A3 : Option Addr) (c1 c2 c3 : Nat) (w : World) (hg : RepG w g A1 A2 A3 c1 c2 c3) (hz : Sized g) :
    Calls Try.prog 11 #[.agg #[.slice A1 g.terms.length c1, .slice A2 g.names.length c2, .slice A3 g.rules.length c3]] w fun e w' => e = .returned (.bool true) ∧ Below w.heap.size w w' := by
  obtain ⟨v0, hv0⟩ : ∃ v0 : World, v0 = w.alloc (.cells #[.slice A1 g.terms.length c1, .slice A2 g.names.length c2, .slice A3 g.rules.length c3] 25 (0, 0)) := ⟨_, rfl⟩
  have HB0 : Aside0 (Below w.heap.size w v0) := ⟨by rw [hv0]; exact (Below.refl w.heap.size w).alloc (Nat.le_refl _) _⟩
  have HP0 : Aside0 (v0.heap[w.heap.size]? = some (.cells #[.slice A1 g.terms.length c1, .slice A2 g.names.length c2, .slice A3 g.rules.length c3] 25 (0, 0))) := ⟨by rw [hv0]; exact blk_new w _⟩
  have HG0 := Aside0.mk (hg.below_ HB0.out)
  have HZ := Aside0.mk hz
  clear hg hz
  go_enter Try.func11, Try.ntmps11
  go_upto_region 1 with (fail)
  simp only [← hv0]
  clear hv0
  refine wp_region_lit ?_
  refine pl_held (B := v0.heap.size) (v := v0) (Below.refl _ _) (fun hHeld => ?_)
  refine pl_value (N := (some 10)) (v := ?v14) (w1 := ?w14) (by rfl) rfl ?h14 ?_
  case h14 => (have d0 := (blk_cell (blk_below HP0.out hHeld) 0).trans rfl; have d1 := (blk_cell (blk_below HP0.out hHeld) 1).trans rfl; have d2 := (blk_cell (blk_below HP0.out hHeld) 2).trans rfl; go_simp; first | rfl | (constructor; rfl; rfl))
  simp only [Act.put, List.setIfInBounds_toArray, List.set_cons_zero, List.set_cons_succ]
  refine goesCL_ (N := (some 11)) Try.func15 (by kernel_rfl) rfl (by rfl) rfl rfl (large_c g A1 A2 A3 c1 c2 c3 _ (HG0.out.below_ hHeld)) (by simp [Act.eval]) ?_
  rintro e x1_1 ⟨⟨lb, rfl, hs⟩, hb1_1⟩
  refine ⟨_, rfl, ?_⟩
  simp only [Act.put, List.setIfInBounds_toArray, List.set_cons_zero, List.set_cons_succ]
  refine pl_held (B := v0.heap.size) (v := v0) (below_then hHeld hHeld.size hb1_1) (fun hHeld => ?_)
  have HX1 := Aside0.mk hHeld
  clear hs
  cases lb
  · cases hgd : goodF g
    · refine pl_value (N := (some 12)) (v := ?v16) (w1 := ?w16) (by rfl) rfl ?h16 ?_
      case h16 => (go_simp; first | rfl | (constructor; rfl; rfl))
      simp only [Act.put, List.setIfInBounds_toArray, List.set_cons_zero, List.set_cons_succ]
      refine pl_value (N := (some 13)) (v := ?v17) (w1 := ?w17) (by rfl) rfl ?h17 ?_
      case h17 => (have d0 := (blk_cell (blk_below HP0.out hHeld) 0).trans rfl; have d1 := (blk_cell (blk_below HP0.out hHeld) 1).trans rfl; have d2 := (blk_cell (blk_below HP0.out hHeld) 2).trans rfl; go_simp; first | rfl | (constructor; rfl; rfl))
      simp only [Act.put, List.setIfInBounds_toArray, List.set_cons_zero, List.set_cons_succ]
      refine goesCL_ (N := (some 14)) Try.func24 (by kernel_rfl) rfl (by rfl) rfl rfl (good1_v g A1 A2 A3 c1 c2 c3 _ (HG0.out.below_ hHeld) HZ.out hgd) (by simp [Act.eval]) ?_
      rintro e x1_4 ⟨rfl, hb1_4⟩
      refine ⟨_, rfl, ?_⟩
      simp only [Act.put, List.setIfInBounds_toArray, List.set_cons_zero, List.set_cons_succ]
      refine pl_held (B := v0.heap.size) (v := v0) (below_then hHeld hHeld.size hb1_4) (fun hHeld => ?_)
      refine pl_value (N := (some 15)) (v := ?v19) (w1 := ?w19) (by rfl) rfl ?h19 ?_
      case h19 => (go_simp; first | rfl | (constructor; rfl; rfl))
      simp only [Act.put, List.setIfInBounds_toArray, List.set_cons_zero, List.set_cons_succ]
      refine pl_value (N := (some 16)) (v := ?v20) (w1 := ?w20) (by rfl) rfl ?h20 ?_
      case h20 => (go_simp; first | rfl | (constructor; rfl; rfl))
      simp only [Act.put, List.setIfInBounds_toArray, List.set_cons_zero, List.set_cons_succ]
      refine wpList_nil ?_
      go_upto_region 2 with (fail)
      refine wp_region_lit ?_
      refine pl_held (B := v0.heap.size) (v := v0) (below_then HX1.out HX1.out.size hb1_4) (fun hHeld => ?_)
      refine goesCL_ (N := (some 17)) Try.func28 (by kernel_rfl) rfl (by rfl) rfl rfl (wakes06_c _) (by simp [Act.eval]) ?_
      rintro e x2_0 ⟨rfl, hb2_0⟩
      refine ⟨_, rfl, ?_⟩
      simp only [Act.put, List.setIfInBounds_toArray, List.set_cons_zero, List.set_cons_succ]
      refine pl_held (B := v0.heap.size) (v := v0) (below_then hHeld hHeld.size hb2_0) (fun hHeld => ?_)
      refine pl_value (N := (some 2)) (v := ?v2) (w1 := ?w2) (by rfl) rfl ?h2 ?_
      case h2 => (go_simp; first | rfl | (constructor; rfl; rfl))
      simp only [Act.put, List.setIfInBounds_toArray, List.set_cons_zero, List.set_cons_succ]
      refine wpList_nil ?_
      go_wp2
      go_ret
      exact ⟨ret_bool rfl, below_then HB0.out HB0.out.size hHeld⟩
    · refine pl_value (N := (some 12)) (v := ?v21) (w1 := ?w21) (by rfl) rfl ?h21 ?_
      case h21 => (go_simp; first | rfl | (constructor; rfl; rfl))
      simp only [Act.put, List.setIfInBounds_toArray, List.set_cons_zero, List.set_cons_succ]
      refine pl_value (N := (some 13)) (v := ?v22) (w1 := ?w22) (by rfl) rfl ?h22 ?_
      case h22 => (have d0 := (blk_cell (blk_below HP0.out hHeld) 0).trans rfl; have d1 := (blk_cell (blk_below HP0.out hHeld) 1).trans rfl; have d2 := (blk_cell (blk_below HP0.out hHeld) 2).trans rfl; go_simp; first | rfl | (constructor; rfl; rfl))
      simp only [Act.put, List.setIfInBounds_toArray, List.set_cons_zero, List.set_cons_succ]
      refine goesCL_ (N := (some 14)) Try.func24 (by kernel_rfl) rfl (by rfl) rfl rfl (good1_v g A1 A2 A3 c1 c2 c3 _ (HG0.out.below_ hHeld) HZ.out hgd) (by simp [Act.eval]) ?_
      rintro e x1_4 ⟨rfl, hb1_4⟩
      refine ⟨_, rfl, ?_⟩
      simp only [Act.put, List.setIfInBounds_toArray, List.set_cons_zero, List.set_cons_succ]
      refine pl_held (B := v0.heap.size) (v := v0) (below_then hHeld hHeld.size hb1_4) (fun hHeld => ?_)
      refine pl_value (N := (some 15)) (v := ?v24) (w1 := ?w24) (by rfl) rfl ?h24 ?_
      case h24 => (go_simp; first | rfl | (constructor; rfl; rfl))
      simp only [Act.put, List.setIfInBounds_toArray, List.set_cons_zero, List.set_cons_succ]
      refine pl_value (N := (some 16)) (v := ?v25) (w1 := ?w25) (by rfl) rfl ?h25 ?_
      case h25 => (go_simp; first | rfl | (constructor; rfl; rfl))
      simp only [Act.put, List.setIfInBounds_toArray, List.set_cons_zero, List.set_cons_succ]
      refine wpList_nil ?_
      obtain ⟨q1, q2, q3, q4⟩ := goodF_small hgd
      have HX4 := Aside0.mk (below_then HX1.out HX1.out.size hb1_4)
      have HMEM := Aside0.mk (goodF_mem hgd)
      obtain ⟨n, hn⟩ : ∃ n, nsym g = n := ⟨_, rfl⟩
      have hn80 : n ≤ 80 := by rw [← hn]; unfold nsym; omega
      have hn1 : 1 ≤ n := by rw [← hn]; unfold nsym; omega
      have e1 : IntKind.i64.wrap ((g.terms.length : Int) + (g.names.length : Int)) = (n : Int) := by rw [IntWalk.i64_in _ (by omega), ← hn]; unfold nsym; omega
      have hmk := print_make_of (P := Try.prog) 57 4 (.bool false) 1 Try.underlying57 (by kernel_rfl) rfl (by decide) n (by omega)
      have HN := Lib.hid hn
      have HGD := Lib.hid hgd
      clear hn hgd hHeld hb1_1 hb1_4
      have K1 := Aside0.mk (blk_below HP0.out HX4.out)
      have HG1 := Aside0.mk (HG0.out.below_ HX4.out)
      have HV1 := Aside0.mk (below_then HB0.out HB0.out.size HX4.out)
      have a1 := (blk_cell K1.out 0).trans rfl
      have a2 := (blk_cell K1.out 1).trans rfl
      clear HX1 HX4 HP0 HG0 HB0
      rename World => v1
      go_wp2
      clear e1 a1 a2 hmk
      go_loopw [5, 4] (fun i hv wr => ∃ r b c : Nat, r ≤ g.names.length ∧ i = .int .i64 r ∧ hv = .slice (some ⟨b, 0, none⟩) n c ∧ Aside0 (Kd.bool.C wr (some ⟨b, 0, none⟩) n (iter (jac (hornN g)) r (List.replicate n false))) ∧ Aside0 (Below v1.heap.size v1 wr)) (fun i _ _ => g.names.length - (intOf i).toNat)
      case atStart => exact ⟨0, _, _, Nat.zero_le _, rfl, rfl, ⟨(BB.new v1 n).C' (by simp) (by omega)⟩, ⟨below_alloc (Below.refl _ _) _⟩⟩
      case round =>
        obtain ⟨r, b, c, hr, rfl, rfl, HC, HB⟩ := hrel
        have K2 := Aside0.mk (blk_below K1.out HB.out)
        have a2 := (blk_cell K2.out 1).trans rfl
        by_cases hrn : r < g.names.length
        · obtain ⟨m, hm⟩ : ∃ m, m = iter (jac (hornN g)) r (List.replicate n false) := ⟨_, rfl⟩
          rw [← hm] at HC
          have HM := Lib.hid hm
          have hml : m.length = n := C_len HC.out
          clear hm
          go_upto_region 8 with (fail)
          rename World => wo
          refine wp_region_lit ?_
          refine pl_held (B := wo.heap.size) (v := wo) (Below.refl _ _) (fun hHeld => ?_)
          refine pl_alloc (N := (some 34)) (v := ?v3) (o := ?o3) (by rfl) rfl ?h3 ?_
          case h3 => (go_simp; first | rfl | (constructor; rfl; rfl))
          intro x8_0 hb8_0 hx8_0 hs8_0 hq8_0
          simp only [Act.put, List.setIfInBounds_toArray, List.set_cons_zero, List.set_cons_succ]
          refine pl_held (B := wo.heap.size) (v := wo) (below_then hHeld hHeld.size hb8_0) (fun hHeld => ?_)
          refine pl_value (N := (some 35)) (v := ?v4) (w1 := ?w4) (by rfl) rfl ?h4 ?_
          case h4 => (go_simp; first | rfl | (constructor; rfl; rfl))
          simp only [Act.put, List.setIfInBounds_toArray, List.set_cons_zero, List.set_cons_succ]
          refine pl_copy_bools (N := some 36) (w0 := wo) (ys := m) (by rfl) rfl rfl hb8_0 (by omega) (by omega) (by rfl) (by rw [hml]; rfl) (by rw [hml]; exact HC.out) hq8_0.out ?_
          intro gn cn x8_2 hnb hb8_2
          rw [hml] at hnb ⊢
          simp only [Act.put, List.setIfInBounds_toArray, List.set_cons_zero, List.set_cons_succ]
          refine pl_held (B := wo.heap.size) (v := wo) hb8_2 (fun hHeld => ?_)
          refine pl_value (N := (some 6)) (v := ?v6) (w1 := ?w6) (by rfl) rfl ?h6 ?_
          case h6 => (go_simp; first | rfl | (constructor; rfl; rfl))
          simp only [Act.put, List.setIfInBounds_toArray, List.set_cons_zero, List.set_cons_succ]
          refine wpList_nil ?_
          have HO := Aside0.mk (below_then HB.out HB.out.size hHeld)
          have HC2 := Aside0.mk (Kd.C_below HC.out hHeld)
          have K3 := Aside0.mk (blk_below K2.out hHeld)
          have hbs := (NB.base_ hnb hn1).1
          have HNB0 := Aside0.mk hnb
          have HX8 := Aside0.mk hHeld
          clear hnb hb8_2 hb8_0 hx8_0 hs8_0 hq8_0 hHeld a2
          go_wp2
          go_loopw [7] (fun i wi => ∃ j : Nat, j ≤ g.rules.length ∧ i = .int .i64 j ∧ Aside0 (NB wi wo.heap.size gn cn n (jacG m ((hornN g).take j) m)) ∧ Aside0 (Below wo.heap.size wo wi)) (fun i _ => g.rules.length - (intOf i).toNat)
          case atStart => exact ⟨0, Nat.zero_le _, rfl, HNB0, HX8⟩
          case round =>
            clear HNB0 HX8 HO HC2 K3
            obtain ⟨j, hj, rfl, HNB, HX⟩ := hrel
            rename World => wi
            have K5 := Aside0.mk (blk_below K2.out HX.out)
            have a3 := (blk_cell K5.out 2).trans rfl
            by_cases hlt : j < g.rules.length
            · have HO := Aside0.mk (below_then HB.out HB.out.size HX.out)
              have HC2 := Aside0.mk (Kd.C_below HC.out HX.out)
              obtain ⟨ad, B1, d1, ead, hx0, hy0, hd1, hC1⟩ := at_rule HG1.out.rules j hlt
              cases ead
              have hx := pw_cell_below HO.out hx0
              have hy := pw_cell_below HO.out hy0
              clear hx0 hy0
              have hmem := HMEM.out (g.rules[j]'hlt) (List.getElem_mem _)
              have HT := Lib.hid (jacG_take (m := m) (R := hornN g) (a := m) (j := j) (by simpa [hornN] using hlt))
              obtain ⟨x, hx1⟩ : ∃ x, x = g.rules[j]'hlt := ⟨_, rfl⟩
              have hxh : (hornN g)[j]'(by simpa [hornN] using hlt) = (x.right, x.left) := by rw [hx1]; simp [hornN]
              rw [hxh] at HT
              rw [← hx1] at hx hy hd1 hC1 hmem
              clear hx1 hxh
              obtain ⟨lf, hlf⟩ := Int.eq_ofNat_of_zero_le (by omega : 0 ≤ x.left)
              have l1 : (0 : Int) ≤ (lf : Int) := by omega
              have l2 : (lf : Int) < (n : Int) := by rw [← HN.out]; omega
              have l3 : lf < n := by omega
              rw [hlf] at hx HT
              have HXS := Aside0.mk hmem.2.2.2
              have hr8 := hmem.2.2.1
              clear hmem hlf
              obtain ⟨ac, hac⟩ : ∃ ac, ac = jacG m ((hornN g).take j) m := ⟨_, rfl⟩
              rw [← hac] at HNB HT
              clear hac
              have hal : ac.length = n := (NB.len HNB.out).symm
              have i1 : (0 : Int) ≤ (j : Int) := by omega
              have i2 : (j : Int) < (g.rules.length : Int) := by omega
              have HC3 := Aside0.mk (Kd.C_below hC1 HO.out)
              clear hd1 hC1
              go_wp2
              go_loop [9, 8] (fun kv ov => ∃ k : Nat, k ≤ x.right.length ∧ kv = .int .i64 k ∧ ov = .bool (allF m (x.right.take k))) (fun kv _ => x.right.length - (intOf kv).toNat)
              case atStart => exact ⟨0, Nat.zero_le _, rfl, by simp [allF]⟩
              case round =>
                obtain ⟨k, hk, rfl, rfl⟩ := hrel
                by_cases hkl : k < x.right.length
                · obtain ⟨bd, ebd, hyk⟩ := at_int HC3.out k hkl
                  cases ebd
                  have k1 : (0 : Int) ≤ (k : Int) := by omega
                  have k2 : (k : Int) < (x.right.length : Int) := by omega
                  have HTk := Lib.hid (allF_take (m := m) hkl)
                  have hsy := HXS.out (x.right[k]'hkl) (List.getElem_mem _)
                  obtain ⟨s, hs⟩ : ∃ s, s = x.right[k]'hkl := ⟨_, rfl⟩
                  rw [← hs] at hyk HTk hsy
                  clear hs
                  obtain ⟨sn, rfl⟩ := Int.eq_ofNat_of_zero_le hsy.1
                  have s2 : (sn : Int) < (n : Int) := by rw [← HN.out]; exact hsy.2
                  have s3 : sn < m.length := by omega
                  obtain ⟨md, emd, hzk⟩ := at_bool HC2.out sn s3
                  cases emd
                  rw [add0_] at hzk
                  obtain ⟨bs, hbs2⟩ : ∃ bs, bs = m[sn]'s3 := ⟨_, rfl⟩
                  rw [← hbs2] at hzk
                  have HBS : Aside0 (getB m (sn : Int) = bs) := ⟨by rw [hbs2, getB_at s3]⟩
                  obtain ⟨ok, hok⟩ : ∃ ok, ok = allF m (x.right.take k) := ⟨_, rfl⟩
                  rw [← hok]
                  have HOK := Lib.hid hok
                  clear hbs2 hok hsy
                  cases ok
                  all_goals
                    go_wp2
                    go_round
                    case rel => exact ⟨k + 1, by omega, by go_num, by rw [HTk.out, ← HOK.out, HBS.out]; simp⟩
                    case measure => simp [intOf]; omega
                · have hke : x.right.take k = x.right := List.take_of_length_le (by omega)
                  rw [hke]
                  clear hke
                  obtain ⟨ok, hok⟩ : ∃ ok, ok = allF m x.right := ⟨_, rfl⟩
                  rw [← hok]
                  have HOK := Lib.hid hok
                  obtain ⟨nb, hnb0⟩ : ∃ nb, ac[lf]'(by rw [hal]; exact l3) = nb := ⟨_, rfl⟩
                  have NZ : Aside0 (wi.cell? ⟨gn, lf, none⟩ = some (.bool nb)) := ⟨by rw [← hnb0]; exact HNB.out.cell (by rw [hal]; exact l3)⟩
                  clear hok
                  go_upto_region 17 with (fail)
                  cases nb
                  · refine start_ (n := 21) (S := fun w' => Below wi.heap.size wi w') (ds := [20]) (lb 21 0x0) (by kernel_rfl) rfl (by kernel_rfl) (below_drew1 (Below.refl _ _)) (fun hHeld => ?_)
                    refine pure_ (i := 0) (N := (some 70)) (v := ?_) (a' := ?_) (lb 21 0x1) rfl rfl (by kernel_rfl) (fun _ _ _ h => h) (Or.inl ⟨by rfl, ?_⟩) ?_ ?_
                    rotate_left
                    · (intro w'; go_simp; with_reducible rfl)
                    rotate_left
                    · (simp only [Act.put, List.setIfInBounds_toArray, List.set_cons_zero, List.set_cons_succ]; rfl)
                    refine pure_ (i := 1) (N := (some 71)) (v := ?_) (a' := ?_) (lb 21 0x3) rfl rfl (by kernel_rfl) (fun _ _ _ h => h) (Or.inl ⟨by rfl, ?_⟩) ?_ ?_
                    rotate_left
                    · (intro w'; go_simp; with_reducible rfl)
                    rotate_left
                    · (simp only [Act.put, List.setIfInBounds_toArray, List.set_cons_zero, List.set_cons_succ]; rfl)
                    refine pure_ (i := 3) (N := (some 73)) (v := ?_) (a' := ?_) (lb 21 0xb) rfl rfl (by kernel_rfl) (fun _ _ _ h => h) (Or.inl ⟨by rfl, ?_⟩) ?_ ?_
                    rotate_left
                    · (intro w'; go_simp; with_reducible rfl)
                    rotate_left
                    · (simp only [Act.put, List.setIfInBounds_toArray, List.set_cons_zero, List.set_cons_succ]; rfl)
                    refine pure_ (i := 7) (N := (some 77)) (v := ?_) (a' := ?_) (lb 21 0x8b) rfl rfl (by kernel_rfl) (fun _ _ _ h => h) (Or.inl ⟨by rfl, ?_⟩) ?_ ?_
                    rotate_left
                    · (intro w'; go_simp; with_reducible rfl)
                    rotate_left
                    · (simp only [Act.put, List.setIfInBounds_toArray, List.set_cons_zero, List.set_cons_succ]; rfl)
                    refine pure_ (i := 8) (N := (some 78)) (v := ?_) (a' := ?_) (lb 21 0x18b) rfl rfl (by kernel_rfl) (fun _ _ _ h => h) (Or.inl ⟨by rfl, ?_⟩) ?_ ?_
                    rotate_left
                    · (intro w'; go_simp; with_reducible rfl)
                    rotate_left
                    · (simp only [Act.put, List.setIfInBounds_toArray, List.set_cons_zero, List.set_cons_succ]; rfl)
                    refine pure_ (i := 10) (N := (some 80)) (v := ?_) (a' := ?_) (lb 21 0x58b) rfl rfl (by kernel_rfl) (fun _ _ _ h => h) (Or.inl ⟨by rfl, ?_⟩) ?_ ?_
                    rotate_left
                    · (intro w'; go_simp; with_reducible rfl)
                    rotate_left
                    · (simp only [Act.put, List.setIfInBounds_toArray, List.set_cons_zero, List.set_cons_succ]; rfl)
                    refine take_ (i := 2) (N := (some 72)) (v := ?_) (a' := ?_) (lb 21 0x58f) rfl rfl (by kernel_rfl) (fun _ _ _ h => h) (Or.inl ⟨by rfl, ?_⟩) hHeld ?_ ?_
                    rotate_left
                    · (rintro w' hS; have d0 := (blk_cell (blk_below K5.out hS) 0).trans rfl; have d1 := (blk_cell (blk_below K5.out hS) 1).trans rfl; have d2 := (blk_cell (blk_below K5.out hS) 2).trans rfl; have d3 := cell_at hS hx; have d4 := cell_at hS NZ.out; go_simp; with_reducible rfl)
                    rotate_left
                    · (simp only [Act.put, List.setIfInBounds_toArray, List.set_cons_zero, List.set_cons_succ]; rfl)
                    refine pure_ (i := 4) (N := (some 74)) (v := ?_) (a' := ?_) (lb 21 0x59f) rfl rfl (by kernel_rfl) (fun _ _ _ h => h) (Or.inl ⟨by rfl, ?_⟩) ?_ ?_
                    rotate_left
                    · (intro w'; go_simp; with_reducible rfl)
                    rotate_left
                    · (simp only [Act.put, List.setIfInBounds_toArray, List.set_cons_zero, List.set_cons_succ]; rfl)
                    refine pure_ (i := 5) (N := (some 75)) (v := ?_) (a' := ?_) (lb 21 0x5bf) rfl rfl (by kernel_rfl) (fun _ _ _ h => h) (Or.inl ⟨by rfl, ?_⟩) ?_ ?_
                    rotate_left
                    · (intro w'; go_simp; with_reducible rfl)
                    rotate_left
                    · (simp only [Act.put, List.setIfInBounds_toArray, List.set_cons_zero, List.set_cons_succ]; rfl)
                    refine take_ (i := 6) (N := (some 76)) (v := ?_) (a' := ?_) (lb 21 0x5ff) rfl rfl (by kernel_rfl) (fun _ _ _ h => h) (Or.inl ⟨by rfl, ?_⟩) hHeld ?_ ?_
                    rotate_left
                    · (rintro w' hS; have d0 := (blk_cell (blk_below K5.out hS) 0).trans rfl; have d1 := (blk_cell (blk_below K5.out hS) 1).trans rfl; have d2 := (blk_cell (blk_below K5.out hS) 2).trans rfl; have d3 := cell_at hS hx; have d4 := cell_at hS NZ.out; go_simp; with_reducible rfl)
                    rotate_left
                    · (simp only [Act.put, List.setIfInBounds_toArray, List.set_cons_zero, List.set_cons_succ]; rfl)
                    refine take_ (i := 9) (N := (some 79)) (v := ?_) (a' := ?_) (lb 21 0x7ff) rfl rfl (by kernel_rfl) (fun _ _ _ h => h) (Or.inl ⟨by rfl, ?_⟩) hHeld ?_ ?_
                    rotate_left
                    · (rintro w' hS; have d0 := (blk_cell (blk_below K5.out hS) 0).trans rfl; have d1 := (blk_cell (blk_below K5.out hS) 1).trans rfl; have d2 := (blk_cell (blk_below K5.out hS) 2).trans rfl; have d3 := cell_at hS hx; have d4 := cell_at hS NZ.out; go_simp; with_reducible rfl)
                    rotate_left
                    · (simp only [Act.put, List.setIfInBounds_toArray, List.set_cons_zero, List.set_cons_succ]; rfl)
                    refine pure_ (i := 11) (N := (some 81)) (v := ?_) (a' := ?_) (lb 21 0xfff) rfl rfl (by kernel_rfl) (fun _ _ _ h => h) (Or.inl ⟨by rfl, ?_⟩) ?_ ?_
                    rotate_left
                    · (intro w'; go_simp; with_reducible rfl)
                    rotate_left
                    · (simp only [Act.put, List.setIfInBounds_toArray, List.set_cons_zero, List.set_cons_succ]; rfl)
                    refine pure_ (i := 12) (N := (some 82)) (v := ?_) (a' := ?_) (lb 21 0x1fff) rfl rfl (by kernel_rfl) (fun _ _ _ h => h) (Or.inl ⟨by rfl, ?_⟩) ?_ ?_
                    rotate_left
                    · (intro w'; go_simp; with_reducible rfl)
                    rotate_left
                    · (simp only [Act.put, List.setIfInBounds_toArray, List.set_cons_zero, List.set_cons_succ]; rfl)
                    refine take_ (i := 13) (N := (some 83)) (v := ?_) (a' := ?_) (lb 21 0x3fff) rfl rfl (by kernel_rfl) (fun _ _ _ h => h) (Or.inl ⟨by rfl, ?_⟩) hHeld ?_ ?_
                    rotate_left
                    · (rintro w' hS; have d0 := (blk_cell (blk_below K5.out hS) 0).trans rfl; have d1 := (blk_cell (blk_below K5.out hS) 1).trans rfl; have d2 := (blk_cell (blk_below K5.out hS) 2).trans rfl; have d3 := cell_at hS hx; have d4 := cell_at hS NZ.out; go_simp; with_reducible rfl)
                    rotate_left
                    · (simp only [Act.put, List.setIfInBounds_toArray, List.set_cons_zero, List.set_cons_succ]; rfl)
                    refine pure_ (i := 14) (N := (some 84)) (v := ?_) (a' := ?_) (lb 21 0x7fff) rfl rfl (by kernel_rfl) (fun _ _ _ h => h) (Or.inl ⟨by rfl, ?_⟩) ?_ ?_
                    rotate_left
                    · (intro w'; go_simp; with_reducible rfl)
                    rotate_left
                    · (simp only [Act.put, List.setIfInBounds_toArray, List.set_cons_zero, List.set_cons_succ]; rfl)
                    refine take_ (i := 15) (N := (some 85)) (v := ?_) (a' := ?_) (lb 21 0xffff) rfl rfl (by kernel_rfl) (fun _ _ _ h => h) (Or.inl ⟨by rfl, ?_⟩) hHeld ?_ ?_
                    rotate_left
                    · (rintro w' hS; have d0 := (blk_cell (blk_below K5.out hS) 0).trans rfl; have d1 := (blk_cell (blk_below K5.out hS) 1).trans rfl; have d2 := (blk_cell (blk_below K5.out hS) 2).trans rfl; have d3 := cell_at hS hx; have d4 := cell_at hS NZ.out; go_simp; with_reducible rfl)
                    rotate_left
                    · (simp only [Act.put, List.setIfInBounds_toArray, List.set_cons_zero, List.set_cons_succ]; rfl)
                    refine pure_ (i := 16) (N := (some 86)) (v := ?_) (a' := ?_) (lb 21 0x1ffff) rfl rfl (by kernel_rfl) (fun _ _ _ h => h) (Or.inl ⟨by rfl, ?_⟩) ?_ ?_
                    rotate_left
                    · (intro w'; go_simp; with_reducible rfl)
                    rotate_left
                    · (simp only [Act.put, List.setIfInBounds_toArray, List.set_cons_zero, List.set_cons_succ]; rfl)
                    refine pure_ (i := 17) (N := (some 87)) (v := ?_) (a' := ?_) (lb 21 0x3ffff) rfl rfl (by kernel_rfl) (fun _ _ _ h => h) (Or.inl ⟨by rfl, ?_⟩) ?_ ?_
                    rotate_left
                    · (intro w'; go_simp; with_reducible rfl)
                    rotate_left
                    · (simp only [Act.put, List.setIfInBounds_toArray, List.set_cons_zero, List.set_cons_succ]; rfl)
                    refine pure_ (i := 18) (N := (some 88)) (v := ?_) (a' := ?_) (lb 21 0x7ffff) rfl rfl (by kernel_rfl) (fun _ _ _ h => h) (Or.inl ⟨by rfl, ?_⟩) ?_ ?_
                    rotate_left
                    · (intro w'; go_simp; with_reducible rfl)
                    rotate_left
                    · (simp only [Act.put, List.setIfInBounds_toArray, List.set_cons_zero, List.set_cons_succ]; rfl)
                    refine pure_ (i := 19) (N := (some 89)) (v := ?_) (a' := ?_) (lb 21 0xfffff) rfl rfl (by kernel_rfl) (fun _ _ _ h => h) (Or.inl ⟨by rfl, ?_⟩) ?_ ?_
                    rotate_left
                    · (intro w'; go_simp; with_reducible rfl)
                    rotate_left
                    · (simp only [Act.put, List.setIfInBounds_toArray, List.set_cons_zero, List.set_cons_succ]; rfl)
                    refine last_ (i := 20) (N := none) (lb 21 0x1fffff) rfl rfl (by kernel_rfl) (by decide) (fun K hK => ?_)
                    (have fz := ((HNB.out.below hHeld).fz (i := lf) l3); have hz := (HNB.out.below hHeld).cell (i := lf) (by rw [hal]; exact l3); rw [hnb0] at hz)
                    refine skip_ (w1 := ?_) (by rfl) rfl ?_ ?_
                    rotate_left
                    · (go_simp; first | rfl | (constructor; rfl; rfl))
                    refine hK.out _ _ ?_
                    clear hK K
                    refine done_ (by kernel_rfl) ?_
                    have HE : Aside0 (NB (wi.drew.setCell ⟨gn, lf, none⟩ (.bool ok)) wo.heap.size gn cn n (jacG m ((hornN g).take (j + 1)) m)) := ⟨by
                      have h1 := (HNB.out.below (below_drew1 (Below.refl _ _))).set lf ok
                      rw [HT.out]
                      simp only [← HOK.out]
                      cases ok
                      · rw [set_same (by rw [hal]; exact l3) hnb0] at h1
                        rw [if_neg (by decide)]; exact h1
                      · rw [if_pos rfl]; exact h1⟩
                    have HF := Aside0.mk (below_set (HX.out.trans (below_drew1 (Below.refl _ wi))) hbs lf (.bool ok))
                    clear hnb0
                    go_wp2
                    go_roundw
                    case rel => exact ⟨j + 1, by omega, by go_num, HE, HF⟩
                    case measure => simp [intOf]; omega
                  · refine start_ (n := 21) (S := fun w' => Below wi.heap.size wi w') (ds := [20]) (lb 21 0x0) (by kernel_rfl) rfl (by kernel_rfl) (below_drew1 (Below.refl _ _)) (fun hHeld => ?_)
                    refine pure_ (i := 0) (N := (some 70)) (v := ?_) (a' := ?_) (lb 21 0x1) rfl rfl (by kernel_rfl) (fun _ _ _ h => h) (Or.inl ⟨by rfl, ?_⟩) ?_ ?_
                    rotate_left
                    · (intro w'; go_simp; with_reducible rfl)
                    rotate_left
                    · (simp only [Act.put, List.setIfInBounds_toArray, List.set_cons_zero, List.set_cons_succ]; rfl)
                    refine pure_ (i := 1) (N := (some 71)) (v := ?_) (a' := ?_) (lb 21 0x3) rfl rfl (by kernel_rfl) (fun _ _ _ h => h) (Or.inl ⟨by rfl, ?_⟩) ?_ ?_
                    rotate_left
                    · (intro w'; go_simp; with_reducible rfl)
                    rotate_left
                    · (simp only [Act.put, List.setIfInBounds_toArray, List.set_cons_zero, List.set_cons_succ]; rfl)
                    refine pure_ (i := 3) (N := (some 73)) (v := ?_) (a' := ?_) (lb 21 0xb) rfl rfl (by kernel_rfl) (fun _ _ _ h => h) (Or.inl ⟨by rfl, ?_⟩) ?_ ?_
                    rotate_left
                    · (intro w'; go_simp; with_reducible rfl)
                    rotate_left
                    · (simp only [Act.put, List.setIfInBounds_toArray, List.set_cons_zero, List.set_cons_succ]; rfl)
                    refine pure_ (i := 7) (N := (some 77)) (v := ?_) (a' := ?_) (lb 21 0x8b) rfl rfl (by kernel_rfl) (fun _ _ _ h => h) (Or.inl ⟨by rfl, ?_⟩) ?_ ?_
                    rotate_left
                    · (intro w'; go_simp; with_reducible rfl)
                    rotate_left
                    · (simp only [Act.put, List.setIfInBounds_toArray, List.set_cons_zero, List.set_cons_succ]; rfl)
                    refine pure_ (i := 8) (N := (some 78)) (v := ?_) (a' := ?_) (lb 21 0x18b) rfl rfl (by kernel_rfl) (fun _ _ _ h => h) (Or.inl ⟨by rfl, ?_⟩) ?_ ?_
                    rotate_left
                    · (intro w'; go_simp; with_reducible rfl)
                    rotate_left
                    · (simp only [Act.put, List.setIfInBounds_toArray, List.set_cons_zero, List.set_cons_succ]; rfl)
                    refine pure_ (i := 10) (N := (some 80)) (v := ?_) (a' := ?_) (lb 21 0x58b) rfl rfl (by kernel_rfl) (fun _ _ _ h => h) (Or.inl ⟨by rfl, ?_⟩) ?_ ?_
                    rotate_left
                    · (intro w'; go_simp; with_reducible rfl)
                    rotate_left
                    · (simp only [Act.put, List.setIfInBounds_toArray, List.set_cons_zero, List.set_cons_succ]; rfl)
                    refine take_ (i := 2) (N := (some 72)) (v := ?_) (a' := ?_) (lb 21 0x58f) rfl rfl (by kernel_rfl) (fun _ _ _ h => h) (Or.inl ⟨by rfl, ?_⟩) hHeld ?_ ?_
                    rotate_left
                    · (rintro w' hS; have d0 := (blk_cell (blk_below K5.out hS) 0).trans rfl; have d1 := (blk_cell (blk_below K5.out hS) 1).trans rfl; have d2 := (blk_cell (blk_below K5.out hS) 2).trans rfl; have d3 := cell_at hS hx; have d4 := cell_at hS NZ.out; go_simp; with_reducible rfl)
                    rotate_left
                    · (simp only [Act.put, List.setIfInBounds_toArray, List.set_cons_zero, List.set_cons_succ]; rfl)
                    refine pure_ (i := 4) (N := (some 74)) (v := ?_) (a' := ?_) (lb 21 0x59f) rfl rfl (by kernel_rfl) (fun _ _ _ h => h) (Or.inl ⟨by rfl, ?_⟩) ?_ ?_
                    rotate_left
                    · (intro w'; go_simp; with_reducible rfl)
                    rotate_left
                    · (simp only [Act.put, List.setIfInBounds_toArray, List.set_cons_zero, List.set_cons_succ]; rfl)
                    refine pure_ (i := 5) (N := (some 75)) (v := ?_) (a' := ?_) (lb 21 0x5bf) rfl rfl (by kernel_rfl) (fun _ _ _ h => h) (Or.inl ⟨by rfl, ?_⟩) ?_ ?_
                    rotate_left
                    · (intro w'; go_simp; with_reducible rfl)
                    rotate_left
                    · (simp only [Act.put, List.setIfInBounds_toArray, List.set_cons_zero, List.set_cons_succ]; rfl)
                    refine take_ (i := 6) (N := (some 76)) (v := ?_) (a' := ?_) (lb 21 0x5ff) rfl rfl (by kernel_rfl) (fun _ _ _ h => h) (Or.inl ⟨by rfl, ?_⟩) hHeld ?_ ?_
                    rotate_left
                    · (rintro w' hS; have d0 := (blk_cell (blk_below K5.out hS) 0).trans rfl; have d1 := (blk_cell (blk_below K5.out hS) 1).trans rfl; have d2 := (blk_cell (blk_below K5.out hS) 2).trans rfl; have d3 := cell_at hS hx; have d4 := cell_at hS NZ.out; go_simp; with_reducible rfl)
                    rotate_left
                    · (simp only [Act.put, List.setIfInBounds_toArray, List.set_cons_zero, List.set_cons_succ]; rfl)
                    refine take_ (i := 9) (N := (some 79)) (v := ?_) (a' := ?_) (lb 21 0x7ff) rfl rfl (by kernel_rfl) (fun _ _ _ h => h) (Or.inl ⟨by rfl, ?_⟩) hHeld ?_ ?_
                    rotate_left
                    · (rintro w' hS; have d0 := (blk_cell (blk_below K5.out hS) 0).trans rfl; have d1 := (blk_cell (blk_below K5.out hS) 1).trans rfl; have d2 := (blk_cell (blk_below K5.out hS) 2).trans rfl; have d3 := cell_at hS hx; have d4 := cell_at hS NZ.out; go_simp; with_reducible rfl)
                    rotate_left
                    · (simp only [Act.put, List.setIfInBounds_toArray, List.set_cons_zero, List.set_cons_succ]; rfl)
                    refine pure_ (i := 11) (N := (some 81)) (v := ?_) (a' := ?_) (lb 21 0xfff) rfl rfl (by kernel_rfl) (fun _ _ _ h => h) (Or.inl ⟨by rfl, ?_⟩) ?_ ?_
                    rotate_left
                    · (intro w'; go_simp; with_reducible rfl)
                    rotate_left
                    · (simp only [Act.put, List.setIfInBounds_toArray, List.set_cons_zero, List.set_cons_succ]; rfl)
                    refine pure_ (i := 12) (N := (some 82)) (v := ?_) (a' := ?_) (lb 21 0x1fff) rfl rfl (by kernel_rfl) (fun _ _ _ h => h) (Or.inl ⟨by rfl, ?_⟩) ?_ ?_
                    rotate_left
                    · (intro w'; go_simp; with_reducible rfl)
                    rotate_left
                    · (simp only [Act.put, List.setIfInBounds_toArray, List.set_cons_zero, List.set_cons_succ]; rfl)
                    refine take_ (i := 13) (N := (some 83)) (v := ?_) (a' := ?_) (lb 21 0x3fff) rfl rfl (by kernel_rfl) (fun _ _ _ h => h) (Or.inl ⟨by rfl, ?_⟩) hHeld ?_ ?_
                    rotate_left
                    · (rintro w' hS; have d0 := (blk_cell (blk_below K5.out hS) 0).trans rfl; have d1 := (blk_cell (blk_below K5.out hS) 1).trans rfl; have d2 := (blk_cell (blk_below K5.out hS) 2).trans rfl; have d3 := cell_at hS hx; have d4 := cell_at hS NZ.out; go_simp; with_reducible rfl)
                    rotate_left
                    · (simp only [Act.put, List.setIfInBounds_toArray, List.set_cons_zero, List.set_cons_succ]; rfl)
                    refine pure_ (i := 14) (N := (some 84)) (v := ?_) (a' := ?_) (lb 21 0x7fff) rfl rfl (by kernel_rfl) (fun _ _ _ h => h) (Or.inl ⟨by rfl, ?_⟩) ?_ ?_
                    rotate_left
                    · (intro w'; go_simp; with_reducible rfl)
                    rotate_left
                    · (simp only [Act.put, List.setIfInBounds_toArray, List.set_cons_zero, List.set_cons_succ]; rfl)
                    refine take_ (i := 15) (N := (some 85)) (v := ?_) (a' := ?_) (lb 21 0xffff) rfl rfl (by kernel_rfl) (fun _ _ _ h => h) (Or.inl ⟨by rfl, ?_⟩) hHeld ?_ ?_
                    rotate_left
                    · (rintro w' hS; have d0 := (blk_cell (blk_below K5.out hS) 0).trans rfl; have d1 := (blk_cell (blk_below K5.out hS) 1).trans rfl; have d2 := (blk_cell (blk_below K5.out hS) 2).trans rfl; have d3 := cell_at hS hx; have d4 := cell_at hS NZ.out; go_simp; with_reducible rfl)
                    rotate_left
                    · (simp only [Act.put, List.setIfInBounds_toArray, List.set_cons_zero, List.set_cons_succ]; rfl)
                    refine pure_ (i := 16) (N := (some 86)) (v := ?_) (a' := ?_) (lb 21 0x1ffff) rfl rfl (by kernel_rfl) (fun _ _ _ h => h) (Or.inl ⟨by rfl, ?_⟩) ?_ ?_
                    rotate_left
                    · (intro w'; go_simp; with_reducible rfl)
                    rotate_left
                    · (simp only [Act.put, List.setIfInBounds_toArray, List.set_cons_zero, List.set_cons_succ]; rfl)
                    refine pure_ (i := 17) (N := (some 87)) (v := undef) (a' := ?_) (lb 21 0x3ffff) rfl rfl (by kernel_rfl) (fun _ _ _ h => h) (Or.inr ⟨by rfl, rfl⟩) ?_ ?_
                    rotate_left
                    · (simp only [Act.put, List.setIfInBounds_toArray, List.set_cons_zero, List.set_cons_succ]; rfl)
                    refine pure_ (i := 18) (N := (some 88)) (v := ?_) (a' := ?_) (lb 21 0x7ffff) rfl rfl (by kernel_rfl) (fun _ _ _ h => h) (Or.inl ⟨by rfl, ?_⟩) ?_ ?_
                    rotate_left
                    · (intro w'; go_simp; with_reducible rfl)
                    rotate_left
                    · (simp only [Act.put, List.setIfInBounds_toArray, List.set_cons_zero, List.set_cons_succ]; rfl)
                    refine pure_ (i := 19) (N := (some 89)) (v := ?_) (a' := ?_) (lb 21 0xfffff) rfl rfl (by kernel_rfl) (fun _ _ _ h => h) (Or.inl ⟨by rfl, ?_⟩) ?_ ?_
                    rotate_left
                    · (intro w'; go_simp; with_reducible rfl)
                    rotate_left
                    · (simp only [Act.put, List.setIfInBounds_toArray, List.set_cons_zero, List.set_cons_succ]; rfl)
                    refine last_ (i := 20) (N := none) (lb 21 0x1fffff) rfl rfl (by kernel_rfl) (by decide) (fun K hK => ?_)
                    (have fz := ((HNB.out.below hHeld).fz (i := lf) l3); have hz := (HNB.out.below hHeld).cell (i := lf) (by rw [hal]; exact l3); rw [hnb0] at hz)
                    refine skip_ (w1 := ?_) (by rfl) rfl ?_ ?_
                    rotate_left
                    · (go_simp; first | rfl | (constructor; rfl; rfl))
                    refine hK.out _ _ ?_
                    clear hK K
                    refine done_ (by kernel_rfl) ?_
                    have HE : Aside0 (NB (wi.drew.setCell ⟨gn, lf, none⟩ (.bool true)) wo.heap.size gn cn n (jacG m ((hornN g).take (j + 1)) m)) := ⟨by
                      have h1 := (HNB.out.below (below_drew1 (Below.refl _ _))).set lf true
                      rw [HT.out]
                      simp only [← HOK.out]
                      cases ok
                      · rw [set_same (by rw [hal]; exact l3) hnb0] at h1
                        rw [if_neg (by decide)]; exact h1
                      · rw [if_pos rfl]; exact h1⟩
                    have HF := Aside0.mk (below_set (HX.out.trans (below_drew1 (Below.refl _ wi))) hbs lf (.bool true))
                    clear hnb0
                    go_wp2
                    go_roundw
                    case rel => exact ⟨j + 1, by omega, by go_num, HE, HF⟩
                    case measure => simp [intOf]; omega
            · have HE : Aside0 (jacG m ((hornN g).take j) m = iter (jac (hornN g)) (r + 1) (List.replicate n false)) := ⟨by rw [List.take_of_length_le (by simp [hornN]; omega), iter_succ, ← HM.out]; rfl⟩
              rw [HE.out] at HNB
              have HF := Aside0.mk (below_then HB.out HB.out.size HX.out)
              go_wp2
              go_roundw
              case rel => exact ⟨r + 1, gn, cn, by omega, by go_num, rfl, ⟨HNB.out.C⟩, HF⟩
              case measure => simp [intOf]; omega
        · have hE : iter (jac (hornN g)) r (List.replicate n false) = nullF g := by rw [show r = g.names.length by omega, ← HN.out]; exact jac_null HGD.out
          rw [hE] at HC
          have HG2 := Aside0.mk (HG1.out.below_ HB.out)
          have HV2 := Aside0.mk (below_then HV1.out HV1.out.size HB.out)
          clear hE
          rename World => W
          go_upto_region 19 with (fail)
          refine wp_region_lit ?_
          refine pl_held (B := W.heap.size) (v := W) (Below.refl _ _) (fun hHeld => ?_)
          refine pl_value (N := (some 91)) (v := ?v26) (w1 := ?w26) (by rfl) rfl ?h26 ?_
          case h26 => (have d0 := (blk_cell (blk_below K2.out hHeld) 0).trans rfl; have d1 := (blk_cell (blk_below K2.out hHeld) 1).trans rfl; have d2 := (blk_cell (blk_below K2.out hHeld) 2).trans rfl; go_simp; first | rfl | (constructor; rfl; rfl))
          simp only [Act.put, List.setIfInBounds_toArray, List.set_cons_zero, List.set_cons_succ]
          refine goesCL_ (N := (some 92)) Try.func30 (by kernel_rfl) rfl (by rfl) rfl rfl (ofN_n g A1 A2 A3 c1 c2 c3 _ (HG2.out.below_ hHeld) HGD.out HN.out) (by simp [Act.eval]) ?_
          rintro e x19_1 ⟨⟨b', rfl, hbb, hbs⟩, hb19_1⟩
          refine ⟨_, rfl, ?_⟩
          simp only [Act.put, List.setIfInBounds_toArray, List.set_cons_zero, List.set_cons_succ]
          refine pl_held (B := W.heap.size) (v := W) (below_then hHeld hHeld.size hb19_1) (fun hHeld => ?_)
          refine pl_value (N := (some 93)) (v := ?v28) (w1 := ?w28) (by rfl) rfl ?h28 ?_
          case h28 => (go_simp; first | rfl | (constructor; rfl; rfl))
          simp only [Act.put, List.setIfInBounds_toArray, List.set_cons_zero, List.set_cons_succ]
          refine goesCL_ (N := (some 94)) Try.func29 (by kernel_rfl) rfl (by rfl) rfl rfl (keepBools_v (some ⟨b', 0, none⟩) (some ⟨b, 0, none⟩) n c n n (nullF g) (nullF g) _ (hbb.C' (by rw [nullF_len HGD.out, HN.out]) (by omega)) (Kd.C_below HC.out hHeld) (decide_eq_true rfl)) (by simp [Act.eval]) ?_
          rintro e x19_3 ⟨rfl, hb19_3⟩
          refine ⟨_, rfl, ?_⟩
          simp only [Act.put, List.setIfInBounds_toArray, List.set_cons_zero, List.set_cons_succ]
          refine pl_held (B := W.heap.size) (v := W) (below_then hHeld hHeld.size hb19_3) (fun hHeld => ?_)
          refine pl_value (N := (some 95)) (v := ?v30) (w1 := ?w30) (by rfl) rfl ?h30 ?_
          case h30 => (go_simp; first | rfl | (constructor; rfl; rfl))
          simp only [Act.put, List.setIfInBounds_toArray, List.set_cons_zero, List.set_cons_succ]
          refine goesCL_ (N := (some 96)) Try.func28 (by kernel_rfl) rfl (by rfl) rfl rfl (wakes06_c _) (by simp [Act.eval]) ?_
          rintro e x19_5 ⟨rfl, hb19_5⟩
          refine ⟨_, rfl, ?_⟩
          simp only [Act.put, List.setIfInBounds_toArray, List.set_cons_zero, List.set_cons_succ]
          refine pl_held (B := W.heap.size) (v := W) (below_then hHeld hHeld.size hb19_5) (fun hHeld => ?_)
          refine pl_value (N := (some 97)) (v := ?v32) (w1 := ?w32) (by rfl) rfl ?h32 ?_
          case h32 => (go_simp; first | rfl | (constructor; rfl; rfl))
          simp only [Act.put, List.setIfInBounds_toArray, List.set_cons_zero, List.set_cons_succ]
          refine pl_value (N := (some 2)) (v := ?v33) (w1 := ?w33) (by rfl) rfl ?h33 ?_
          case h33 => (go_simp; first | rfl | (constructor; rfl; rfl))
          simp only [Act.put, List.setIfInBounds_toArray, List.set_cons_zero, List.set_cons_succ]
          refine wpList_nil ?_
          go_wp2
          go_ret
          exact ⟨ret_bool rfl, below_then HV2.out HV2.out.size hHeld⟩
  · refine pl_value (N := (some 12)) (v := ?v7) (w1 := ?w7) (by rfl) rfl ?h7 ?_
    case h7 => (go_simp; first | rfl | (constructor; rfl; rfl))
    simp only [Act.put, List.setIfInBounds_toArray, List.set_cons_zero, List.set_cons_succ]
    refine pl_off (N := (some 13)) (by rfl) rfl ?_
    simp only [Act.put, List.setIfInBounds_toArray, List.set_cons_zero, List.set_cons_succ]
    refine pl_off (N := (some 14)) (by rfl) rfl ?_
    simp only [Act.put, List.setIfInBounds_toArray, List.set_cons_zero, List.set_cons_succ]
    refine pl_off (N := (some 15)) (by rfl) rfl ?_
    simp only [Act.put, List.setIfInBounds_toArray, List.set_cons_zero, List.set_cons_succ]
    refine pl_value (N := (some 16)) (v := ?v11) (w1 := ?w11) (by rfl) rfl ?h11 ?_
    case h11 => (go_simp; first | rfl | (constructor; rfl; rfl))
    simp only [Act.put, List.setIfInBounds_toArray, List.set_cons_zero, List.set_cons_succ]
    refine wpList_nil ?_
    go_upto_region 2 with (fail)
    refine wp_region_lit ?_
    refine pl_held (B := v0.heap.size) (v := v0) (HX1.out) (fun hHeld => ?_)
    refine goesCL_ (N := (some 17)) Try.func28 (by kernel_rfl) rfl (by rfl) rfl rfl (wakes06_c _) (by simp [Act.eval]) ?_
    rintro e x2_0 ⟨rfl, hb2_0⟩
    refine ⟨_, rfl, ?_⟩
    simp only [Act.put, List.setIfInBounds_toArray, List.set_cons_zero, List.set_cons_succ]
    refine pl_held (B := v0.heap.size) (v := v0) (below_then hHeld hHeld.size hb2_0) (fun hHeld => ?_)
    refine pl_value (N := (some 2)) (v := ?v13) (w1 := ?w13) (by rfl) rfl ?h13 ?_
    case h13 => (go_simp; first | rfl | (constructor; rfl; rfl))
    simp only [Act.put, List.setIfInBounds_toArray, List.set_cons_zero, List.set_cons_succ]
    refine wpList_nil ?_
    go_wp2
    go_ret
    exact ⟨ret_bool rfl, below_then HB0.out HB0.out.size hHeld⟩
end Go.Proofs.Ytphmmppmhphgeaa
