/- Texts K7, K8, K9, joined: contracts of functions of the program, and plain laws; each says what it proves. -/
import Derived.Test.YtdpdbgaoaibafaaJL
import Derived.Test.YtdpdbgaoaibafaaJN
/- The contracts of the document's Sets and Of of beginnings. -/
set_option linter.unusedVariables false
set_option linter.unusedSimpArgs false
namespace Go.Proofs.Ytdpdbgaoaibafaa
open Go.RowKit Go.Proofs.YtdpdbgaoaibafaaW.PrintWords Go.Proofs.YtdpdbgaoaibafaaW.PrintLast

set_option maxRecDepth 100000 in
set_option maxHeartbeats 4000000 in
theorem listR_c (b n : Nat) (x : List Bool) (w : World) (hb : BB w b x) (hx : x.length = n) (hn : n ≤ 100) :
    Calls Try.prog 72 #[.slice (some ⟨b, 0, none⟩) n n] w fun e w' => (∃ v, e = .returned v ∧ kInt.R 3 w' w.heap.size (fun _ => True) v (membF x)) ∧ Below w.heap.size w w' := by
  have HX := Aside0.mk hb
  clear hb
  go_enter Try.func72, Try.ntmps72
  go_wp2
  go_loopw [4, 3] (fun i l wr => ∃ k : Nat, k ≤ n ∧ i = .int .i64 k ∧ Aside0 (kInt.R 3 wr w.heap.size (fun _ => True) l (membN x k)) ∧ Aside0 (Below w.heap.size w wr)) (fun i _ _ => n - (intOf i).toNat)
  case atStart => exact ⟨0, Nat.zero_le _, rfl, ⟨Kd.R_nil _ _ _ _ _⟩, ⟨Below.refl _ _⟩⟩
  case round =>
    obtain ⟨k, hk, rfl, HR, HB⟩ := hrel
    rename World => wi
    obtain ⟨Ar, cr, rfl⟩ := Kd.R_slice HR.out
    by_cases hlt : k < n
    · have i1 : (0 : Int) ≤ (k : Int) := by omega
      have i2 : (k : Int) < (n : Int) := by omega
      have HT := Lib.hid (membN_next x k)
      have HPL := Lib.hid (membN_len x k)
      obtain ⟨P, hP⟩ : ∃ P, P = membN x k := ⟨_, rfl⟩
      rw [← hP] at HR HT HPL ⊢
      clear hP
      obtain ⟨yb, hyb⟩ : ∃ c, getB x (k : Int) = c := ⟨_, rfl⟩
      have z2 := (HX.out.below HB.out).cell' (i := k) (by omega) hyb
      rw [hyb] at HT
      clear hyb
      cases yb
      · go_wp2
        go_roundw
        case rel => exact ⟨k + 1, by omega, by go_num, by rw [HT.out]; exact HR, HB⟩
        case measure => simp [intOf]; omega
      · go_wp2_with (at_builtin; refine app_int (w0 := w) (base := w.heap.size) (p := (k : Int)) rfl rfl HR.out HB.out HB.out.size (by have := HPL.out; omega) (fun _ _ => trivial) rfl (by simp [Act.eval]) ?_; intro v2 w2 A2; obtain ⟨A', c', rfl⟩ := A2.shape; have HR2 := Aside0.mk A2.row; have HB2 := Aside0.mk A2.below; clear A2)
        go_roundw
        case rel => exact ⟨k + 1, by omega, by go_num, by rw [HT.out]; exact HR2, HB2⟩
        case measure => simp [intOf]; omega
    · have hke : k = n := by omega
      have HE : Aside0 (kInt.R 3 wi w.heap.size (fun _ => True) (.slice Ar (membF x).length cr) (membF x)) := ⟨by have := HR.out; rwa [membN_all (by rw [hx]; exact hke)] at this⟩
      rw [membN_all (by rw [hx]; exact hke)]
      go_wp2
      go_ret
      exact ⟨⟨_, rfl, HE.out⟩, HB.out⟩
set_option maxRecDepth 100000 in
set_option maxHeartbeats 4000000 in
theorem setsR_no (g : Gram) (A1 A2 A3 : Option Addr) (c1 c2 c3 : Nat) (w : World) (hg : RepG w g A1 A2 A3 c1 c2 c3) (hz : Sized g) (hno : goodF g = false) :
    Calls Try.prog 32 #[.agg #[.slice A1 g.terms.length c1, .slice A2 g.names.length c2, .slice A3 g.rules.length c3]] w fun e w' => e = .returned (.slice none 0 0) ∧ Below w.heap.size w w' := by
  have HB := Aside0.mk ((Below.refl w.heap.size w).alloc (Nat.le_refl _) (.cells #[.slice A1 g.terms.length c1, .slice A2 g.names.length c2, .slice A3 g.rules.length c3] 25 (0, 0)))
  have HG := Aside0.mk (hg.below_ (below_alloc (Below.refl _ _) (.cells #[.slice A1 g.terms.length c1, .slice A2 g.names.length c2, .slice A3 g.rules.length c3] 25 (0, 0))))
  clear hg
  go_enter Try.func32, Try.ntmps32
  go_wp2_with (go_at_call 24; go_loud (refine (good1_v g A1 A2 A3 c1 c2 c3 _ HG.out hz hno).mono ?_; rintro e w1 ⟨rfl, hb1⟩))
  go_ret
  exact ⟨rfl, below_then HB.out HB.out.size hb1⟩
set_option maxRecDepth 100000 in
set_option maxHeartbeats 4000000 in
theorem setsR_yes (g : Gram) (A1 A2 A3 : Option Addr) (c1 c2 c3 : Nat) (w : World) (hg : RepG w g A1 A2 A3 c1 c2 c3) (hz : Sized g) (hgd : goodF g = true) {n : Nat} (hn : nsym g = n) :
    Calls Try.prog 32 #[.agg #[.slice A1 g.terms.length c1, .slice A2 g.names.length c2, .slice A3 g.rules.length c3]] w fun e w' => SetsEnd w (setsF g) e w' ∧ Below w.heap.size w w' := by
  obtain ⟨q1, q2, q3, q4⟩ := goodF_small hgd
  have hn80 : n ≤ 80 := by rw [← hn]; unfold nsym; omega
  have HGD := Aside0.mk hgd
  have HZ := Aside0.mk hz
  have HN := Lib.hid hn
  obtain ⟨v0, hv0⟩ : ∃ v0 : World, v0 = w.alloc (.cells #[.slice A1 g.terms.length c1, .slice A2 g.names.length c2, .slice A3 g.rules.length c3] 25 (0, 0)) := ⟨_, rfl⟩
  have HB0 : Aside0 (Below w.heap.size w v0) := ⟨by rw [hv0]; exact below_alloc (Below.refl _ _) _⟩
  have HP0 : Aside0 (v0.heap[w.heap.size]? = some (.cells #[.slice A1 g.terms.length c1, .slice A2 g.names.length c2, .slice A3 g.rules.length c3] 25 (0, 0))) := ⟨by rw [hv0]; exact blk_new w _⟩
  have HG0 := Aside0.mk (hg.below_ HB0.out)
  clear hg hgd hn hz
  go_enter Try.func32, Try.ntmps32
  go_upto_region 1 with (fail)
  simp only [← hv0]
  clear hv0
  refine pl_start ?_
  refine pl_held (B := v0.heap.size) (v := v0) (Below.refl _ _) (fun hHeld => ?_)
  refine pp_ ?_ ?_ ?_ (y := by have d0 := (blk_cell (blk_below HP0.out hHeld) 0).trans rfl; have d1 := (blk_cell (blk_below HP0.out hHeld) 1).trans rfl; have d2 := (blk_cell (blk_below HP0.out hHeld) 2).trans rfl; go_simp; rfl)
  refine goesCL_ (N := (some 7)) Try.func24 (by kernel_rfl) rfl (by rfl) rfl rfl (good1_v g A1 A2 A3 c1 c2 c3 _ (HG0.out.below_ hHeld) HZ.out HGD.out) (by simp [Act.eval]) ?_
  rintro e x1_1 ⟨rfl, hb1_1⟩
  refine ⟨_, rfl, ?_⟩
  simp only [Act.put, List.setIfInBounds_toArray, List.set_cons_zero, List.set_cons_succ]
  refine pl_held (B := v0.heap.size) (v := v0) (below_then hHeld hHeld.size hb1_1) (fun hHeld => ?_)
  refine pp_ ?_ ?_ ?_
  refine pl_nil ?_
  have HX1 := Aside0.mk hHeld
  go_upto_region 4 with (fail)
  refine pl_start ?_
  refine pl_held (B := v0.heap.size) (v := v0) (HX1.out) (fun hHeld => ?_)
  refine pp_ ?_ ?_ ?_ (y := by have d0 := (blk_cell (blk_below HP0.out hHeld) 0).trans rfl; have d1 := (blk_cell (blk_below HP0.out hHeld) 1).trans rfl; have d2 := (blk_cell (blk_below HP0.out hHeld) 2).trans rfl; go_simp; rfl)
  refine goesCL_ (N := (some 10)) Try.func70 (by kernel_rfl) rfl (by rfl) rfl rfl (tableR_c g A1 A2 A3 c1 c2 c3 _ (HG0.out.below_ hHeld) HZ.out HGD.out HN.out) (by simp [Act.eval]) ?_
  rintro e x4_1 ⟨⟨go, bs, rfl, htt, hbl⟩, hb4_1⟩
  refine ⟨_, rfl, ?_⟩
  simp only [Act.put, List.setIfInBounds_toArray, List.set_cons_zero, List.set_cons_succ]
  refine pl_held (B := v0.heap.size) (v := v0) (below_then hHeld hHeld.size hb4_1) (fun hHeld => ?_)
  refine pp_ ?_ ?_ ?_
  refine pl_nil ?_
  have HTT := Aside0.mk htt
  have HBL := Aside0.mk hbl
  have HV4 := Aside0.mk (below_then HB0.out HB0.out.size hHeld)
  clear htt hbl hHeld hb4_1 hb1_1 HX1
  go_wp2
  go_loopw [5, 3] (fun i l wr => ∃ k : Nat, k ≤ n ∧ i = .int .i64 k ∧ Aside0 (kLL.R 46 wr x4_1.heap.size (fun _ => True) l ((setsF g).take k)) ∧ Aside0 (Below x4_1.heap.size x4_1 wr)) (fun i _ _ => n - (intOf i).toNat)
  case atStart => exact ⟨0, Nat.zero_le _, rfl, ⟨Kd.R_nil _ _ _ _ _⟩, ⟨Below.refl _ _⟩⟩
  case round =>
    obtain ⟨k, hk, rfl, HR, HB⟩ := hrel
    rename World => wi
    obtain ⟨Ar, cr, rfl⟩ := Kd.R_slice HR.out
    by_cases hlt : k < n
    · have hkb : k < bs.length := by rw [HBL.out]; exact hlt
      have HT := Lib.hid (setsF_take (g := g) (k := k) (by rw [HN.out]; exact hlt))
      have hpl : ((setsF g).take k).length ≤ 80 := by rw [List.length_take]; omega
      obtain ⟨P, hP⟩ : ∃ P, P = (setsF g).take k := ⟨_, rfl⟩
      rw [← hP] at HR HT hpl ⊢
      have HPL := Aside0.mk hpl
      clear hP hpl
      have HTi := Aside0.mk (HTT.out.below HB.out)
      have d1 := HTi.out.cell k hkb
      have HRW := Aside0.mk (HTi.out.row k hkb)
      have HRL := Aside0.mk (HTi.out.rlen hkb)
      obtain ⟨bk, hbk⟩ : ∃ bk, bk = bs[k]'hkb := ⟨_, rfl⟩
      rw [← hbk] at d1 HRW
      clear hbk hkb
      have i1 : (0 : Int) ≤ (k : Int) := by omega
      have i2 : (k : Int) < (n : Int) := by omega
      go_wp2_with (first | (have hx := HL1.out; at_builtin; go_loud (refine app_ll (w0 := x4_1) (base := x4_1.heap.size) (xs := P) (p := membF (rowT (firstF g) (k : Int))) rfl rfl HR1.out HL1.out HX5.out HX5.out.size (by have := HPL.out; omega) (by simp [Act.eval]) (by simp [Act.eval]) ?_; intro v2 w2 A2; obtain ⟨A', c', rfl⟩ := A2.shape; have HR2 := Aside0.mk A2.row; have HB2 := Aside0.mk A2.below; clear A2)) | (go_at_call 72; go_loud (refine (listR_c bk g.terms.length _ _ HRW.out HRL.out (by omega)).mono ?_; rintro e w1 ⟨⟨v, rfl, hr⟩, hb1⟩; obtain ⟨Al, cl, rfl⟩ := Kd.R_slice hr; have HR1 := Aside0.mk (Kd.R_below HR.out hb1); have HL1 := Aside0.mk (Kd.R_mono (Kd.R_apartR (Kd.R_lower hr HB.out.size) HR1.out (by decide)) (fun _ h => h.2)); have HX5 := Aside0.mk (below_then HB.out HB.out.size hb1); clear hr hb1)))
      go_roundw
      case rel => exact ⟨k + 1, by omega, by go_num, by rw [HT.out]; exact HR2, HB2⟩
      case measure => simp [intOf]; omega
    · have hke : (setsF g).take k = setsF g := List.take_of_length_le (by rw [setsF_len, HN.out]; omega)
      rw [hke] at HR ⊢
      have HV := Aside0.mk (Kd.R_lower HR.out HV4.out.size)
      go_wp2
      go_ret
      exact ⟨⟨_, rfl, HV.out⟩, below_then HV4.out HV4.out.size HB.out⟩
/-! ### Of -/
def OfREnd (w : World) (L : List Int) (ok : Bool) (e : Ending) (w' : World) : Prop :=
  ∃ A c, e = .returned (.agg #[.slice A (if ok = true then L else []).length c, .bool ok]) ∧ kInt.R 3 w' w.heap.size (fun _ => True) (.slice A (if ok = true then L else []).length c) (if ok = true then L else [])
theorem results_got {tmps : Array Value} {W : World} {q : Nat} {x1 x2 : Value} (t4 : tmps.getD 4 undef = .pointer (some ⟨q, 0, none⟩)) (h : W.heap[q]? = some (.cells #[x1, x2] 52 (0, 0))) :
    (results Try.f29 tmps).run Try.prog W = .ok (.agg #[x1, x2]) W := by
  have d0 := blk_cell h 0
  have d1 := blk_cell h 1
  simp only [List.getElem?_toArray, List.getElem?_cons_zero, List.getElem?_cons_succ] at d0 d1
  simp only [Array.getD_eq_getD_getElem?] at t4
  simp [results, Try.results29, go_sem, d0, d1, t4]
set_option maxRecDepth 100000 in
set_option maxHeartbeats 8000000 in
theorem ofRF_c (g : Gram) (A1 A2 A3 : Option Addr) (c1 c2 c3 : Nat) (B : Option Addr) (d : Nat) (l : List Int) (w : World) (hg : RepG w g A1 A2 A3 c1 c2 c3) (hz : Sized g) (hs : kInt.C w B l.length l) {ok : Bool} (hok : okF g l = ok) :
    Calls Try.prog 29 #[.agg #[.slice A1 g.terms.length c1, .slice A2 g.names.length c2, .slice A3 g.rules.length c3], .slice B l.length d] w fun e w' => OfREnd w (membF (beginsF g l)) ok e w' ∧ Below w.heap.size w w' := by
  obtain ⟨v0, hv0⟩ : ∃ v0 : World, v0 = (w.alloc (.cells #[.slice A1 g.terms.length c1, .slice A2 g.names.length c2, .slice A3 g.rules.length c3] 25 (0, 0))).alloc (.cells #[.slice none 0 0, .bool false] 52 (0, 0)) := ⟨_, rfl⟩
  have HB0 : Aside0 (Below w.heap.size w v0) := ⟨by rw [hv0]; exact below_alloc (below_alloc (Below.refl _ _) _) _⟩
  have HP0 : Aside0 (v0.heap[w.heap.size]? = some (.cells #[.slice A1 g.terms.length c1, .slice A2 g.names.length c2, .slice A3 g.rules.length c3] 25 (0, 0))) := ⟨by rw [hv0]; exact blk_alloc (blk_new w _) _⟩
  have HQ0 : Aside0 (v0.heap[w.heap.size + 1]? = some (.cells #[.slice none 0 0, .bool false] 52 (0, 0))) := ⟨by rw [hv0]; exact blk_snd _ _ _⟩
  have HG0 := Aside0.mk (hg.below_ HB0.out)
  have HS0 := Aside0.mk (Kd.C_below hs HB0.out)
  have hlm := C_max hs
  have HZ := Aside0.mk hz
  have HOK := Lib.hid hok
  have hv0s : v0.heap.size = w.heap.size + 2 := by rw [hv0]; simp
  have HV0S := Lib.hid hv0s
  clear hg hs hz hok hv0s
  cases hgd : goodF g
  · have HE : Aside0 (ok = false) := ⟨by rw [← HOK.out, okF, hgd]; rfl⟩
    go_enter Try.func29, Try.ntmps29
    go_upto_region 1 with (fail)
    simp only [← hv0]
    clear hv0
    refine pl_start ?_
    refine pl_held (B := v0.heap.size) (v := v0) (Below.refl _ _) (fun hHeld => ?_)
    refine pp_ ?_ ?_ ?_ (y := by have d0 := (blk_cell (blk_below HP0.out hHeld) 0).trans rfl; have d1 := (blk_cell (blk_below HP0.out hHeld) 1).trans rfl; have d2 := (blk_cell (blk_below HP0.out hHeld) 2).trans rfl; go_simp; rfl)
    refine goesCL_ (N := (some 12)) Try.func24 (by kernel_rfl) rfl (by rfl) rfl rfl (good1_v g A1 A2 A3 c1 c2 c3 _ (HG0.out.below_ hHeld) HZ.out hgd) (by simp [Act.eval]) ?_
    rintro e x1_1 ⟨rfl, hb1_1⟩
    refine ⟨_, rfl, ?_⟩
    simp only [Act.put, List.setIfInBounds_toArray, List.set_cons_zero, List.set_cons_succ]
    refine pl_held (B := v0.heap.size) (v := v0) (below_then hHeld hHeld.size hb1_1) (fun hHeld => ?_)
    refine pp_ ?_ ?_ ?_
    refine pl_nil ?_
    have HQ1 := Aside0.mk (blk_below HQ0.out hHeld)
    have b0 := (blk_cell HQ1.out 0).trans rfl
    have b1 := (blk_cell HQ1.out 1).trans rfl
    have f0 := blk_frozen HQ1.out 0
    have f1 := blk_frozen HQ1.out 1
    go_wp2
    have hb9 := below_then HB0.out HB0.out.size hHeld
    refine bodyPost_ret (results_got rfl (blk_set (blk_set HQ1.out 0 _) 1 _)) rfl ⟨?_, below_set (below_set hb9 (Nat.le_succ _) _ _) (Nat.le_succ _) _ _⟩
    rw [HE.out]
    exact ⟨none, 0, rfl, Kd.R_nil _ _ _ _ _⟩
  obtain ⟨q1, q2, q3, q4⟩ := goodF_small hgd
  obtain ⟨n, hn⟩ : ∃ n, nsym g = n := ⟨_, rfl⟩
  have hn80 : n ≤ 80 := by rw [← hn]; unfold nsym; omega
  have HGD := Aside0.mk hgd
  have HN := Lib.hid hn
  have HNL : Aside0 ((nullF g).length = n) := ⟨by rw [nullF_len hgd, hn]⟩
  have hmf := print_make_of (P := Try.prog) 60 4 (.bool false) 1 Try.underlying60 (by kernel_rfl) rfl (by decide) g.terms.length (by omega)
  clear hn hgd
  go_enter Try.func29, Try.ntmps29
  go_upto_region 1 with (fail)
  simp only [← hv0]
  clear hv0
  refine pl_start ?_
  refine pl_held (B := v0.heap.size) (v := v0) (Below.refl _ _) (fun hHeld => ?_)
  refine pp_ ?_ ?_ ?_ (y := by have d0 := (blk_cell (blk_below HP0.out hHeld) 0).trans rfl; have d1 := (blk_cell (blk_below HP0.out hHeld) 1).trans rfl; have d2 := (blk_cell (blk_below HP0.out hHeld) 2).trans rfl; go_simp; rfl)
  refine goesCL_ (N := (some 12)) Try.func24 (by kernel_rfl) rfl (by rfl) rfl rfl (good1_v g A1 A2 A3 c1 c2 c3 _ (HG0.out.below_ hHeld) HZ.out HGD.out) (by simp [Act.eval]) ?_
  rintro e x1_1 ⟨rfl, hb1_1⟩
  refine ⟨_, rfl, ?_⟩
  simp only [Act.put, List.setIfInBounds_toArray, List.set_cons_zero, List.set_cons_succ]
  refine pl_held (B := v0.heap.size) (v := v0) (below_then hHeld hHeld.size hb1_1) (fun hHeld => ?_)
  refine pp_ ?_ ?_ ?_
  refine pl_nil ?_
  have KG1 := Aside0.mk (blk_below HP0.out hHeld)
  have HG1 := Aside0.mk (HG0.out.below_ hHeld)
  have HX1 := Aside0.mk hHeld
  clear hHeld hb1_1
  go_upto_region 3 with (fail)
  refine start_ (n := 6) (S := fun w' => Below x1_1.heap.size x1_1 w') (ds := []) (lb 6 0x0) (by kernel_rfl) rfl (by kernel_rfl) (below_drew1 (Below.refl _ _)) (fun hHeld => ?_)
  refine ta_ ?_ ?_ 0 (some 15) (lb 6 0x1) hHeld ?_ (y := by rintro w' hS; have d0 := (blk_cell (blk_below KG1.out hS) 0).trans rfl; have d1 := (blk_cell (blk_below KG1.out hS) 1).trans rfl; have d2 := (blk_cell (blk_below KG1.out hS) 2).trans rfl; go_simp; with_reducible rfl)
  refine ta_ ?_ ?_ 2 (some 17) (lb 6 0x5) hHeld ?_ (y := by rintro w' hS; have d0 := (blk_cell (blk_below KG1.out hS) 0).trans rfl; have d1 := (blk_cell (blk_below KG1.out hS) 1).trans rfl; have d2 := (blk_cell (blk_below KG1.out hS) 2).trans rfl; go_simp; with_reducible rfl)
  refine on_ 1 (some 16) (lb 6 0x7) (fun K hK => ?_)
  (refine goesC_ Try.func70 (by kernel_rfl) rfl (by rfl) rfl rfl (tableR_c g A1 A2 A3 c1 c2 c3 _ (HG1.out.below_ hHeld) HZ.out HGD.out HN.out) (by simp [Act.eval]) ?_; rintro e w9 ⟨⟨go, bs, rfl, htt, hbl⟩, hb9⟩; refine ⟨_, rfl, ?_⟩; have HQ9 := Aside0.mk (below_then hHeld hHeld.size hb9); have HTT := Aside0.mk htt; have HBL := Aside0.mk hbl; clear htt hbl; clear hb9; refine hK.out _ _ HQ9.out (fun hHeld => ?_))
  clear hK K
  refine nm_ ?_ (some 16) ?_
  refine on_ 3 (some 18) (lb 6 0xf) (fun K hK => ?_)
  (refine goesC_ Try.func71 (by kernel_rfl) rfl (by rfl) rfl rfl (ofR_n g A1 A2 A3 c1 c2 c3 _ (HG1.out.below_ hHeld) HZ.out HGD.out HN.out) (by simp [Act.eval]) ?_; rintro e w9 ⟨⟨bn, rfl, hbn, hln⟩, hb9⟩; refine ⟨_, rfl, ?_⟩; have HQ9 := Aside0.mk (below_then hHeld hHeld.size hb9); have HT9 := Aside0.mk (HTT.out.below hb9); have HNU := Aside0.mk hbn; clear hbn hln; clear hb9; refine hK.out _ _ HQ9.out (fun hHeld => ?_))
  clear hK K
  refine nm_ ?_ (some 18) ?_
  refine pu_ ?_ ?_ 4 (some 5) (lb 6 0x1f) ?_
  refine pu_ ?_ ?_ 5 (some 6) (lb 6 0x3f) ?_
  refine done_ (by kernel_rfl) ?_
  have HX9 := Aside0.mk (below_then HX1.out HX1.out.size hHeld)
  clear hHeld HTT
  rename World => w4
  have a0 := (blk_cell (blk_below HP0.out HX9.out) 0).trans rfl
  obtain ⟨b, hb⟩ : ∃ b, b = w4.heap.size := ⟨_, rfl⟩
  obtain ⟨w5, hw5⟩ : ∃ w5, w5 = w4.alloc (.cells (madeCells #[.bool false] g.terms.length) 4) := ⟨_, rfl⟩
  have HB5 : Aside0 (Below w4.heap.size w4 w5) := ⟨by rw [hw5]; exact below_alloc (Below.refl _ _) _⟩
  have HO : Aside0 (BB w5 b (List.replicate g.terms.length false)) := ⟨by rw [hw5, hb]; exact BB.new _ _⟩
  have HBQ : Aside0 (v0.heap.size ≤ b) := ⟨by rw [hb]; exact HX9.out.size⟩
  have HT5 := Aside0.mk (HT9.out.below HB5.out)
  have HN5 := Aside0.mk (HNU.out.below HB5.out)
  have HX5 := Aside0.mk (below_then HX9.out HX9.out.size HB5.out)
  have HTB : Aside0 (∀ z ∈ bs, z ≠ b) := ⟨fun z hz => by obtain ⟨i, hi, e⟩ := List.getElem_of_mem hz; have := blk_lt (HT9.out.row i hi); rw [e] at this; omega⟩
  have HNB : Aside0 (bn ≠ b) := ⟨by have := blk_lt HNU.out; omega⟩
  have HGB : Aside0 (go ≠ b ∨ bs = []) := ⟨by
    by_cases hb0 : 0 < bs.length
    · left
      have := World.block_lt_of_cell? w4 _ (HT9.out.cell 0 hb0)
      have e : (⟨go, 0, none⟩ : Addr).block = go := rfl
      rw [e] at this
      omega
    · right; exact List.eq_nil_of_length_eq_zero (by omega)⟩
  go_wp2
  rw [← hb, ← hw5]
  clear hb hw5 a0 hmf HT9 HNU
  go_loopw [9, 8] (fun iv ov wr => ∃ (i : Nat) (op : Bool) (o : List Bool), i ≤ l.length ∧ iv = .int .i64 i ∧ ov = .bool op ∧ Aside0 ((l.take i).all (inF g) = true) ∧ Aside0 (o.length = g.terms.length) ∧ Aside0 (op = true → seqF (firstF g) (nullF g) (l.drop i) o = beginsF g l) ∧ Aside0 (op = false → o = beginsF g l) ∧ Aside0 (BB wr b o) ∧ Aside0 (Upd w5 wr b)) (fun iv _ _ => l.length - (intOf iv).toNat)
  case atStart => exact ⟨0, true, _, Nat.zero_le _, rfl, rfl, ⟨by simp⟩, ⟨by simp⟩, ⟨fun _ => rfl⟩, ⟨fun h => by cases h⟩, HO, ⟨Upd.refl _ _⟩⟩
  case round =>
    clear HO
    obtain ⟨i, op, o, hi, rfl, rfl, HA, HOL, HS1, HS2, HO, HU⟩ := hrel
    rename World => wi
    have HBI := Aside0.mk (HU.out.low HX5.out HBQ.out)
    have HQI := Aside0.mk (blk_below HQ0.out HBI.out)
    have b0 := (blk_cell HQI.out 0).trans rfl
    have b1 := (blk_cell HQI.out 1).trans rfl
    have f0 := blk_frozen HQI.out 0
    have f1 := blk_frozen HQI.out 1
    by_cases hlt : i < l.length
    · obtain ⟨ad, ead, hy0⟩ := at_int HS0.out i hlt
      cases ead
      have hy := pw_cell_below HBI.out hy0
      have i1 : (0 : Int) ≤ (i : Int) := by omega
      have i2 : (i : Int) < (l.length : Int) := by omega
      have HDR := Lib.hid (List.drop_eq_getElem_cons hlt)
      have HTK := Lib.hid (List.take_succ_eq_append_getElem hlt)
      have HMEM := Aside0.mk (List.getElem_mem hlt)
      obtain ⟨x, hx⟩ : ∃ x, x = l[i]'hlt := ⟨_, rfl⟩
      rw [← hx] at hy hy0 HDR HTK HMEM
      have HY0 := Aside0.mk hy0
      clear hx hy0
      by_cases h0 : x < 0
      · have d1 : decide (x < 0) = true := by simpa using h0
        have HE : Aside0 (ok = false) := ⟨by
          rw [← HOK.out, okF, HGD.out, Bool.true_and, List.all_eq_false]
          exact ⟨x, HMEM.out, by rw [inF, decide_eq_true_eq]; omega⟩⟩
        go_wp2
        have hb9 := below_then HB0.out HB0.out.size HBI.out
        refine bodyPost_ret (results_got rfl (blk_set (blk_set HQI.out 0 _) 1 _)) rfl ⟨?_, below_set (below_set hb9 (Nat.le_succ _) _ _) (Nat.le_succ _) _ _⟩
        rw [HE.out]
        exact ⟨none, 0, rfl, Kd.R_nil _ _ _ _ _⟩
      · have d1 : decide (x < 0) = false := by simpa using h0
        by_cases h1 : (n : Int) ≤ x
        · have d2 : decide ((n : Int) ≤ x) = true := by simpa using h1
          have HE : Aside0 (ok = false) := ⟨by
            rw [← HOK.out, okF, HGD.out, Bool.true_and, List.all_eq_false]
            exact ⟨x, HMEM.out, by rw [inF, decide_eq_true_eq, HN.out]; omega⟩⟩
          go_wp2
          have hb9 := below_then HB0.out HB0.out.size HBI.out
          refine bodyPost_ret (results_got rfl (blk_set (blk_set HQI.out 0 _) 1 _)) rfl ⟨?_, below_set (below_set hb9 (Nat.le_succ _) _ _) (Nat.le_succ _) _ _⟩
          rw [HE.out]
          exact ⟨none, 0, rfl, Kd.R_nil _ _ _ _ _⟩
        · have d2 : decide ((n : Int) ≤ x) = false := by simpa using h1
          have HA2 : Aside0 ((l.take (i + 1)).all (inF g) = true) := ⟨by
            rw [HTK.out, List.all_append, HA.out]
            simp [inF, HN.out]; omega⟩
          obtain ⟨xs, rfl⟩ := Int.eq_ofNat_of_zero_le (by omega : 0 ≤ x)
          have hxn : xs < n := by omega
          have hxb : xs < bs.length := by rw [HBL.out]; exact hxn
          have i3 : (xs : Int) < (n : Int) := by omega
          have hgb : go ≠ b := by rcases HGB.out with h | h; exact h; rw [h] at hxb; simp at hxb
          have HXB := Aside0.mk hxb
          have HTI := Aside0.mk (HT5.out.other HU.out hgb (fun h => HTB.out b h rfl))
          cases op
          · have HS3 := Aside0.mk (HS2.out rfl)
            go_upto_region 11 with (fail)
            go_wp2
            go_loopw [10] (fun kv wr => kv = .int .i64 0 ∧ Aside0 (wr = wi)) (fun _ _ => 0)
            case atStart => exact ⟨rfl, ⟨rfl⟩⟩
            case round =>
              obtain ⟨rfl, HWE⟩ := hrel
              rw [HWE.out]
              by_cases ht0 : (0 : Int) < (g.terms.length : Int)
              all_goals
                go_wp2
                go_roundw
                case rel => exact ⟨i + 1, false, o, by omega, by go_num, rfl, HA2, HOL, ⟨fun h => by cases h⟩, ⟨fun _ => HS3.out⟩, HO, HU⟩
                case measure => simp [intOf]; omega
          · have HSQ := Lib.hid (HS1.out rfl)
            rw [HDR.out, seqF] at HSQ
            have HRX := Aside0.mk (HT5.out.row xs hxb)
            have HRL := Aside0.mk (HT5.out.rlen hxb)
            obtain ⟨r, hr⟩ : ∃ r, r = rowT (firstF g) (xs : Int) := ⟨_, rfl⟩
            have hbb := HTB.out _ (List.getElem_mem hxb)
            obtain ⟨br, hbr⟩ : ∃ br, br = bs[xs]'hxb := ⟨_, rfl⟩
            rw [← hbr] at HRX hbb
            rw [← hr] at HRX HRL HSQ
            have HBR := Lib.hid hbr
            have HOO := Aside0.mk (HOL.out.trans HRL.out.symm)
            have HOS : Aside0 (BB wi b (orK o r 0)) := ⟨by rw [orK_zero HOO.out]; exact HO.out⟩
            have HNX : Aside0 (xs < n) := ⟨hxn⟩
            clear hr hbr d1 d2 hxn
            go_upto_region 11 with (fail)
            go_wp2
            clear b0 b1 f0 f1 hy
            go_loopw [10] (fun kv wr => ∃ q : Nat, q ≤ g.terms.length ∧ kv = .int .i64 q ∧ Aside0 (BB wr b (orK o r q)) ∧ Aside0 (Upd w5 wr b)) (fun kv _ => g.terms.length - (intOf kv).toNat)
            case atStart => exact ⟨0, Nat.zero_le _, rfl, HOS, HU⟩
            case round =>
              clear HOS HO HBI HQI HTI
              obtain ⟨q, hq, rfl, HO, HU2⟩ := hrel
              rename World => wj
              have HBJ := Aside0.mk (HU2.out.low HX5.out HBQ.out)
              have hy := pw_cell_below HBJ.out HY0.out
              by_cases hql : q < g.terms.length
              · have j2 : (q : Int) < (g.terms.length : Int) := by omega
                have d3 := (HT5.out.other HU2.out hgb (fun h => HTB.out b h rfl)).cell xs hxb
                rw [← HBR.out] at d3
                have fz := HO.out.fz q
                obtain ⟨ob, hob⟩ : ∃ c, getB o (q : Int) = c := ⟨_, rfl⟩
                obtain ⟨rb, hrb⟩ : ∃ c, getB r (q : Int) = c := ⟨_, rfl⟩
                have z1 := HO.out.cell' (i := q) (by rw [orK_len HOO.out (by rw [HRL.out]; omega), HOL.out]; exact hql) ((orK_self HOO.out (by rw [HRL.out]; exact hql)).trans hob)
                have z2 := (HU2.out.bb HRX.out hbb).cell' (i := q) (by rw [HRL.out]; exact hql) hrb
                have HS := Aside0.mk (HO.out.set q (getB o (q : Int) || getB r (q : Int)))
                rw [orK_set HOO.out (by rw [HRL.out]; exact hql), hob, hrb] at HS
                have HUS := Aside0.mk (HU2.out.set q (.bool (ob || rb)))
                clear hob hrb
                cases ob <;> cases rb
                all_goals
                  go_wp2
                  go_roundw
                  case rel => exact ⟨q + 1, by omega, by go_num, HS, HUS⟩
                  case measure => simp [intOf]; omega
              · have hqe : q = r.length := by rw [HRL.out]; omega
                have HO2 : Aside0 (BB wj b (orF o r)) := ⟨by have := HO.out; rwa [hqe, orK_all HOO.out] at this⟩
                have HO2L : Aside0 ((orF o r).length = g.terms.length) := ⟨by rw [orF_len HOO.out]; exact HOL.out⟩
                obtain ⟨vb, hvb⟩ : ∃ c, getB (nullF g) (xs : Int) = c := ⟨_, rfl⟩
                have z4 := (HU2.out.bb HN5.out HNB.out).cell' (i := xs) (by rw [HNL.out]; exact HNX.out) hvb
                rw [hvb] at HSQ
                clear hvb hqe
                cases vb
                · simp only [Bool.false_eq_true, if_false] at HSQ
                  go_wp2
                  go_roundw
                  case rel => exact ⟨i + 1, false, orF o r, by omega, by go_num, rfl, HA2, HO2L, ⟨fun h => by cases h⟩, ⟨fun _ => HSQ.out⟩, HO2, HU2⟩
                  case measure => simp [intOf]; omega
                · simp only [if_true] at HSQ
                  go_wp2
                  go_roundw
                  case rel => exact ⟨i + 1, true, orF o r, by omega, by go_num, rfl, HA2, HO2L, ⟨fun _ => HSQ.out⟩, ⟨fun h => by cases h⟩, HO2, HU2⟩
                  case measure => simp [intOf]; omega
    · have HAL : Aside0 (l.all (inF g) = true) := ⟨by have := HA.out; rwa [List.take_of_length_le (by omega)] at this⟩
      have HE : Aside0 (ok = true) := ⟨by rw [← HOK.out, okF, HGD.out, HAL.out]; rfl⟩
      have HOE : Aside0 (BB wi b (beginsF g l)) := ⟨by
        cases op
        · rw [← HS2.out rfl]; exact HO.out
        · rw [← HS1.out rfl, List.drop_eq_nil_of_le (by omega)]; exact HO.out⟩
      have HFL : Aside0 ((beginsF g l).length = g.terms.length) := ⟨by
        cases op
        · rw [← HS2.out rfl]; exact HOL.out
        · rw [← HS1.out rfl, List.drop_eq_nil_of_le (by omega)]; exact HOL.out⟩
      clear b0 b1 f0 f1
      go_upto_region 16 with (fail)
      refine pl_start ?_
      refine pl_held (B := v0.heap.size) (v := v0) (HBI.out) (fun hHeld => ?_)
      refine pp_ ?_ ?_ ?_
      refine goesCL_ (N := (some 83)) Try.func72 (by kernel_rfl) rfl (by rfl) rfl rfl (listR_c b g.terms.length (beginsF g l) _ HOE.out HFL.out (by omega)) (by simp [Act.eval]) ?_
      rintro e x16_1 ⟨⟨v, rfl, hr⟩, hb16_1⟩
      refine ⟨_, rfl, ?_⟩
      simp only [Act.put, List.setIfInBounds_toArray, List.set_cons_zero, List.set_cons_succ]
      obtain ⟨Al, cl, rfl⟩ := Kd.R_slice hr
      have HR := Aside0.mk hr
      have HQJ := Aside0.mk (blk_below HQI.out hb16_1)
      refine pl_held (B := v0.heap.size) (v := v0) (below_then hHeld hHeld.size hb16_1) (fun hHeld => ?_)
      refine pp_ ?_ ?_ ?_
      have b0 := (blk_cell HQJ.out 0).trans rfl
      have b1 := (blk_cell HQJ.out 1).trans rfl
      have f0 := blk_frozen HQJ.out 0
      have f1 := blk_frozen HQJ.out 1
      refine pl_skip (w1 := ?w4) (by rfl) rfl ?h4 ?_
      case h4 => (go_simp; rfl)
      refine pl_nil ?_
      have hb9 := below_then HB0.out HB0.out.size hHeld
      have hwv : w.heap.size ≤ wi.heap.size := Nat.le_trans HB0.out.size HBI.out.size
      go_wp2
      refine bodyPost_ret (results_got rfl (blk_set (blk_set HQJ.out 0 _) 1 _)) rfl ⟨?_, below_set (below_set hb9 (Nat.le_succ _) _ _) (Nat.le_succ _) _ _⟩
      rw [HE.out]
      exact ⟨Al, cl, rfl, Kd.R_set (Kd.R_set (Kd.R_lower HR.out hwv) HQJ.out (by decide) 0 _) (blk_set HQJ.out 0 _) (by decide) 1 _⟩
end Go.Proofs.Ytdpdbgaoaibafaa

/- The contracts of keep.Lists, of law 08's mark and same; its wakes answer true. -/
set_option linter.unusedVariables false
set_option linter.unusedSimpArgs false
namespace Go.Proofs.Ytdpdbgaoaibafaa
open Go.RowKit Go.Proofs.YtdpdbgaoaibafaaW.PrintWords Go.Proofs.YtdpdbgaoaibafaaW.PrintLast

theorem take_eq {α : Type} {xs ys : List α} {k : Nat} (hk : k < xs.length) (hl : xs.length = ys.length) (h : xs.take k = ys.take k) (he : xs[k]'hk = ys[k]'(by omega)) : xs.take (k + 1) = ys.take (k + 1) := by
  rw [List.take_succ_eq_append_getElem hk, List.take_succ_eq_append_getElem (by omega : k < ys.length), h, he]
set_option maxRecDepth 100000 in
set_option maxHeartbeats 4000000 in
theorem keepLists_c (A B : Option Addr) (c d n m : Nat) (xs ys : List (List Int)) (w : World) (hr : kLL.C w A n xs) (hs : kLL.C w B m ys) :
    Calls Try.prog 30 #[.slice A n c, .slice B m d] w fun e w' => e = .returned (.bool (decide (xs = ys))) ∧ Below w.heap.size w w' := by
  have hn := C_len hr
  have hm' := C_len hs
  subst hn hm'
  have h1 := C_max hr
  have h2 := C_max hs
  have HR := Aside0.mk hr
  have HS := Aside0.mk hs
  clear hr hs
  by_cases hne : xs.length = ys.length
  · have HL := Aside0.mk hne
    go_enter Try.func30, Try.ntmps30
    have e1 : ((xs.length : Int) != (ys.length : Int)) = false := by simp [hne]
    go_wp2
    clear e1
    go_loopw [5] (fun i wr => ∃ k : Nat, k ≤ xs.length ∧ i = .int .i64 k ∧ Aside0 (xs.take k = ys.take k) ∧ Aside0 (Below w.heap.size w wr)) (fun i _ => xs.length - (intOf i).toNat)
    case atStart => exact ⟨0, Nat.zero_le _, rfl, ⟨by simp⟩, ⟨Below.refl _ _⟩⟩
    case round =>
      obtain ⟨k, hk, rfl, HT, HB⟩ := hrel
      rename World => wi
      by_cases hlt : k < xs.length
      · obtain ⟨ad, A1, d1, ead, hx0, hd1, hC1⟩ := at_row HR.out k hlt
        obtain ⟨bd, B1, d2, ebd, hy0, hd2, hC2⟩ := at_row HS.out k (by omega)
        cases ead
        cases ebd
        have HX := Aside0.mk (pw_cell_below HB.out hx0)
        have HY := Aside0.mk (pw_cell_below HB.out hy0)
        have HC1 := Aside0.mk (Kd.C_below hC1 HB.out)
        have HC2 := Aside0.mk (Kd.C_below hC2 HB.out)
        clear hx0 hy0 hC1 hC2 hd1 hd2
        have i1 : (0 : Int) ≤ (k : Int) := by omega
        have i2 : (k : Int) < (xs.length : Int) := by omega
        have i3 : (k : Int) < (ys.length : Int) := by omega
        by_cases he : xs[k]'hlt = ys[k]'(by omega)
        · have HE := Aside0.mk (take_eq hlt HL.out HT.out he)
          have hv : decide (xs[k]'hlt = ys[k]'(by omega)) = true := by simpa using he
          have HV := Aside0.mk hv
          clear hv he
          go_upto_region 6 with (fail)
          refine start_ (n := 10) (S := fun w' => Below wi.heap.size wi w') (ds := []) (lb 10 0x0) (by kernel_rfl) rfl (by kernel_rfl) (below_drew1 (Below.refl _ _)) (fun hHeld => ?_)
          refine pu_ ?_ ?_ 0 (some 17) (lb 10 0x1) ?_
          refine pu_ ?_ ?_ 1 (some 18) (lb 10 0x3) ?_
          refine pu_ ?_ ?_ 2 (some 19) (lb 10 0x7) ?_
          refine pu_ ?_ ?_ 4 (some 21) (lb 10 0x17) ?_
          refine pu_ ?_ ?_ 5 (some 22) (lb 10 0x37) ?_
          refine pu_ ?_ ?_ 6 (some 23) (lb 10 0x77) ?_
          refine ta_ ?_ ?_ 3 (some 20) (lb 10 0x7f) hHeld ?_ (y := by rintro w' hS; have d0 := cell_at hS HX.out; have d1 := cell_at hS HY.out; go_simp; with_reducible rfl)
          refine ta_ ?_ ?_ 7 (some 24) (lb 10 0xff) hHeld ?_ (y := by rintro w' hS; have d0 := cell_at hS HX.out; have d1 := cell_at hS HY.out; go_simp; with_reducible rfl)
          refine on_ 8 (some 25) (lb 10 0x1ff) (fun K hK => ?_)
          (refine goesC_ Try.func33 (by kernel_rfl) rfl (by rfl) rfl rfl (keepInts_v A1 B1 d1 d2 _ _ _ _ _ (Kd.C_below HC1.out hHeld) (Kd.C_below HC2.out hHeld) HV.out) (by simp [Act.eval]) ?_; rintro e w9 ⟨rfl, hb9⟩; refine ⟨_, rfl, ?_⟩; have HQ9 := Aside0.mk (below_then hHeld hHeld.size hb9); clear hb9; refine hK.out _ _ HQ9.out (fun hHeld => ?_))
          clear hK K
          refine nm_ ?_ (some 25) ?_
          refine pu_ ?_ ?_ 9 (some 26) (lb 10 0x3ff) ?_
          refine done_ (by kernel_rfl) ?_
          have HB2 := Aside0.mk (below_then HB.out HB.out.size hHeld)
          go_wp2
          go_roundw
          case rel => exact ⟨k + 1, by omega, by go_num, HE, HB2⟩
          case measure => simp [intOf]; omega
        · have HE : Aside0 (decide (xs = ys) = false) := ⟨by
            rw [decide_eq_false_iff_not]
            rintro rfl
            exact he rfl⟩
          have hv : decide (xs[k]'hlt = ys[k]'(by omega)) = false := by simpa using he
          have HV := Aside0.mk hv
          clear hv he
          go_upto_region 6 with (fail)
          refine start_ (n := 10) (S := fun w' => Below wi.heap.size wi w') (ds := []) (lb 10 0x0) (by kernel_rfl) rfl (by kernel_rfl) (below_drew1 (Below.refl _ _)) (fun hHeld => ?_)
          refine pu_ ?_ ?_ 0 (some 17) (lb 10 0x1) ?_
          refine pu_ ?_ ?_ 1 (some 18) (lb 10 0x3) ?_
          refine pu_ ?_ ?_ 2 (some 19) (lb 10 0x7) ?_
          refine pu_ ?_ ?_ 4 (some 21) (lb 10 0x17) ?_
          refine pu_ ?_ ?_ 5 (some 22) (lb 10 0x37) ?_
          refine pu_ ?_ ?_ 6 (some 23) (lb 10 0x77) ?_
          refine ta_ ?_ ?_ 3 (some 20) (lb 10 0x7f) hHeld ?_ (y := by rintro w' hS; have d0 := cell_at hS HX.out; have d1 := cell_at hS HY.out; go_simp; with_reducible rfl)
          refine ta_ ?_ ?_ 7 (some 24) (lb 10 0xff) hHeld ?_ (y := by rintro w' hS; have d0 := cell_at hS HX.out; have d1 := cell_at hS HY.out; go_simp; with_reducible rfl)
          refine on_ 8 (some 25) (lb 10 0x1ff) (fun K hK => ?_)
          (refine goesC_ Try.func33 (by kernel_rfl) rfl (by rfl) rfl rfl (keepInts_v A1 B1 d1 d2 _ _ _ _ _ (Kd.C_below HC1.out hHeld) (Kd.C_below HC2.out hHeld) HV.out) (by simp [Act.eval]) ?_; rintro e w9 ⟨rfl, hb9⟩; refine ⟨_, rfl, ?_⟩; have HQ9 := Aside0.mk (below_then hHeld hHeld.size hb9); clear hb9; refine hK.out _ _ HQ9.out (fun hHeld => ?_))
          clear hK K
          refine nm_ ?_ (some 25) ?_
          refine pu_ ?_ ?_ 9 (some 26) (lb 10 0x3ff) ?_
          refine done_ (by kernel_rfl) ?_
          go_wp2
          go_ret
          exact ⟨ret_bool HE.out.symm, below_then HB.out HB.out.size hHeld⟩
      · have HE : Aside0 (decide (xs = ys) = true) := ⟨by
          have h := HT.out
          rw [List.take_of_length_le (by omega), List.take_of_length_le (by omega)] at h
          simpa using h⟩
        go_wp2
        go_ret
        exact ⟨ret_bool HE.out.symm, HB.out⟩
  · have HE : Aside0 (decide (xs = ys) = false) := ⟨by
      rw [decide_eq_false_iff_not]
      rintro rfl
      exact hne rfl⟩
    go_enter Try.func30, Try.ntmps30
    have e1 : ((xs.length : Int) != (ys.length : Int)) = true := by simp; omega
    go_wp2
    go_ret
    exact ⟨ret_bool HE.out.symm, Below.refl _ _⟩
theorem keepLists_v (A B : Option Addr) (c d n m : Nat) (xs ys : List (List Int)) (w : World) (hr : kLL.C w A n xs) (hs : kLL.C w B m ys) {v : Bool} (hv : decide (xs = ys) = v) :
    Calls Try.prog 30 #[.slice A n c, .slice B m d] w fun e w' => e = .returned (.bool v) ∧ Below w.heap.size w w' := by
  subst hv; exact keepLists_c A B c d n m xs ys w hr hs
/-! ### mark -/
theorem R_upd {α : Type} {d : Kd α} {e : Nat} {w w' : World} {base b : Nat} {ok : Nat → Prop} {v : Value} {xs : List α} {x : List Bool} (h : d.R e w base ok v xs) (ht : ∀ q, q ∈ e :: d.E → q ≠ 4) (hb : BB w b x) (hu : Upd w w' b) : d.R e w' base ok v xs := by
  have hb' : w.heap[b]? = some (.cells (x.map Value.bool).toArray 4 (0, 0)) := hb
  exact Kd.R_mono (Kd.R_step (Kd.R_types h hb' ht) (fun k hk _ => hu.far k hk.2)) (fun _ hk => hk.1)
theorem Upd.trans {a b c : World} {p : Nat} (h : Upd a b p) (k : Upd b c p) : Upd a c p := ⟨h.below.trans k.below, fun q hq => (k.far q hq).trans (h.far q hq)⟩
set_option maxRecDepth 100000 in
set_option maxHeartbeats 4000000 in
theorem mark_c (b n : Nat) (x : List Bool) (L : Option Addr) (d m : Nat) (l : List Int) (w : World) (hb : BB w b x) (hx : x.length = n) (hn : n ≤ 100) (hl : ∀ w', Upd w w' b → kInt.C w' L m l) (hin : ∀ y ∈ l, 0 ≤ y ∧ y < (n : Int)) :
    Calls Try.prog 34 #[.slice (some ⟨b, 0, none⟩) n n, .slice L m d] w fun e w' => e = .returned (.bool true) ∧ BB w' b (setAll x l) ∧ Upd w w' b := by
  have hc0 := hl w (Upd.refl _ _)
  have hm := C_len hc0
  subst hm
  have hlm := C_max hc0
  have HL := Aside0.mk hl
  have HIN := Aside0.mk hin
  have HB0 : Aside0 (BB w b (setAll x (l.take 0))) := ⟨hb⟩
  clear hb hl hin hc0
  go_enter Try.func34, Try.ntmps34
  go_wp2
  go_loopw [5] (fun i wr => ∃ k : Nat, k ≤ l.length ∧ i = .int .i64 k ∧ Aside0 (BB wr b (setAll x (l.take k))) ∧ Aside0 (Upd w wr b)) (fun i _ => l.length - (intOf i).toNat)
  case atStart => exact ⟨0, Nat.zero_le _, rfl, HB0, ⟨Upd.refl _ _⟩⟩
  case round =>
    clear HB0
    obtain ⟨k, hk, rfl, HB, HU⟩ := hrel
    rename World => wi
    by_cases hlt : k < l.length
    · obtain ⟨ad, ead, hy⟩ := at_int (HL.out wi HU.out) k hlt
      cases ead
      have hin := HIN.out _ (List.getElem_mem hlt)
      have HT := Lib.hid (setAll_take (m := x) hlt)
      obtain ⟨y, hy1⟩ : ∃ y, y = l[k]'hlt := ⟨_, rfl⟩
      rw [← hy1] at hy hin HT
      clear hy1
      obtain ⟨ys, rfl⟩ := Int.eq_ofNat_of_zero_le hin.1
      have hyn : ys < n := by omega
      have i1 : (0 : Int) ≤ (k : Int) := by omega
      have i2 : (k : Int) < (l.length : Int) := by omega
      have i4 : (ys : Int) < (n : Int) := by omega
      obtain ⟨z, hz⟩ : ∃ z, wi.cell? ⟨b, ys, none⟩ = some (.bool z) := ⟨_, HB.out.cell (by rw [setAll_len, hx]; exact hyn)⟩
      have fz := HB.out.fz ys
      have HS := Aside0.mk (HB.out.set ys true)
      have HUS := Aside0.mk (HU.out.set ys (.bool true))
      have HE : Aside0 (setAll x (l.take (k + 1)) = (setAll x (l.take k)).set ys true) := ⟨by rw [HT.out, setB, Int.toNat_natCast]⟩
      clear hin
      go_wp2
      go_roundw
      case rel => exact ⟨k + 1, by omega, by go_num, by rw [HE.out]; exact HS, HUS⟩
      case measure => simp [intOf]; omega
    · have HE : Aside0 (BB wi b (setAll x l)) := ⟨by have := HB.out; rwa [List.take_of_length_le (by omega)] at this⟩
      go_wp2
      go_ret
      exact ⟨rfl, HE.out, HU.out⟩
/-! ### same -/
theorem membN_pre (m : List Bool) {k : Nat} (h : k ≤ m.length) : ∃ r, membF m = membN m k ++ r := by
  unfold membF membN
  rw [show m.length = k + (m.length - k) by omega, List.range_add, List.filter_append, List.map_append]
  exact ⟨_, rfl⟩
theorem same_no {m : List Bool} {l : List Int} {k a : Nat} (hk : k < m.length) (ha : a = (membN m k).length) (hp : membN m k = l.take a) (hg : getB m (k : Int) = true) (h : membF m = l) : ∃ h : a < l.length, l[a] = (k : Int) := by
  obtain ⟨r, hr⟩ := membN_pre m (k := k + 1) hk
  rw [membN_next, if_pos hg] at hr
  subst h
  have hl : a < (membF m).length := by rw [hr]; simp; omega
  refine ⟨hl, ?_⟩
  have e : (membF m)[a]? = some (k : Int) := by
    rw [hr, List.append_assoc, List.getElem?_append_right (by omega), ha]
    simp
  rw [List.getElem?_eq_getElem hl] at e
  injection e
set_option maxRecDepth 100000 in
set_option maxHeartbeats 4000000 in
theorem same_c (A L : Option Addr) (n c d m : Nat) (x : List Bool) (l : List Int) (w : World) (hb : Kd.bool.C w A n x) (hl : kInt.C w L m l) {v : Bool} (hv : decide (membF x = l) = v) :
    Calls Try.prog 35 #[.slice A n c, .slice L m d] w fun e w' => e = .returned (.bool v) ∧ Below w.heap.size w w' := by
  have hm := C_len hl
  have hn := C_len hb
  subst hm
  have hlm := C_max hl
  have hnm := C_max hb
  have HL := Aside0.mk hl
  have HX := Aside0.mk hb
  have HV := Lib.hid hv
  have HN := Aside0.mk hn
  clear hl hb hv
  go_enter Try.func35, Try.ntmps35
  go_wp2
  go_loop [6, 5] (fun i av => ∃ k a : Nat, k ≤ n ∧ i = .int .i64 k ∧ av = .int .i64 a ∧ Aside0 (a = (membN x k).length) ∧ Aside0 (a ≤ l.length) ∧ Aside0 (membN x k = l.take a)) (fun i _ => n - (intOf i).toNat)
  case atStart => exact ⟨0, 0, Nat.zero_le _, rfl, rfl, ⟨rfl⟩, ⟨Nat.zero_le _⟩, ⟨rfl⟩⟩
  case round =>
    obtain ⟨k, a, hk, rfl, rfl, HA, HAL, HP⟩ := hrel
    by_cases hlt : k < n
    · have i1 : (0 : Int) ≤ (k : Int) := by omega
      have i2 : (k : Int) < (n : Int) := by omega
      obtain ⟨ad, ead, hz⟩ := at_bool HX.out k (by rw [HN.out]; exact hlt)
      cases ead
      have HNX := Lib.hid (membN_next x k)
      have HNO := Aside0.mk (fun hg h => same_no (l := l) (by rw [HN.out]; exact hlt) HA.out HP.out hg h)
      obtain ⟨gb, hgb⟩ : ∃ c, getB x (k : Int) = c := ⟨_, rfl⟩
      rw [show x[k]'(by rw [HN.out]; exact hlt) = gb from by rw [← hgb, getB_at (by rw [HN.out]; exact hlt)]] at hz
      rw [hgb] at HNX HNO
      clear hgb
      cases gb
      · have HP2 : Aside0 (membN x (k + 1) = l.take a) := ⟨by rw [HNX.out]; exact HP.out⟩
        have HA2 : Aside0 (a = (membN x (k + 1)).length) := ⟨by rw [HNX.out]; exact HA.out⟩
        go_wp2
        go_round
        case rel => exact ⟨k + 1, a, by omega, by go_num, rfl, HA2, HAL, HP2⟩
        case measure => simp [intOf]; omega
      · by_cases hal : a < l.length
        · obtain ⟨bd, ebd, hy⟩ := at_int HL.out a hal
          cases ebd
          have d1 : decide ((l.length : Int) ≤ (a : Int)) = false := by simp; omega
          have i3 : (0 : Int) ≤ (a : Int) := by omega
          have i4 : (a : Int) < (l.length : Int) := by omega
          have HTL := Lib.hid (List.take_succ_eq_append_getElem hal)
          obtain ⟨y, hy1⟩ : ∃ y, y = l[a]'hal := ⟨_, rfl⟩
          have HY1 := Lib.hid hy1
          rw [← hy1] at hy HTL
          clear hy1
          by_cases hye : y = (k : Int)
          · subst hye
            have e2 : ((k : Int) != (k : Int)) = false := by simp
            have HP2 : Aside0 (membN x (k + 1) = l.take (a + 1)) := ⟨by rw [HNX.out, if_pos rfl, HTL.out, HP.out]⟩
            have HA2 : Aside0 (a + 1 = (membN x (k + 1)).length) := ⟨by rw [HNX.out, if_pos rfl, List.length_append, ← HA.out]; rfl⟩
            have HAL2 : Aside0 (a + 1 ≤ l.length) := ⟨hal⟩
            go_wp2
            go_round
            case rel => exact ⟨k + 1, a + 1, by omega, by go_num, by go_num, HA2, HAL2, HP2⟩
            case measure => simp [intOf]; omega
          · have e2 : (y != (k : Int)) = true := by simpa using hye
            have HE : Aside0 (v = false) := ⟨by
              rw [← HV.out, decide_eq_false_iff_not]
              intro h
              obtain ⟨_, e⟩ := HNO.out rfl h
              exact hye (by rw [HY1.out]; exact e)⟩
            go_wp2
            go_ret
            exact ⟨ret_bool HE.out.symm, Below.refl _ _⟩
        · have d1 : decide ((l.length : Int) ≤ (a : Int)) = true := by simp; omega
          have HE : Aside0 (v = false) := ⟨by
            rw [← HV.out, decide_eq_false_iff_not]
            intro h
            obtain ⟨h1, _⟩ := HNO.out rfl h
            exact hal h1⟩
          go_wp2
          go_ret
          exact ⟨ret_bool HE.out.symm, Below.refl _ _⟩
    · have hke : k = x.length := by rw [HN.out]; omega
      have HE : Aside0 (((a : Int) == (l.length : Int)) = v) := ⟨by
        rw [← HV.out, Bool.eq_iff_iff, beq_iff_eq, decide_eq_true_eq, ← membN_all hke, HP.out]
        have := HAL.out
        constructor
        · intro h
          exact List.take_of_length_le (by omega)
        · intro h
          have := congrArg List.length h
          rw [List.length_take] at this
          omega⟩
      go_wp2
      go_ret
      exact ⟨ret_bool HE.out, Below.refl _ _⟩
end Go.Proofs.Ytdpdbgaoaibafaa

/- The wakes of law 08 answer true. -/
set_option linter.unusedVariables false
set_option linter.unusedSimpArgs false
namespace Go.Proofs.Ytdpdbgaoaibafaa
open Go.RowKit Go.Proofs.YtdpdbgaoaibafaaW.PrintWords Go.Proofs.YtdpdbgaoaibafaaW.PrintLast

theorem ll_C {W : World} {b : Nat} {vs : List Value} {xs : List (List Int)} (h : W.heap[b]? = some (.cells vs.toArray 46 (0, 0))) (hl : vs.length = xs.length) (hm : xs.length ≤ 9223372036854775807)
    (he : ∀ i (h1 : i < vs.length) (h2 : i < xs.length), ∃ A c, vs[i] = .slice A xs[i].length c ∧ xs[i].length ≤ c ∧ kInt.C W A xs[i].length xs[i]) : kLL.C W (some ⟨b, 0, none⟩) xs.length xs := by
  refine ⟨rfl, hm, fun _ => ⟨⟨b, 0, none⟩, rfl, fun j p hj => ?_⟩⟩
  obtain ⟨hjl, rfl⟩ := List.getElem?_eq_some_iff.1 hj
  have hjv : j < vs.length := by omega
  obtain ⟨A, c, e1, e2, e3⟩ := he j hjv hjl
  refine ⟨[vs[j]], rfl, ⟨A, c, by rw [e1], e2, e3⟩, fun i u hu => ?_⟩
  cases i with
  | zero =>
    cases hu
    have e : (⟨b, 0, none⟩ : Addr).add (j * 1 + 0) = ⟨b, j, none⟩ := by
      unfold Addr.add
      simp
      intro hj0
      exact hj0.symm
    refine (congrArg W.cell? e).trans ((blk_cell h j).trans ?_)
    simp [hjv]
  | succ i => cases hu
def wake8S : ByteArray := ⟨#[83, 32, 61, 32, 65, 32, 39, 98, 39, 32, 59, 32, 65, 32, 61, 32, 39, 97, 39, 32, 124, 32, 59]⟩
def wake8G : Gram := ⟨[⟨#[98]⟩, ⟨#[97]⟩], [⟨#[83]⟩, ⟨#[65]⟩], [⟨2, [3, 0]⟩, ⟨3, [1]⟩, ⟨3, []⟩]⟩
def wake8T : Tab := [[true, false], [false, true], [true, true], [false, true]]
theorem wake8_of : ofF wake8S = .ok wake8G := by kernel_rfl
theorem wake8_good : goodF wake8G = true := by kernel_rfl
theorem wake8_null : nullF wake8G = [false, false, false, true] := by kernel_rfl
theorem wake8_first : firstF wake8G = wake8T := by
  refine (IsFst.eq ⟨⟨rfl, by decide⟩, fun s t h => ?_, fun t h => ?_, ?_⟩).symm
  · have hd := ShT.dom (n := 4) (m := 2) (M := wake8T) ⟨rfl, by decide⟩ h
    have h0 : Fst wake8G (nullF wake8G) 0 0 := .term ⟨by omega, by decide⟩
    have h1 : Fst wake8G (nullF wake8G) 1 1 := .term ⟨by omega, by decide⟩
    have h31 : Fst wake8G (nullF wake8G) 3 1 := .step (r := ⟨3, [1]⟩) (x := 1) (by simp [wake8G]) (by rw [wake8_null]; decide) h1
    have h20 : Fst wake8G (nullF wake8G) 2 0 := .step (r := ⟨2, [3, 0]⟩) (x := 0) (by simp [wake8G]) (by rw [wake8_null]; decide) h0
    have h21 : Fst wake8G (nullF wake8G) 2 1 := .step (r := ⟨2, [3, 0]⟩) (x := 3) (by simp [wake8G]) (by rw [wake8_null]; decide) h31
    rcases (by omega : s = 0 ∨ s = 1 ∨ s = 2 ∨ s = 3) with rfl | rfl | rfl | rfl <;> rcases (by omega : t = 0 ∨ t = 1) with rfl | rfl
    all_goals first | assumption | exact absurd h (by decide)
  · have h2 : t < 2 := h.2
    have h3 := h.1
    rcases (by omega : t = 0 ∨ t = 1) with rfl | rfl <;> decide
  · rw [wake8_null]
    intro r hr x hx t ht
    have hd := ShT.dom (n := 4) (m := 2) (M := wake8T) ⟨rfl, by decide⟩ ht
    simp only [wake8G, List.mem_cons, List.not_mem_nil, or_false] at hr
    rcases hr with rfl | rfl | rfl
    · rcases (by simpa [heads, getB] using hx : x = 3 ∨ x = 0) with rfl | rfl <;> rcases (by omega : t = 0 ∨ t = 1) with rfl | rfl <;> first | decide | exact absurd ht (by decide)
    · have hx1 : x = 1 := by simpa [heads, getB] using hx
      subst hx1
      rcases (by omega : t = 0 ∨ t = 1) with rfl | rfl <;> first | decide | exact absurd ht (by decide)
    · cases hx
theorem wake8_sets : setsF wake8G = [[0], [1], [0, 1], [1]] := by rw [setsF, wake8_first]; decide
theorem wake8_b1 : membF (beginsF wake8G [3, 0]) = [0, 1] := by rw [beginsF, wake8_first, wake8_null]; decide
theorem wake8_b2 : membF (beginsF wake8G []) = [] := by rw [beginsF]; decide
theorem wake8_o1 : okF wake8G [3, 0] = true := by kernel_rfl
theorem wake8_o2 : okF wake8G [] = true := by kernel_rfl
theorem wake8_o3 : okF wake8G [9] = false := by kernel_rfl
set_option maxRecDepth 100000 in
set_option maxHeartbeats 8000000 in
theorem wakes08_c (w : World) : Calls Try.prog 27 #[] w fun e w' => e = .returned (.bool true) ∧ Below w.heap.size w w' := by
  obtain ⟨wg, hwg⟩ : ∃ g, g = wake8G := ⟨_, rfl⟩
  have HOF : Aside0 (ofF wake8S = .ok wg) := ⟨by rw [hwg]; exact wake8_of⟩
  have HGD : Aside0 (goodF wg = true) := ⟨by rw [hwg]; exact wake8_good⟩
  have HS : Aside0 (setsF wg = [[0], [1], [0, 1], [1]]) := ⟨by rw [hwg]; exact wake8_sets⟩
  have HM1 : Aside0 (membF (beginsF wg [3, 0]) = [0, 1]) := ⟨by rw [hwg]; exact wake8_b1⟩
  have HM2 : Aside0 (membF (beginsF wg []) = []) := ⟨by rw [hwg]; exact wake8_b2⟩
  have H1 : Aside0 (okF wg [3, 0] = true) := ⟨by rw [hwg]; exact wake8_o1⟩
  have H2 : Aside0 (okF wg [] = true) := ⟨by rw [hwg]; exact wake8_o2⟩
  have H3 : Aside0 (okF wg [9] = false) := ⟨by rw [hwg]; exact wake8_o3⟩
  have HN : Aside0 (nsym wg = 4) := ⟨by rw [hwg]; rfl⟩
  clear hwg
  go_enter Try.func27, Try.ntmps27
  go_upto_region 2 with (go_at_call 23; go_loud (refine (of_ok HOF.out w).mono ?_; rintro e w1 ⟨⟨A1, A2, A3, c1, c2, c3, rfl, hg1⟩, hb1⟩; have HB1 := Aside0.mk hb1; have HG1 := Aside0.mk hg1; clear hg1 hb1))
  obtain ⟨v, hv⟩ : ∃ v, v = (w1.alloc (.cells #[.slice A1 wg.terms.length c1, .slice A2 wg.names.length c2, .slice A3 wg.rules.length c3] 25 (0, 0))).alloc (.cells #[.int .i64 0, .int .i64 0] 42 (0, 0)) := ⟨_, rfl⟩
  have K1 : Aside0 (v.heap[w1.heap.size]? = some (.cells #[.slice A1 wg.terms.length c1, .slice A2 wg.names.length c2, .slice A3 wg.rules.length c3] 25 (0, 0))) := ⟨by rw [hv]; exact blk_alloc (blk_new w1 _) _⟩
  have K2 : Aside0 (v.heap[w1.heap.size + 1]? = some (.cells #[.int .i64 0, .int .i64 0] 42 (0, 0))) := ⟨by rw [hv]; exact blk_snd w1 _ _⟩
  have HG : Aside0 (RepG v wg A1 A2 A3 c1 c2 c3) := ⟨by rw [hv]; exact HG1.out.below_ (below_alloc (below_alloc (Below.refl _ _) _) _)⟩
  have HB : Aside0 (Below w.heap.size w v) := ⟨by rw [hv]; exact (HB1.out.alloc HB1.out.size _).alloc (by simp; have := HB1.out.size; omega) _⟩
  simp only [← hv]
  clear hv HG1 HB1
  refine pl_start ?_
  refine pl_held (B := v.heap.size) (v := v) (Below.refl _ _) (fun hHeld => ?_)
  refine pp_ ?_ ?_ ?_ (y := by have d0 := (blk_cell (blk_below K1.out hHeld) 0).trans rfl; have d1 := (blk_cell (blk_below K1.out hHeld) 1).trans rfl; have d2 := (blk_cell (blk_below K1.out hHeld) 2).trans rfl; go_simp; rfl)
  refine goesCL_ (N := (some 15)) Try.func31 (by kernel_rfl) rfl (by rfl) rfl rfl (sets_yes wg A1 A2 A3 c1 c2 c3 _ (HG.out.below_ hHeld) HGD.out HN.out) (by simp [Act.eval]) ?_
  rintro e x2_1 ⟨⟨vs, rfl, hvs⟩, hb2_1⟩
  refine ⟨_, rfl, ?_⟩
  simp only [Act.put, List.setIfInBounds_toArray, List.set_cons_zero, List.set_cons_succ]
  obtain ⟨As, cs, rfl⟩ := Kd.R_slice hvs
  have HLS := Aside0.mk (Kd.R_reads' hvs).2.2
  refine pl_held (B := v.heap.size) (v := v) (below_then hHeld hHeld.size hb2_1) (fun hHeld => ?_)
  refine pp_ ?_ ?_ ?_
  refine pl_nil ?_
  go_upto_region 3 with (fail)
  refine pl_start ?_
  refine pl_held (B := v.heap.size) (v := v) (hHeld) (fun hHeld => ?_)
  refine pp_ ?_ ?_ ?_ (y := by have d0 := (blk_cell (blk_below K1.out hHeld) 0).trans rfl; have d1 := (blk_cell (blk_below K1.out hHeld) 1).trans rfl; have d2 := (blk_cell (blk_below K1.out hHeld) 2).trans rfl; go_simp; rfl)
  refine pl_alloc (N := (some 18)) (v := ?v40) (o := ?o40) (by rfl) rfl ?h40 ?_
  case h40 => (go_simp; first | rfl | (constructor; rfl; rfl))
  intro x3_1 hb3_1 hx3_1 hs3_1 hq3_1
  simp only [Act.put, List.setIfInBounds_toArray, List.set_cons_zero, List.set_cons_succ]
  refine pl_held (B := v.heap.size) (v := v) (below_then hHeld hHeld.size hb3_1) (fun hHeld => ?_)
  refine goesCL_ (N := (some 19)) Try.func28 (by kernel_rfl) rfl (by rfl) rfl rfl (ofF_c wg A1 A2 A3 c1 c2 c3 (some ⟨x2_1.heap.size, 0, none⟩) 2 [3, 0] _ (HG.out.below_ hHeld) (ints_C hx3_1 (by decide)) (by decide) H1.out) (by simp [Act.eval]) ?_
  rintro e x3_2 ⟨⟨Aa, ca, rfl, ha⟩, hb3_2⟩
  refine ⟨_, rfl, ?_⟩
  simp only [Act.put, List.setIfInBounds_toArray, List.set_cons_zero, List.set_cons_succ]
  have HLA := Aside0.mk (Kd.R_reads' ha).2.2
  refine pl_held (B := v.heap.size) (v := v) (below_then hHeld hHeld.size hb3_2) (fun hHeld => ?_)
  refine pp_ ?_ ?_ ?_
  refine pp_ ?_ ?_ ?_
  refine pp_ ?_ ?_ ?_
  refine pp_ ?_ ?_ ?_
  refine pp_ ?_ ?_ ?_
  refine pl_nil ?_
  go_upto_region 4 with (fail)
  refine pl_start ?_
  refine pl_held (B := v.heap.size) (v := v) (hHeld) (fun hHeld => ?_)
  refine pp_ ?_ ?_ ?_ (y := by have d0 := (blk_cell (blk_below K1.out hHeld) 0).trans rfl; have d1 := (blk_cell (blk_below K1.out hHeld) 1).trans rfl; have d2 := (blk_cell (blk_below K1.out hHeld) 2).trans rfl; go_simp; rfl)
  refine goesCL_ (N := (some 24)) Try.func28 (by kernel_rfl) rfl (by rfl) rfl rfl (ofF_c wg A1 A2 A3 c1 c2 c3 none 0 [] _ (HG.out.below_ hHeld) (C_none _ _) (by decide) H2.out) (by simp [Act.eval]) ?_
  rintro e x4_1 ⟨⟨Ab, cb, rfl, hbb⟩, hb4_1⟩
  refine ⟨_, rfl, ?_⟩
  simp only [Act.put, List.setIfInBounds_toArray, List.set_cons_zero, List.set_cons_succ]
  refine pl_held (B := v.heap.size) (v := v) (below_then hHeld hHeld.size hb4_1) (fun hHeld => ?_)
  refine pp_ ?_ ?_ ?_
  refine pp_ ?_ ?_ ?_
  refine pp_ ?_ ?_ ?_
  refine pp_ ?_ ?_ ?_
  refine pp_ ?_ ?_ ?_
  refine pl_nil ?_
  go_upto_region 5 with (fail)
  refine pl_start ?_
  refine pl_held (B := v.heap.size) (v := v) (hHeld) (fun hHeld => ?_)
  refine pp_ ?_ ?_ ?_ (y := by have d0 := (blk_cell (blk_below K1.out hHeld) 0).trans rfl; have d1 := (blk_cell (blk_below K1.out hHeld) 1).trans rfl; have d2 := (blk_cell (blk_below K1.out hHeld) 2).trans rfl; go_simp; rfl)
  refine pl_alloc (N := (some 29)) (v := ?v55) (o := ?o55) (by rfl) rfl ?h55 ?_
  case h55 => (go_simp; first | rfl | (constructor; rfl; rfl))
  intro x5_1 hb5_1 hx5_1 hs5_1 hq5_1
  simp only [Act.put, List.setIfInBounds_toArray, List.set_cons_zero, List.set_cons_succ]
  refine pl_held (B := v.heap.size) (v := v) (below_then hHeld hHeld.size hb5_1) (fun hHeld => ?_)
  refine goesCL_ (N := (some 30)) Try.func28 (by kernel_rfl) rfl (by rfl) rfl rfl (ofF_c wg A1 A2 A3 c1 c2 c3 (some ⟨x4_1.heap.size, 0, none⟩) 1 [9] _ (HG.out.below_ hHeld) (ints_C hx5_1 (by decide)) (by decide) H3.out) (by simp [Act.eval]) ?_
  rintro e x5_2 ⟨⟨Ac, cc, rfl, hc⟩, hb5_2⟩
  refine ⟨_, rfl, ?_⟩
  simp only [Act.put, List.setIfInBounds_toArray, List.set_cons_zero, List.set_cons_succ]
  refine pl_held (B := v.heap.size) (v := v) (below_then hHeld hHeld.size hb5_2) (fun hHeld => ?_)
  refine pp_ ?_ ?_ ?_
  refine pp_ ?_ ?_ ?_
  refine pp_ ?_ ?_ ?_
  refine pp_ ?_ ?_ ?_
  refine pp_ ?_ ?_ ?_
  refine pl_nil ?_
  go_upto_region 6 with (fail)
  have HL5 := Aside0.mk (Kd.C_below (Kd.C_below (Kd.C_below (Kd.C_below (Kd.C_below HLS.out hb3_1) hb3_2) hb4_1) hb5_1) hb5_2)
  have HA5 := Aside0.mk (Kd.C_below (Kd.C_below (Kd.C_below HLA.out hb4_1) hb5_1) hb5_2)
  have K5 := Aside0.mk (blk_below K2.out hHeld)
  have HB5 := Aside0.mk (below_then HB.out HB.out.size hHeld)
  have hb0 : (membF (beginsF wg [])).length = 0 := by rw [HM2.out]; rfl
  simp only [hb0]
  clear hHeld hb3_1 hb3_2 hb4_1 hb5_1 hb5_2 hb2_1 hvs ha hbb hc hx3_1 hx5_1 hb0
  refine pl_start ?_
  refine pl_held (B := x5_2.heap.size) (v := x5_2) (Below.refl _ _) (fun hHeld => ?_)
  refine pp_ ?_ ?_ ?_
  refine pp_ ?_ ?_ ?_ (y := by have d0 := (blk_cell (blk_below K5.out hHeld) 0).trans rfl; have d1 := (blk_cell (blk_below K5.out hHeld) 1).trans rfl; go_simp; rfl)
  refine pp_ ?_ ?_ ?_
  refine pp_ ?_ ?_ ?_
  refine pp_ ?_ ?_ ?_
  refine pl_alloc (N := (some 38)) (v := ?v6) (o := ?o6) (by rfl) rfl ?h6 ?_
  case h6 => (go_simp; first | rfl | (constructor; rfl; rfl))
  intro x6_5 hb6_5 hx6_5 hs6_5 hq6_5
  simp only [Act.put, List.setIfInBounds_toArray, List.set_cons_zero, List.set_cons_succ]
  refine pl_held (B := x5_2.heap.size) (v := x5_2) (below_then hHeld hHeld.size hb6_5) (fun hHeld => ?_)
  refine pl_alloc (N := (some 39)) (v := ?v7) (o := ?o7) (by rfl) rfl ?h7 ?_
  case h7 => (go_simp; first | rfl | (constructor; rfl; rfl))
  intro x6_6 hb6_6 hx6_6 hs6_6 hq6_6
  simp only [Act.put, List.setIfInBounds_toArray, List.set_cons_zero, List.set_cons_succ]
  refine pl_held (B := x5_2.heap.size) (v := x5_2) (below_then hHeld hHeld.size hb6_6) (fun hHeld => ?_)
  refine pl_alloc (N := (some 40)) (v := ?v8) (o := ?o8) (by rfl) rfl ?h8 ?_
  case h8 => (go_simp; first | rfl | (constructor; rfl; rfl))
  intro x6_7 hb6_7 hx6_7 hs6_7 hq6_7
  simp only [Act.put, List.setIfInBounds_toArray, List.set_cons_zero, List.set_cons_succ]
  refine pl_held (B := x5_2.heap.size) (v := x5_2) (below_then hHeld hHeld.size hb6_7) (fun hHeld => ?_)
  refine pl_alloc (N := (some 41)) (v := ?v9) (o := ?o9) (by rfl) rfl ?h9 ?_
  case h9 => (go_simp; first | rfl | (constructor; rfl; rfl))
  intro x6_8 hb6_8 hx6_8 hs6_8 hq6_8
  simp only [Act.put, List.setIfInBounds_toArray, List.set_cons_zero, List.set_cons_succ]
  refine pl_held (B := x5_2.heap.size) (v := x5_2) (below_then hHeld hHeld.size hb6_8) (fun hHeld => ?_)
  refine pl_alloc (N := (some 42)) (v := ?v10) (o := ?o10) (by rfl) rfl ?h10 ?_
  case h10 => (go_simp; first | rfl | (constructor; rfl; rfl))
  intro x6_9 hb6_9 hx6_9 hs6_9 hq6_9
  simp only [Act.put, List.setIfInBounds_toArray, List.set_cons_zero, List.set_cons_succ]
  have hy6 := hx6_6; rw [hs6_5] at hy6; have hy7 := hx6_7; rw [hs6_6, hs6_5] at hy7; have hy8 := hx6_8; rw [hs6_7, hs6_6, hs6_5] at hy8; have hy9 := hx6_9; rw [hs6_8, hs6_7, hs6_6, hs6_5] at hy9; have HLL := Aside0.mk (ll_C (vs := [.slice (some ⟨x5_2.heap.size, 0, none⟩) 1 1, .slice (some ⟨x5_2.heap.size + 1, 0, none⟩) 1 1, .slice (some ⟨x5_2.heap.size + 1 + 1, 0, none⟩) 2 2, .slice (some ⟨x5_2.heap.size + 1 + 1 + 1, 0, none⟩) 1 1]) (xs := [[0], [1], [0, 1], [1]]) hy9 rfl (by decide) (fun i h1 h2 => match i, h2 with|0, _ => ⟨_, _, rfl, Nat.le_refl _, Kd.C_below (Kd.C_below (Kd.C_below (Kd.C_below (ints_C (xs := [0]) hx6_5 (by decide)) hb6_6) hb6_7) hb6_8) hb6_9⟩|1, _ => ⟨_, _, rfl, Nat.le_refl _, Kd.C_below (Kd.C_below (Kd.C_below (ints_C (xs := [1]) hy6 (by decide)) hb6_7) hb6_8) hb6_9⟩|2, _ => ⟨_, _, rfl, Nat.le_refl _, Kd.C_below (Kd.C_below (ints_C (xs := [0, 1]) hy7 (by decide)) hb6_8) hb6_9⟩|3, _ => ⟨_, _, rfl, Nat.le_refl _, Kd.C_below (ints_C (xs := [1]) hy8 (by decide)) hb6_9⟩))
  refine pl_held (B := x5_2.heap.size) (v := x5_2) (below_then hHeld hHeld.size hb6_9) (fun hHeld => ?_)
  refine goesCL_ (N := (some 43)) Try.func30 (by kernel_rfl) rfl (by rfl) rfl rfl (keepLists_v As (some ⟨x5_2.heap.size + 1 + 1 + 1 + 1, 0, none⟩) cs 4 (setsF wg).length 4 (setsF wg) [[0], [1], [0, 1], [1]] _ (Kd.C_below HL5.out hHeld) HLL.out (decide_eq_true HS.out)) (by simp [Act.eval]) ?_
  rintro e x6_10 ⟨rfl, hb6_10⟩
  refine ⟨_, rfl, ?_⟩
  simp only [Act.put, List.setIfInBounds_toArray, List.set_cons_zero, List.set_cons_succ]
  refine pl_held (B := x5_2.heap.size) (v := x5_2) (below_then hHeld hHeld.size hb6_10) (fun hHeld => ?_)
  refine pp_ ?_ ?_ ?_
  refine pp_ ?_ ?_ ?_
  refine pp_ ?_ ?_ ?_
  refine pp_ ?_ ?_ ?_
  refine pp_ ?_ ?_ ?_
  refine pp_ ?_ ?_ ?_
  refine pp_ ?_ ?_ ?_
  refine pl_alloc (N := (some 51)) (v := ?v19) (o := ?o19) (by rfl) rfl ?h19 ?_
  case h19 => (go_simp; first | rfl | (constructor; rfl; rfl))
  intro x6_18 hb6_18 hx6_18 hs6_18 hq6_18
  simp only [Act.put, List.setIfInBounds_toArray, List.set_cons_zero, List.set_cons_succ]
  refine pl_held (B := x5_2.heap.size) (v := x5_2) (below_then hHeld hHeld.size hb6_18) (fun hHeld => ?_)
  refine goesCL_ (N := (some 52)) Try.func33 (by kernel_rfl) rfl (by rfl) rfl rfl (keepInts_v Aa (some ⟨x6_10.heap.size, 0, none⟩) ca 2 (membF (beginsF wg [3, 0])).length 2 (membF (beginsF wg [3, 0])) [0, 1] _ (Kd.C_below HA5.out hHeld) (ints_C hx6_18 (by decide)) (decide_eq_true HM1.out)) (by simp [Act.eval]) ?_
  rintro e x6_19 ⟨rfl, hb6_19⟩
  refine ⟨_, rfl, ?_⟩
  simp only [Act.put, List.setIfInBounds_toArray, List.set_cons_zero, List.set_cons_succ]
  refine pl_held (B := x5_2.heap.size) (v := x5_2) (below_then hHeld hHeld.size hb6_19) (fun hHeld => ?_)
  refine pp_ ?_ ?_ ?_
  refine pp_ ?_ ?_ ?_
  refine pp_ ?_ ?_ ?_
  refine pp_ ?_ ?_ ?_
  refine pp_ ?_ ?_ ?_
  refine pp_ ?_ ?_ ?_
  refine pp_ ?_ ?_ ?_
  refine pp_ ?_ ?_ ?_
  refine pp_ ?_ ?_ ?_
  refine pp_ ?_ ?_ ?_
  refine pp_ ?_ ?_ ?_
  refine pp_ ?_ ?_ ?_
  refine pp_ ?_ ?_ ?_
  refine pp_ ?_ ?_ ?_
  refine pp_ ?_ ?_ ?_
  refine pl_nil ?_
  go_wp2
  go_ret
  exact ⟨ret_bool rfl, below_then HB5.out HB5.out.size hHeld⟩
end Go.Proofs.Ytdpdbgaoaibafaa
