/- The contract of the question whether a grammar may be. -/
import Derived.Test.YtphmmppmhphgeaaB4
import Derived.Test.YtphmmppmhphgeaaWa
set_option linter.unusedVariables false
set_option linter.unusedSimpArgs false
namespace Go.Proofs.Ytphmmppmhphgeaa
open Go.RowKit Go.Proofs.YtphmmppmhphgeaaW.PrintWords

def nameOk (s : ByteArray) : Bool := isNameF (bsl s)
def termOk (s : ByteArray) : Bool := isTermF (bsl s)
def ruledF (g : Gram) : Bool := decide (1 ≤ g.rules.length) && decide (g.rules.length ≤ 60) && rulF g.terms.length (g.terms.length + g.names.length) [] g.rules
def leftsF (l : List Rule) : List Int := l.map (·.left)
def termsF (g : Gram) (l : List Rule) : List Int := l.flatMap fun r => r.right.filter (termF g)
def namesOk (g : Gram) : Bool := distF nameOk [] g.names && decide ((1 : Int) ≤ g.names.length) && decide ((g.names.length : Int) ≤ 40)
def termsOk (g : Gram) : Bool := distF termOk [] g.terms && decide ((0 : Int) ≤ g.terms.length) && decide ((g.terms.length : Int) ≤ 40)
def goodF (g : Gram) : Bool :=
  namesOk g && termsOk g && ruledF g && risF (g.terms.length + g.names.length) (leftsF g.rules) g.terms.length && risF g.terms.length (termsF g g.rules) 0
theorem rulF_mem {t all : Int} {seen l : List Rule} (h : rulF t all seen l = true) : ∀ r ∈ l, ¬ r.left < t ∧ r.left < all ∧ r.right.length ≤ 8 ∧ ∀ s ∈ r.right, 0 ≤ s ∧ s < all := by
  induction l generalizing seen with
  | nil => intro r hr; cases hr
  | cons a l ih =>
    rw [rulF] at h
    split at h
    · cases h
    · rename_i h1
      split at h
      · cases h
      · rename_i h2
        intro r hr
        rcases List.mem_cons.1 hr with rfl | hr
        · refine ⟨fun h => h1 (.inl h), ?_, ?_, fun s hs => ?_⟩
          · have := fun h => h1 (.inr (.inl h)); omega
          · have := fun h => h1 (.inr (.inr (.inl h))); omega
          · have h3 : ¬ symB all s = true := fun h => h2 (List.any_eq_true.2 ⟨s, hs, h⟩)
            simp [symB] at h3
            omega
        · exact ih h r hr
theorem termsF_len (g : Gram) (l : List Rule) (h : ∀ r ∈ l, r.right.length ≤ 8) : (termsF g l).length ≤ 8 * l.length := by
  induction l with
  | nil => simp [termsF]
  | cons a l ih =>
    have h1 := ih (fun r hr => h r (List.mem_cons_of_mem _ hr))
    have h2 := h a List.mem_cons_self
    have h3 := List.length_filter_le (termF g) a.right
    simp only [termsF, List.flatMap_cons, List.length_append, List.length_cons] at h1 ⊢
    omega

theorem small_names {g : Gram} (h : namesOk g = true) : g.names.length ≤ 40 ∧ 1 ≤ g.names.length := by
  unfold namesOk at h
  rw [Bool.and_eq_true, Bool.and_eq_true] at h
  have h1 := of_decide_eq_true h.1.2
  have h2 := of_decide_eq_true h.2
  omega
theorem small_terms {g : Gram} (h : termsOk g = true) : g.terms.length ≤ 40 := by
  unfold termsOk at h
  rw [Bool.and_eq_true, Bool.and_eq_true] at h
  have h1 := of_decide_eq_true h.1.2
  have h2 := of_decide_eq_true h.2
  omega
theorem leftsF_succ {l : List Rule} {k : Nat} (h : k < l.length) : leftsF (l.take (k + 1)) = leftsF (l.take k) ++ [(l[k]'h).left] := by
  rw [leftsF, List.take_succ_eq_append_getElem h, List.map_append]; rfl
theorem termsF_succ {g : Gram} {l : List Rule} {k : Nat} (h : k < l.length) : termsF g (l.take (k + 1)) = termsF g (l.take k) ++ (l[k]'h).right.filter (termF g) := by
  rw [termsF, List.take_succ_eq_append_getElem h, List.flatMap_append, List.flatMap_singleton]; rfl
theorem filter_succ {p : Int → Bool} {l : List Int} {j : Nat} (h : j < l.length) : (l.take (j + 1)).filter p = (l.take j).filter p ++ if p (l[j]'h) = true then [l[j]'h] else [] := by
  rw [List.take_succ_eq_append_getElem h, List.filter_append]
  congr 1
  by_cases hp : p (l[j]'h) = true <;> simp [hp]

set_option maxRecDepth 100000 in
set_option maxHeartbeats 2000000 in
theorem good_no (g : Gram) (A1 A2 A3 : Option Addr) (c1 c2 c3 : Nat) (w : World) (hg : RepG w g A1 A2 A3 c1 c2 c3) (hno : (namesOk g && termsOk g && ruledF g) = false) :
    Calls Try.prog 23 #[.agg #[.slice A1 g.terms.length c1, .slice A2 g.names.length c2, .slice A3 g.rules.length c3]] w fun e w' => e = .returned (.bool (goodF g)) ∧ Below w.heap.size w w' := by
  have hF : goodF g = false := by unfold goodF; rw [hno]; rfl
  rw [hF]
  have HB := Aside0.mk ((Below.refl w.heap.size w).alloc (Nat.le_refl _) (.cells #[.slice A1 g.terms.length c1, .slice A2 g.names.length c2, .slice A3 g.rules.length c3] 25 (0, 0)))
  have HG := Aside0.mk (hg.below_ (below_alloc (Below.refl _ _) (.cells #[.slice A1 g.terms.length c1, .slice A2 g.names.length c2, .slice A3 g.rules.length c3] 25 (0, 0))))
  clear hg
  have HD1 := Aside0.mk (distinct_c A2 c2 g.names.length g.names 1 40 _ nameOk (w.alloc (.cells #[.slice A1 g.terms.length c1, .slice A2 g.names.length c2, .slice A3 g.rules.length c3] 25 (0, 0))) HG.out.names HG.out.namesCap pred_isName)
  have HD2 := Aside0.mk (distinct_c A1 c1 g.terms.length g.terms 0 40 _ termOk (w.alloc (.cells #[.slice A1 g.terms.length c1, .slice A2 g.names.length c2, .slice A3 g.rules.length c3] 25 (0, 0))) HG.out.terms HG.out.termsCap pred_isTerm)
  have e1 : (distF nameOk [] g.names && decide ((1 : Int) ≤ g.names.length) && decide ((g.names.length : Int) ≤ 40)) = namesOk g := rfl
  have e2 : (distF termOk [] g.terms && decide ((0 : Int) ≤ g.terms.length) && decide ((g.terms.length : Int) ≤ 40)) = termsOk g := rfl
  rw [e1] at HD1
  rw [e2] at HD2
  clear e1 e2
  cases h1 : namesOk g
  · clear hno
    go_enter Try.func23, Try.ntmps23
    go_wp2_with (go_at_call 55; refine HD1.out.mono ?_; rw [h1]; rintro e w' ⟨rfl, rfl⟩)
    go_ret
    exact ⟨ret_bool rfl, HB.out⟩
  · cases h2 : termsOk g
    · clear hno
      go_enter Try.func23, Try.ntmps23
      go_wp2_with (first | (go_at_call 55; with_reducible refine HD1.out.mono ?_; rw [h1]; rintro e w' ⟨rfl, rfl⟩) | (go_at_call 55; refine HD2.out.mono ?_; rw [h2]; rintro e w' ⟨rfl, rfl⟩))
      go_ret
      exact ⟨ret_bool rfl, HB.out⟩
    · have h3 : ruledF g = false := by rw [h1, h2] at hno; exact hno
      have HR := Aside0.mk (ruled_c g A1 A2 A3 c1 c2 c3 _ HG.out (by have := small_names h1; have := small_terms h2; omega))
      have e3 : (decide (1 ≤ g.rules.length) && decide (g.rules.length ≤ 60) && rulF g.terms.length (g.terms.length + g.names.length) [] g.rules) = ruledF g := rfl
      rw [e3] at HR
      clear hno e3
      go_enter Try.func23, Try.ntmps23
      go_wp2_with (first | (go_at_call 55; with_reducible refine HD1.out.mono ?_; rw [h1]; rintro e w' ⟨rfl, rfl⟩) | (go_at_call 55; refine HD2.out.mono ?_; rw [h2]; rintro e w' ⟨rfl, rfl⟩) | (go_at_call 58; refine HR.out.mono ?_; rw [h3]; rintro e w1 ⟨rfl, hb1⟩))
      go_ret
      exact ⟨ret_bool rfl, below_then HB.out HB.out.size hb1⟩

set_option maxRecDepth 100000 in
set_option maxHeartbeats 4000000 in
theorem good_yes (g : Gram) (A1 A2 A3 : Option Addr) (c1 c2 c3 : Nat) (w : World) (hg : RepG w g A1 A2 A3 c1 c2 c3) (h1 : namesOk g = true) (h2 : termsOk g = true) (h3 : ruledF g = true) :
    Calls Try.prog 23 #[.agg #[.slice A1 g.terms.length c1, .slice A2 g.names.length c2, .slice A3 g.rules.length c3]] w fun e w' => e = .returned (.bool (goodF g)) ∧ Below w.heap.size w w' := by
  have hF : goodF g = (risF (g.terms.length + g.names.length) (leftsF g.rules) g.terms.length && risF g.terms.length (termsF g g.rules) 0) := by unfold goodF; rw [h1, h2, h3]; rfl
  rw [hF]
  clear hF
  obtain ⟨r1, hr1⟩ : ∃ r1, r1 = risF (g.terms.length + g.names.length) (leftsF g.rules) g.terms.length := ⟨_, rfl⟩
  obtain ⟨r2, hr2⟩ : ∃ r2, r2 = risF g.terms.length (termsF g g.rules) 0 := ⟨_, rfl⟩
  rw [← hr1, ← hr2]
  have HR1 := Lib.hid hr1
  have HR2 := Lib.hid hr2
  clear hr1 hr2
  have sn := small_names h1
  have st := small_terms h2
  have h3' := h3
  unfold ruledF at h3'
  simp only [Bool.and_eq_true, decide_eq_true_eq] at h3'
  have hr60 : g.rules.length ≤ 60 := h3'.1.2
  have HM := Aside0.mk (rulF_mem h3'.2)
  clear h3'
  have HB := Aside0.mk ((Below.refl w.heap.size w).alloc (Nat.le_refl _) (.cells #[.slice A1 g.terms.length c1, .slice A2 g.names.length c2, .slice A3 g.rules.length c3] 25 (0, 0)))
  have HG0 := Aside0.mk hg
  have HG := Aside0.mk (hg.below_ (below_alloc (Below.refl _ _) (.cells #[.slice A1 g.terms.length c1, .slice A2 g.names.length c2, .slice A3 g.rules.length c3] 25 (0, 0))))
  clear hg
  have HD1 := Aside0.mk (distinct_c A2 c2 g.names.length g.names 1 40 _ nameOk (w.alloc (.cells #[.slice A1 g.terms.length c1, .slice A2 g.names.length c2, .slice A3 g.rules.length c3] 25 (0, 0))) HG.out.names HG.out.namesCap pred_isName)
  have HD2 := Aside0.mk (distinct_c A1 c1 g.terms.length g.terms 0 40 _ termOk (w.alloc (.cells #[.slice A1 g.terms.length c1, .slice A2 g.names.length c2, .slice A3 g.rules.length c3] 25 (0, 0))) HG.out.terms HG.out.termsCap pred_isTerm)
  have e1 : (distF nameOk [] g.names && decide ((1 : Int) ≤ g.names.length) && decide ((g.names.length : Int) ≤ 40)) = namesOk g := rfl
  have e2 : (distF termOk [] g.terms && decide ((0 : Int) ≤ g.terms.length) && decide ((g.terms.length : Int) ≤ 40)) = termsOk g := rfl
  rw [e1] at HD1
  rw [e2] at HD2
  have HR := Aside0.mk (ruled_c g A1 A2 A3 c1 c2 c3 _ HG.out (by omega))
  have e3 : (decide (1 ≤ g.rules.length) && decide (g.rules.length ≤ 60) && rulF g.terms.length (g.terms.length + g.names.length) [] g.rules) = ruledF g := rfl
  rw [e3] at HR
  clear e1 e2 e3
  have HP0 := Aside0.mk (blk_new w (.cells #[.slice A1 g.terms.length c1, .slice A2 g.names.length c2, .slice A3 g.rules.length c3] 25 (0, 0)))
  go_enter Try.func23, Try.ntmps23
  go_wp2_with (first | (go_at_call 55; with_reducible refine HD1.out.mono ?_; rw [h1]; rintro e w' ⟨rfl, rfl⟩) | (go_at_call 55; refine HD2.out.mono ?_; rw [h2]; rintro e w' ⟨rfl, rfl⟩) | (go_at_call 58; refine HR.out.mono ?_; rw [h3]; rintro e w1 ⟨rfl, hb1⟩; have HP1 := Aside0.mk (blk_below HP0.out hb1); have HB1 := Aside0.mk (below_then HB.out HB.out.size hb1); clear hb1; have a1 := blk_cell HP1.out 0; have a2 := blk_cell HP1.out 1; have a3 := blk_cell HP1.out 2; simp only [List.getElem?_toArray, List.getElem?_cons_zero, List.getElem?_cons_succ] at a1 a2 a3))
  clear h1 h2 h3
  clear a1 a2 a3
  go_loopw [28, 3, 4] (fun i vl vt wr => ∃ k : Nat, k ≤ g.rules.length ∧ i = .int .i64 k ∧ Aside0 (kInt.R 3 wr w.heap.size (fun q => some q ≠ vt.ownBlock) vl (leftsF (g.rules.take k))) ∧ Aside0 (kInt.R 3 wr w.heap.size (fun q => some q ≠ vl.ownBlock) vt (termsF g (g.rules.take k))) ∧
    Aside0 (wr.heap[w.heap.size]? = some (.cells #[.slice A1 g.terms.length c1, .slice A2 g.names.length c2, .slice A3 g.rules.length c3] 25 (0, 0))) ∧ Aside0 (Below w.heap.size w wr)) (fun i _ _ _ => g.rules.length - (intOf i).toNat)
  case atStart => exact ⟨0, Nat.zero_le _, rfl, ⟨Kd.R_nil _ _ _ _ _⟩, ⟨Kd.R_nil _ _ _ _ _⟩, HP1, HB1⟩
  case round =>
    clear HP1 HB1
    obtain ⟨k, hk, rfl, HL, HT, HP, HBr⟩ := hrel
    by_cases hlt : k < g.rules.length
    · obtain ⟨ad, B1, d1, ead, hx0, hy0, hd1, hC1⟩ := at_rule HG0.out.rules k hlt
      cases ead
      have hx := pw_cell_below HBr.out hx0
      have hy := pw_cell_below HBr.out hy0
      clear hx0 hy0
      obtain ⟨Al, cl, rfl⟩ := Kd.R_slice HL.out
      obtain ⟨At, ct, rfl⟩ := Kd.R_slice HT.out
      have HX8 := Aside0.mk (HM.out (g.rules[k]'hlt) (List.getElem_mem _)).2.2.1
      have HLS := Lib.hid (leftsF_succ hlt)
      have HTS := Lib.hid (termsF_succ (g := g) hlt)
      have htl := termsF_len g (g.rules.take k) (fun r hr => (HM.out r (List.mem_of_mem_take hr)).2.2.1)
      rw [List.length_take, Nat.min_eq_left hk] at htl
      have HTL := Aside0.mk htl
      have hll : (leftsF (g.rules.take k)).length ≤ 60 := by simp [leftsF]; omega
      have HLL := Aside0.mk hll
      obtain ⟨x, hx0⟩ : ∃ x, x = g.rules[k]'hlt := ⟨_, rfl⟩
      rw [← hx0] at hx hy hd1 hC1 HX8 HLS HTS
      obtain ⟨ls, hls⟩ : ∃ ls, ls = leftsF (g.rules.take k) := ⟨_, rfl⟩
      obtain ⟨ts, hts⟩ : ∃ ts, ts = termsF g (g.rules.take k) := ⟨_, rfl⟩
      rw [← hls] at HL HT HLL HLS ⊢
      rw [← hts] at HL HT HTL HTS ⊢
      clear hx0 hls hts htl hll
      have HL1 := Aside0.mk (Kd.R_below HL.out (below_alloc (Below.refl _ _) (.cells #[.int .i64 x.left, .slice B1 x.right.length d1] 56 (0, 0))))
      have HT1 := Aside0.mk (Kd.R_below HT.out (below_alloc (Below.refl _ _) (.cells #[.int .i64 x.left, .slice B1 x.right.length d1] 56 (0, 0))))
      have HB2 := Aside0.mk (HBr.out.alloc HBr.out.size (.cells #[.int .i64 x.left, .slice B1 x.right.length d1] 56 (0, 0)))
      have HN := Aside0.mk (blk_new wr (.cells #[.int .i64 x.left, .slice B1 x.right.length d1] 56 (0, 0)))
      have HP2 := Aside0.mk (blk_alloc HP.out (.cells #[.int .i64 x.left, .slice B1 x.right.length d1] 56 (0, 0)))
      have HC2 := Aside0.mk hC1
      clear hd1 hC1
      go_wp2_with (at_builtin; refine app_int (p := x.left) rfl rfl HL1.out HB2.out HB2.out.size (by have := HLL.out; omega) (fresh_ne HT1.out) rfl (by simp [Act.eval]) ?_; intro v2 w2 A2; obtain ⟨A', c', rfl⟩ := A2.shape; have HT2 := Aside0.mk (two_append HT1.out A2); have HL2 := Aside0.mk A2.row; have HN2 := Aside0.mk (blk_grown HN.out A2.grown (Kd.R_ne HL1.out HN.out (by decide))); have HP3 := Aside0.mk (blk_grown HP2.out A2.grown (Kd.R_ne HL1.out HP2.out (by decide))); have HB3 := Aside0.mk A2.below; clear A2; have b1 := blk_cell HN2.out 1; simp only [List.getElem?_toArray, List.getElem?_cons_zero, List.getElem?_cons_succ] at b1)
      clear b1
      obtain ⟨wo, hwo⟩ : ∃ wo : World, wo = wr := ⟨_, rfl⟩
      rw [← hwo] at *
      clear hwo
      go_loopw [40, 4] (fun j vt wi => ∃ m : Nat, m ≤ x.right.length ∧ j = .int .i64 m ∧ Aside0 (kInt.R 3 wi w.heap.size (fun q => some q ≠ vt.ownBlock) (.slice A' (ls.length + 1) c') (ls ++ [x.left])) ∧ Aside0 (kInt.R 3 wi w.heap.size (fun q => some q ≠ (Value.slice A' (ls.length + 1) c').ownBlock) vt (ts ++ (x.right.take m).filter (termF g))) ∧
        Aside0 (wi.heap[w.heap.size]? = some (.cells #[.slice A1 g.terms.length c1, .slice A2 g.names.length c2, .slice (some ad) g.rules.length c3] 25 (0, 0))) ∧ Aside0 (Below w.heap.size w wi)) (fun j _ _ => x.right.length - (intOf j).toNat)
      case atStart => exact ⟨0, Nat.zero_le _, rfl, HL2, ⟨by simpa using HT2.out⟩, HP3, HB3⟩
      case round =>
        clear HL1 HT1 HB2 HN HP2 HT2 HL2 HN2 HP3 HB3 hx hy
        obtain ⟨m, hm, rfl, HL1, HT1, HP1, HB2⟩ := hrel
        have hx8 := HX8.out
        have HUL : Aside0 ((ts ++ (x.right.take m).filter (termF g)).length ≤ 488) := ⟨by
          have h5 := List.length_filter_le (termF g) (x.right.take m)
          have h6 := HTL.out
          have h7 := HX8.out
          rw [List.length_take] at h5
          rw [List.length_append]
          omega⟩
        by_cases hmlt : m < x.right.length
        · have HFS := Lib.hid (filter_succ (p := termF g) hmlt)
          obtain ⟨bd, ebd, hz⟩ := at_int (Kd.C_below HC2.out HB2.out) m hmlt
          cases ebd
          obtain ⟨us, hus⟩ : ∃ us, us = ts ++ (x.right.take m).filter (termF g) := ⟨_, rfl⟩
          rw [← hus] at HT1 HUL
          have HUS := Lib.hid hus
          clear hus
          obtain ⟨At2, ct2, rfl⟩ := Kd.R_slice HT1.out
          have a1 := blk_cell HP1.out 0
          have a2 := blk_cell HP1.out 1
          have a3 := blk_cell HP1.out 2
          simp only [List.getElem?_toArray, List.getElem?_cons_zero, List.getElem?_cons_succ] at a1 a2 a3
          cases hy : termF g (x.right[m]'hmlt)
          · go_wp2_with (go_at_call 25; refine (term_c g A1 A2 (some ad) c1 c2 c3 _ _).mono ?_; rw [hy]; rintro e w3 ⟨rfl, hb3⟩)
            go_roundw
            case rel => exact ⟨m + 1, by omega, by go_num, ⟨Kd.R_below HL1.out hb3⟩, ⟨by
              have h := Kd.R_below HT1.out hb3
              rw [HFS.out, hy, if_neg (by simp), List.append_nil, ← HUS.out]
              exact h⟩, ⟨blk_below HP1.out hb3⟩, ⟨below_then HB2.out HB2.out.size hb3⟩⟩
            case measure => simp [intOf]; omega
          · go_wp2_with (first | (go_at_call 25; refine (term_c g A1 A2 (some ad) c1 c2 c3 _ _).mono ?_; rw [hy]; rintro e w3 ⟨rfl, hb3⟩; have HL3 := Aside0.mk (Kd.R_below HL1.out hb3); have HT3 := Aside0.mk (Kd.R_below HT1.out hb3); have HP3 := Aside0.mk (blk_below HP1.out hb3); have HB3 := Aside0.mk (below_then HB2.out HB2.out.size hb3); clear hb3) | (at_builtin; refine app_int (p := x.right[m]'hmlt) rfl rfl HT3.out HB3.out HB3.out.size (by have := HUL.out; omega) (fresh_ne HL3.out) rfl (by simp [Act.eval]) ?_; intro v4 w4 A4; obtain ⟨A5, c5, rfl⟩ := A4.shape; have HL4 := Aside0.mk (two_append HL3.out A4); have HT4 := Aside0.mk A4.row; have HP4 := Aside0.mk (blk_grown HP3.out A4.grown (Kd.R_ne HT3.out HP3.out (by decide))); have HB4 := Aside0.mk A4.below; clear A4))
            go_roundw
            case rel => exact ⟨m + 1, by omega, by go_num, HL4, ⟨by
              rw [HFS.out, hy, if_pos rfl, ← List.append_assoc, ← HUS.out]
              exact HT4.out⟩, HP4, HB4⟩
            case measure => simp [intOf]; omega
        · have HE : Aside0 (x.right.take m = x.right) := ⟨List.take_of_length_le (by omega)⟩
          go_wp2
          go_roundw
          case rel =>
            refine ⟨k + 1, by omega, by go_num, ⟨?_⟩, ⟨?_⟩, HP1, HB2⟩
            · rw [HLS.out]
              exact HL1.out
            · rw [HTS.out]
              have h := HT1.out
              rw [HE.out] at h
              exact h
          case measure => simp [intOf]; omega
    · have htl := termsF_len g (g.rules.take k) (fun r hr => (HM.out r (List.mem_of_mem_take hr)).2.2.1)
      have hll : (leftsF (g.rules.take k)).length ≤ 60 := by simp [leftsF]; omega
      rw [List.take_of_length_le (by omega)] at HL HT htl hll
      obtain ⟨Al, cl, el, hcl, hCl⟩ := Kd.R_reads HL.out
      obtain ⟨At, ct, et, hct, hCt⟩ := Kd.R_reads HT.out
      subst el et
      have HCl := Aside0.mk hCl
      have HCt := Aside0.mk hCt
      have htl2 : (termsF g g.rules).length ≤ 480 := by omega
      clear hCl hCt htl
      have a1 := blk_cell HP.out 0
      have a2 := blk_cell HP.out 1
      simp only [List.getElem?_toArray, List.getElem?_cons_zero, List.getElem?_cons_succ] at a1 a2
      have HC1 := Aside0.mk (rising_c Al cl _ (leftsF g.rules) g.terms.length (g.terms.length + g.names.length) wr HCl.out (by omega) (by omega))
      have HC2 := Aside0.mk (rising_c At ct _ (termsF g g.rules) 0 g.terms.length wr HCt.out (by omega) (by omega))
      rw [← HR1.out] at HC1
      rw [← HR2.out] at HC2
      cases r1
      · go_wp2_with (go_at_call 59; refine HC1.out.mono ?_; rintro e w' ⟨rfl, rfl⟩)
        go_ret
        exact ⟨ret_bool rfl, HBr.out⟩
      · go_wp2_with (first | (go_at_call 59; with_reducible refine HC1.out.mono ?_; rintro e w' ⟨rfl, rfl⟩) | (go_at_call 59; refine HC2.out.mono ?_; rintro e w' ⟨rfl, rfl⟩))
        go_ret
        exact ⟨ret_bool rfl, HBr.out⟩

theorem good_c (g : Gram) (A1 A2 A3 : Option Addr) (c1 c2 c3 : Nat) (w : World) (hg : RepG w g A1 A2 A3 c1 c2 c3) :
    Calls Try.prog 23 #[.agg #[.slice A1 g.terms.length c1, .slice A2 g.names.length c2, .slice A3 g.rules.length c3]] w fun e w' => e = .returned (.bool (goodF g)) ∧ Below w.heap.size w w' := by
  cases h1 : namesOk g
  · exact good_no g A1 A2 A3 c1 c2 c3 w hg (by rw [h1]; rfl)
  · cases h2 : termsOk g
    · exact good_no g A1 A2 A3 c1 c2 c3 w hg (by rw [h1, h2]; rfl)
    · cases h3 : ruledF g
      · exact good_no g A1 A2 A3 c1 c2 c3 w hg (by rw [h1, h2, h3]; rfl)
      · exact good_yes g A1 A2 A3 c1 c2 c3 w hg h1 h2 h3
end Go.Proofs.Ytphmmppmhphgeaa
