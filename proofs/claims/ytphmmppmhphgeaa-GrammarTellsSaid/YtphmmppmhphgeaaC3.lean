/- The contracts of the reader of alternatives: a definition. -/
import Derived.Test.YtphmmppmhphgeaaC2
import Derived.Deep.LoopGhost
set_option linter.unusedVariables false
set_option linter.unusedSimpArgs false
namespace Go.Proofs.Ytphmmppmhphgeaa
open Go.RowKit Go.Proofs.YtphmmppmhphgeaaW.PrintWords

def altsF (en : Int) (left : Tok) : Nat → List Tok → List Alt → Except (Int × Int) (List Tok × List Alt)
  | 0, _, _ => .error (12, 0)
  | k + 1, l, out =>
    match altF en l [] with
    | .error e => .error e
    | .ok (right, more, r) => if 60 ≤ out.length ∨ 8 < right.length then .error (14, left.pos) else if more = true then altsF en left k r (out ++ [⟨left, right⟩]) else .ok (r, out ++ [⟨left, right⟩])
def defF (en : Int) : List Tok → List Alt → Except (Int × Int) (List Tok × List Alt)
  | [], _ => .error (12, en)
  | t :: r, out => if t.kind = 1 then (match r with
      | [] => .error (12, en)
      | t2 :: r2 => if t2.kind = 3 then altsF en t (r2.length + 1) r2 out else .error (12, t2.pos)) else .error (12, t.pos)
theorem altF_lt {en : Int} : ∀ {l acc : List Tok} {right : List Tok} {more : Bool} {r : List Tok}, altF en l acc = .ok (right, more, r) → r.length < l.length := by
  intro l
  induction l with
  | nil => intro acc right more r h; cases h
  | cons t l ih =>
    intro acc right more r h
    unfold altF at h
    split at h
    · have := ih h; simp; omega
    · split at h
      · injection h with h
        injection h with _ h
        injection h with _ h
        subst h
        simp
      · cases h
theorem altsF_le {en : Int} {left : Tok} : ∀ {k : Nat} {l : List Tok} {out : List Alt} {r : List Tok} {out' : List Alt}, altsF en left k l out = .ok (r, out') → r.length < l.length ∧ (out'.length ≤ 60) := by
  intro k
  induction k with
  | zero => intro l out r out' h; cases h
  | succ k ih =>
    intro l out r out' h
    unfold altsF at h
    split at h
    · cases h
    · rename_i right more r1 ha
      have h1 := altF_lt ha
      split at h
      · cases h
      · rename_i hn
        split at h
        · have := ih h; omega
        · injection h with h
          injection h with h2 h3
          subst h2
          subst h3
          simp only [List.length_append, List.length_singleton]
          omega
theorem defF_le {en : Int} {l : List Tok} {out : List Alt} {r : List Tok} {out' : List Alt} (h : defF en l out = .ok (r, out')) : r.length < l.length ∧ out'.length ≤ 60 := by
  unfold defF at h
  split at h
  · cases h
  · split at h
    · split at h
      · cases h
      · split at h
        · have := altsF_le h
          simp only [List.length_cons]
          omega
        · cases h
    · cases h
def DefEnd (w0 : World) (g : Nat) (en : Int) : Except (Int × Int) (List Tok × List Alt) → Ending → World → Prop
  | .error (a, p), e, w' => e = .panicked (faultV a p) ∧ Below w0.heap.size w0 w'
  | .ok (r, out), e, w' => e = .returned (.tuple #[]) ∧ ∃ A c v, St w0 w' (fun _ => True) g A c r en v out

theorem lit3 (W : World) (o : Obj) : kInt.C ((W.alloc o).alloc (.cells #[.int .i64 3] 3 (0, 0))) (some ⟨W.heap.size + 1, 0, none⟩) 1 [3] := by
  have h := C_lit (W.alloc o) [3] (by simp)
  rw [show (W.alloc o).heap.size = W.heap.size + 1 by simp] at h
  exact h
set_option maxRecDepth 100000 in
set_option maxHeartbeats 2000000 in
theorem def_c (w0 W : World) (g : Nat) (A : Option Addr) (c : Nat) (l : List Tok) (en : Int) (v : Value) (out : List Alt) (hS : St w0 W (fun _ => True) g A c l en v out) (hl : l.length ≤ 4000) (hout : out.length ≤ 60) :
    Calls Try.prog 74 #[.pointer (some ⟨g, 0, none⟩)] W fun e w' => DefEnd w0 g en (defF en l out) e w' := by
  have HS1 := Aside0.mk (hS.alloc_ (.cells #[.int .i64 1] 3 (0, 0)))
  have HK1 : Aside0 (kInt.C (W.alloc (.cells #[.int .i64 1] 3 (0, 0))) (some ⟨W.heap.size, 0, none⟩) 1 [1]) := ⟨C_lit W [1] (by simp)⟩
  have hlt := blk_lt hS.cell
  clear hS
  cases l with
  | nil =>
    go_enter Try.func74, Try.ntmps74
    go_wp2_with (go_at_call 93; refine (next_c _ _ _ _ _ _ _ _ _ _ HS1.out _ _ _ _ HK1.out).mono ?_; rintro e w1 ⟨rfl, hb1⟩)
    exact ⟨rfl, rfl, hb1⟩
  | cons t r =>
    obtain ⟨tk, tx, tp⟩ := t
    by_cases h1 : tk = 1
    · subst h1
      have hk : ([1].any fun y => (1 : Int) == y) = true := rfl
      have HHK := Lib.hid hk
      clear hk
      have hk3 : ([3].any fun y => (3 : Int) == y) = true := rfl
      have HHK3 := Lib.hid hk3
      clear hk3
      cases r with
      | nil =>
        go_enter Try.func74, Try.ntmps74
        go_wp2_with (first | (go_at_call 93; refine (next_c _ _ _ _ _ _ _ _ _ _ HS2.out _ _ _ _ HK2.out).mono ?_; rintro e w3 ⟨rfl, hb3⟩) | (go_at_call 93; refine (next_c _ _ _ _ _ _ _ _ _ _ HS1.out _ _ _ _ HK1.out).mono ?_; unfold NextEnd; simp only [HHK.out, if_true]; rintro e w1 ⟨rfl, ⟨A2, c2, hS2⟩, hg2⟩; have HS2 := Aside0.mk ((hS2.alloc_ (.cells #[.int .i64 1, .string tx, .int .i64 tp] 49 (0, 0))).alloc_ (.cells #[.int .i64 3] 3 (0, 0))); have HK2 := Aside0.mk (lit3 w1 (.cells #[.int .i64 1, .string tx, .int .i64 tp] 49 (0, 0))); clear hS2 hg2))
        exact ⟨rfl, rfl, hb3⟩
      | cons t2 r2 =>
        obtain ⟨tk2, tx2, tp2⟩ := t2
        by_cases h3 : tk2 = 3
        · subst h3
          obtain ⟨RES, hRES⟩ : ∃ r, altsF en ⟨1, tx, tp⟩ (r2.length + 1) r2 out = r := ⟨_, rfl⟩
          have HR : Hid (defF en (⟨1, tx, tp⟩ :: ⟨3, tx2, tp2⟩ :: r2) out = RES) := Lib.hid (by rw [← hRES]; rfl)
          have HE := Aside0.mk hRES
          clear hRES
          have HL2 : Aside0 (r2.length ≤ 4000) := ⟨by simp at hl; omega⟩
          have HO2 := Aside0.mk hout
          clear hl hout
          go_enter Try.func74, Try.ntmps74
          go_wp2_with (first | (go_at_call 93; refine (next_c _ _ _ _ _ _ _ _ _ _ HS2.out _ _ _ _ HK2.out).mono ?_; unfold NextEnd; simp only [HHK3.out, if_true]; rintro e w3 ⟨rfl, ⟨A3, c3, hS3⟩, hg3⟩; have HS3 := Aside0.mk hS3; have HT3 := Aside0.mk (blk_grown HT2.out hg3 (fun he => hgw (by injection he with he; exact he.symm))); clear hS3 hg3) | (go_at_call 93; refine (next_c _ _ _ _ _ _ _ _ _ _ HS1.out _ _ _ _ HK1.out).mono ?_; unfold NextEnd; simp only [HHK.out, if_true]; rintro e w1 ⟨rfl, ⟨A2, c2, hS2⟩, hg2⟩; have HS2 := Aside0.mk ((hS2.alloc_ (.cells #[.int .i64 1, .string tx, .int .i64 tp] 49 (0, 0))).alloc_ (.cells #[.int .i64 3] 3 (0, 0))); have HK2 := Aside0.mk (lit3 w1 (.cells #[.int .i64 1, .string tx, .int .i64 tp] 49 (0, 0))); have HT2 := Aside0.mk (blk_alloc (blk_new w1 (.cells #[.int .i64 1, .string tx, .int .i64 tp] 49 (0, 0))) (.cells #[.int .i64 3] 3 (0, 0))); have hgw : g ≠ w1.heap.size := (by have := blk_lt hS2.cell; omega); clear hS2 hg2))
          go_loopg [] r2.length (fun m wr => ∃ (l' : List Tok) (out' : List Alt) (A' : Option Addr) (c' : Nat) (v' : Value) (k : Nat), l'.length = m ∧ Aside0 (l'.length ≤ k) ∧ Aside0 (altsF en ⟨1, tx, tp⟩ (k + 1) l' out' = RES) ∧ Aside0 (l'.length ≤ 4000) ∧ Aside0 (out'.length ≤ 60) ∧ Aside0 (wr.heap[w1.heap.size]? = some (.cells #[.int .i64 1, .string tx, .int .i64 tp] 49 (0, 0))) ∧ Aside0 (St w0 wr (fun _ => True) g A' c' l' en v' out'))
          case atStart => exact ⟨r2, out, A3, c3, v, r2.length, rfl, ⟨Nat.le_refl _⟩, HE, HL2, HO2, HT3, HS3⟩
          case round =>
            obtain ⟨l', out', A', c', v', k, hm, HF', HE', HL', HO', HT', HS'⟩ := hrel
            have hc1 := blk_cell HT'.out 0
            have hc2 := blk_cell HT'.out 1
            have hc3 := blk_cell HT'.out 2
            simp only [List.getElem?_toArray, List.getElem?_cons_zero, List.getElem?_cons_succ] at hc1 hc2 hc3
            have hout' : out'.length ≤ 100 := by have := HO'.out; omega
            cases ha : altF en l' [] with
            | error er =>
              obtain ⟨a, p⟩ := er
              have hR : RES = .error (a, p) := by rw [← HE'.out, altsF, ha]
              have HA := Lib.hid ha
              have HR2 := Lib.hid hR
              clear ha hR
              go_wp2_with (go_at_call 94; refine (alt_c _ _ _ _ _ _ _ _ _ HS'.out ⟨1, tx, tp⟩ HL'.out hout').mono ?_; rw [HA.out]; rintro e w4 ⟨rfl, hb4⟩)
              refine ⟨rfl, ?_⟩
              rw [HR.out, HR2.out]
              exact ⟨rfl, hb4⟩
            | ok q =>
              obtain ⟨right, more, r⟩ := q
              have hlt' := altF_lt ha
              by_cases hbig : 60 ≤ out'.length ∨ 8 < right.length
              · have hR : RES = .error (14, tp) := by rw [← HE'.out, altsF, ha]; simp only [hbig, if_true]
                have HA := Lib.hid ha
                have HR2 := Lib.hid hR
                have HBIG := Lib.hid hbig
                clear ha hR hbig
                go_wp2_with (go_at_call 94; refine (alt_c _ _ _ _ _ _ _ _ _ HS'.out ⟨1, tx, tp⟩ HL'.out hout').mono ?_; rw [HA.out]; unfold AltEnd; simp only [HBIG.out, if_true]; rintro e w4 ⟨rfl, hb4⟩)
                refine ⟨rfl, ?_⟩
                rw [HR.out, HR2.out]
                exact ⟨rfl, hb4⟩
              · have hne : some w1.heap.size ≠ v'.ownBlock := Kd.R_ne HS'.out.row HT'.out (by decide)
                have HNE := Aside0.mk hne
                have HGW := Aside0.mk hgw
                have HLT := Aside0.mk hlt'
                clear hne
                cases more with
                | true =>
                  have hR : RES = altsF en ⟨1, tx, tp⟩ k r (out' ++ [⟨⟨1, tx, tp⟩, right⟩]) := by rw [← HE'.out, altsF, ha]; simp only [hbig, if_false, if_true]
                  have HA := Lib.hid ha
                  have HR2 := Lib.hid hR
                  have HBIG := Lib.hid hbig
                  clear ha hR hbig
                  go_wp2_with (go_at_call 94; refine (alt_c _ _ _ _ _ _ _ _ _ HS'.out ⟨1, tx, tp⟩ HL'.out hout').mono ?_; rw [HA.out]; unfold AltEnd; simp only [HBIG.out, if_false]; rintro e w4 ⟨rfl, A4, c4, v4, hS4, hk4⟩; have HS4 := Aside0.mk hS4; have HK4 := Aside0.mk hk4; clear hS4 hk4)
                  have HM := Lib.hid hm
                  go_roundg r.length
                  case measure => have := HM.out; have := HLT.out; omega
                  case rel =>
                    have hk1 : k = (k - 1) + 1 := by have := HF'.out; have := HLT.out; omega
                    refine ⟨r, out' ++ [⟨⟨1, tx, tp⟩, right⟩], A4, c4, v4, k - 1, rfl, ⟨by have := HF'.out; have := HLT.out; omega⟩, ⟨?_⟩, ⟨by have := HL'.out; have := HLT.out; omega⟩, ⟨?_⟩, ⟨HK4.out _ _ HT'.out HGW.out.symm HNE.out⟩, HS4⟩
                    · rw [← hk1]; exact HR2.out.symm
                    · have := HBIG.out
                      simp only [List.length_append, List.length_singleton]
                      omega
                | false =>
                  have hR : RES = .ok (r, out' ++ [⟨⟨1, tx, tp⟩, right⟩]) := by rw [← HE'.out, altsF, ha]; simp only [hbig, if_false, Bool.false_eq_true]
                  have HA := Lib.hid ha
                  have HR2 := Lib.hid hR
                  have HBIG := Lib.hid hbig
                  clear ha hR hbig
                  go_wp2_with (go_at_call 94; refine (alt_c _ _ _ _ _ _ _ _ _ HS'.out ⟨1, tx, tp⟩ HL'.out hout').mono ?_; rw [HA.out]; unfold AltEnd; simp only [HBIG.out, if_false]; rintro e w4 ⟨rfl, A4, c4, v4, hS4, hk4⟩; have HS4 := Aside0.mk hS4; clear hS4 hk4)
                  refine bodyPost_ret (v := .tuple #[]) (by simp [results, Try.results74, go_sem]) rfl ?_
                  rw [HR.out, HR2.out]
                  exact ⟨rfl, A4, c4, v4, HS4.out⟩
        · have hk3 : ([3].any fun y => tk2 == y) = false := by simp; exact h3
          have HHK3 := Lib.hid hk3
          clear hk3
          have HR := Lib.hid (show defF en (⟨1, tx, tp⟩ :: ⟨tk2, tx2, tp2⟩ :: r2) out = .error (12, tp2) by simp only [defF, if_true]; rw [if_neg h3])
          go_enter Try.func74, Try.ntmps74
          go_wp2_with (first | (go_at_call 93; refine (next_c _ _ _ _ _ _ _ _ _ _ HS2.out _ _ _ _ HK2.out).mono ?_; unfold NextEnd; simp only [HHK3.out, Bool.false_eq_true, if_false]; rintro e w3 ⟨rfl, hb3⟩) | (go_at_call 93; refine (next_c _ _ _ _ _ _ _ _ _ _ HS1.out _ _ _ _ HK1.out).mono ?_; unfold NextEnd; simp only [HHK.out, if_true]; rintro e w1 ⟨rfl, ⟨A2, c2, hS2⟩, hg2⟩; have HS2 := Aside0.mk ((hS2.alloc_ (.cells #[.int .i64 1, .string tx, .int .i64 tp] 49 (0, 0))).alloc_ (.cells #[.int .i64 3] 3 (0, 0))); have HK2 := Aside0.mk (lit3 w1 (.cells #[.int .i64 1, .string tx, .int .i64 tp] 49 (0, 0))); clear hS2 hg2))
          refine ⟨rfl, ?_⟩
          rw [HR.out]
          exact ⟨rfl, hb3⟩
    · have hk1 : ([1].any fun y => tk == y) = false := by simp; exact h1
      have HHK := Lib.hid hk1
      clear hk1
      have HR := Lib.hid (show defF en (⟨tk, tx, tp⟩ :: r) out = .error (12, tp) by simp only [defF]; rw [if_neg h1])
      go_enter Try.func74, Try.ntmps74
      go_wp2_with (go_at_call 93; refine (next_c _ _ _ _ _ _ _ _ _ _ HS1.out _ _ _ _ HK1.out).mono ?_; unfold NextEnd; simp only [HHK.out, Bool.false_eq_true, if_false]; rintro e w1 ⟨rfl, hb1⟩)
      refine ⟨rfl, ?_⟩
      rw [HR.out]
      exact ⟨rfl, hb1⟩
end Go.Proofs.Ytphmmppmhphgeaa
