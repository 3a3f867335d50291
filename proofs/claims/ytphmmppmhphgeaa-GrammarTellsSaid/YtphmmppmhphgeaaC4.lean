/- The contract of the alternatives of a row of tokens. -/
import Derived.Test.YtphmmppmhphgeaaC3
import Derived.Recover
set_option linter.unusedVariables false
set_option linter.unusedSimpArgs false
namespace Go.Proofs.Ytphmmppmhphgeaa
open Go.RowKit Go.Proofs.YtphmmppmhphgeaaW.PrintWords

def restF (en : Int) : Nat → List Tok → List Alt → Except (Int × Int) (List Alt)
  | _, [], out => .ok out
  | 0, _ :: _, _ => .error (12, 0)
  | k + 1, t :: r, out =>
    match defF en (t :: r) out with
    | .error e => .error e
    | .ok (r', out') => restF en k r' out'
def readF (en : Int) (l : List Tok) : Except (Int × Int) (List Alt) :=
  match defF en l [] with
  | .error e => .error e
  | .ok (r, out) => restF en r.length r out

set_option maxRecDepth 100000 in
set_option maxHeartbeats 1000000 in
theorem altsRec_panicking (bp bq : Nat) (v : Value) (x y a at_ : Int) (older : List PanicEntry) (w w0 : World) (B : Nat) (hp : w.heap[bp]? = some (.cells #[v] 70 (0, 0))) (hq : w.heap[bq]? = some (.cells #[.int .i64 x, .int .i64 y] 30 (0, 0))) (hpq : bp ≠ bq) (hBp : B ≤ bp) (hBq : B ≤ bq) (hb : Below B w0 w) :
    CallsD Try.prog 73 #[.pointer (some ⟨bp, 0, none⟩), .pointer (some ⟨bq, 0, none⟩)] (.panicking ({ v := .iface 30 (.agg #[.int .i64 a, .int .i64 at_]), recovered := false } :: older)) w fun e u' w' =>
      e = .returned (.tuple #[]) ∧ u' = .panicking ({ v := .iface 30 (.agg #[.int .i64 a, .int .i64 at_]), recovered := true } :: older) ∧ w'.heap[bp]? = some (.cells #[.slice none 0 0] 70 (0, 0)) ∧ w'.heap[bq]? = some (.cells #[.int .i64 a, .int .i64 at_] 30 (0, 0)) ∧ Below B w0 w' := by
  have hta : ∀ w, (Instr.typeAssert (.iface 30 (.agg #[.int .i64 a, .int .i64 at_])) 20 30 true).run Try.prog w = .ok (.tuple #[.agg #[.int .i64 a, .int .i64 at_], .bool true]) w := fun w => by kernel_rfl
  have n1 : ¬ bp = w.heap.size := by have := blk_lt hp; omega
  have n2 : ¬ bq = w.heap.size := by have := blk_lt hq; omega
  have n3 : ¬ w.heap.size = bp := fun h => n1 h.symm
  have n4 : ¬ w.heap.size = bq := fun h => n2 h.symm
  have n5 : ¬ bp = bq := hpq
  have n6 : ¬ bq = bp := fun h => hpq h.symm
  have hp1 := blk_alloc hp (.cells #[.int .i64 a, .int .i64 at_] 30 (0, 0))
  have hq1 := blk_alloc hq (.cells #[.int .i64 a, .int .i64 at_] 30 (0, 0))
  have hb1 := hb.alloc (by have := blk_lt hp; omega : B ≤ w.heap.size) (.cells #[.int .i64 a, .int .i64 at_] 30 (0, 0))
  have HP1 := Aside0.mk hp1
  have HQ1 := Aside0.mk hq1
  have HB1 := Aside0.mk hb1
  have c1 := blk_cell hp1 0
  have c2 := blk_cell hq1 0
  have c3 := blk_cell hq1 1
  have f1 := blk_frozen hp1 0
  have f2 := blk_frozen hq1 0
  have f3 := blk_frozen hq1 1
  clear hp hq hb hp1 hq1 hb1
  simp only [List.getElem?_toArray, List.getElem?_cons_zero, List.getElem?_cons_succ] at c1 c2 c3
  refine callsD_of_wpS Try.func73 rfl fun c₀ cs hu => ?_
  apply wpS_seq
  apply wpS_region
  simp [wpOpsS, go_sem, recoverD, hu, Try.ntmps73, Exit.thenS]
  refine wpS_of_wp ?_
  simp only [Array.replicate_succ, Array.replicate_zero, List.push_toArray, List.append_toArray, List.nil_append, List.cons_append, List.setIfInBounds_toArray, List.set_cons_zero, List.set_cons_succ]
  go_wp2
  go_region
  all_goals
    go_wp2
    refine ⟨rfl, _, rfl, .tuple #[], results_none rfl _ _ _, rfl, rfl, ?_, ?_, ?_⟩
    · exact blk_far (blk_far (blk_set HP1.out 0 _) hpq _) hpq _
    · exact blk_set (blk_set (blk_far HQ1.out (fun h => hpq h.symm) _) 0 _) 1 _
    · exact below_set (below_set (below_set HB1.out.drew hBp _ _) hBq _ _) hBq _ _

set_option maxRecDepth 100000 in
theorem altsRec_idle (p q : Option Addr) (w : World) :
    CallsD Try.prog 73 #[.pointer p, .pointer q] .returning w fun e u' w' => e = .returned (.tuple #[]) ∧ u' = .returning ∧ w = w' := by
  refine callsD_of_wpS Try.func73 rfl fun c₀ cs hu => ?_
  apply wpS_seq
  apply wpS_region
  simp [wpOpsS, go_sem, recoverD, hu, Try.ntmps73, Exit.thenS]
  refine wpS_of_wp ?_
  simp only [Array.replicate_succ, Array.replicate_zero, List.push_toArray, List.append_toArray, List.nil_append, List.cons_append, List.setIfInBounds_toArray, List.set_cons_zero, List.set_cons_succ]
  go_wp2
  exact ⟨rfl, _, by cases c₀; simp_all, .tuple #[], results_none rfl _ _ _, rfl, rfl, rfl⟩

def AltsEnd (w : World) : Except (Int × Int) (List Alt) → Ending → World → Prop
  | .error (a, p), e, w' => e = .returned (.tuple #[.slice none 0 0, .agg #[.int .i64 a, .int .i64 p]])
  | .ok l, e, w' => ∃ v, e = .returned (.tuple #[v, .agg #[.int .i64 0, .int .i64 0]]) ∧ kAlt.R 74 w' w.heap.size (fun _ => True) v l

theorem results_alts {tmps : Array Value} {W : World} {g g' : Nat} {A : Option Addr} {n c : Nat} {x y : Int} (t2 : tmps.getD 4 undef = .pointer (some ⟨g, 0, none⟩)) (t3 : tmps.getD 5 undef = .pointer (some ⟨g', 0, none⟩))
    (h : W.heap[g]? = some (.cells #[.slice A n c] 70 (0, 0))) (h' : W.heap[g']? = some (.cells #[.int .i64 x, .int .i64 y] 30 (0, 0))) :
    (results Try.f46 tmps).run Try.prog W = .ok (.tuple #[.slice A n c, .agg #[.int .i64 x, .int .i64 y]]) W := by
  have d1 := blk_cell h 0
  have d2 := blk_cell h' 0
  have d3 := blk_cell h' 1
  simp only [List.getElem?_toArray, List.getElem?_cons_zero, List.getElem?_cons_succ] at d1 d2 d3
  simp only [Array.getD_eq_getD_getElem?] at t2 t3
  simp [results, Try.results46, go_sem, d1, d2, d3, t2, t3]

/-- The world at which the reader is made: the results' two cells lie. -/
def altsW (w : World) : World := (w.alloc (.cells #[.slice none 0 0] 70 (0, 0))).alloc (.cells #[.int .i64 0, .int .i64 0] 30 (0, 0))
theorem altsW_p (w : World) : (altsW w).heap[w.heap.size]? = some (.cells #[.slice none 0 0] 70 (0, 0)) := blk_alloc (blk_new w _) _
theorem altsW_q (w : World) : (altsW w).heap[w.heap.size + 1]? = some (.cells #[.int .i64 0, .int .i64 0] 30 (0, 0)) := by
  have h := blk_new (w.alloc (.cells #[.slice none 0 0] 70 (0, 0))) (.cells #[.int .i64 0, .int .i64 0] 30 (0, 0))
  rw [show (w.alloc (.cells #[.slice none 0 0] 70 (0, 0))).heap.size = w.heap.size + 1 by simp] at h
  exact h
theorem altsW_below (w : World) : Below w.heap.size w (altsW w) := ((Below.refl _ _).alloc (Nat.le_refl _) _).alloc (by simp) _
theorem altsW_size (w : World) : (altsW w).heap.size = w.heap.size + 2 := by simp [altsW]

set_option maxRecDepth 100000 in
set_option maxHeartbeats 4000000 in
theorem alts_c (w : World) (A : Option Addr) (c : Nat) (l : List Tok) (en : Int) (hl : l.length ≤ 4000) (hc : l.length ≤ c) (hC : kTok.C w A l.length l) :
    Calls Try.prog 46 #[.slice A l.length c, .int .i64 en] w fun e w' => AltsEnd w (readF en l) e w' ∧ Below w.heap.size w w' := by
  have hmf : ∀ (fn : Fn) (first cap : Array Value) (w : World), (Instr.makeFunc fn first cap).run Try.prog w = .ok (.func fn first cap) w := fun _ _ _ _ => rfl
  obtain ⟨RES, hRES⟩ : ∃ r, r = readF en l := ⟨_, rfl⟩
  rw [← hRES]
  have HRES := Aside0.mk hRES
  have hS0 : St (altsW w) ((altsW w).alloc (.cells #[.slice A l.length c, .int .i64 en, .slice none 0 0] 104 (0, 0))) (fun _ => True) (w.heap.size + 2) A c l en (.slice none 0 0) [] :=
    ⟨by have h := blk_new (altsW w) (.cells #[.slice A l.length c, .int .i64 en, .slice none 0 0] 104 (0, 0)); rw [altsW_size] at h; exact h, Kd.C_below hC (altsW_below w), hc, Kd.R_nil _ _ _ _ _, (Below.refl _ _).alloc (Nat.le_refl _) _, by rw [altsW_size]; omega⟩
  have HS0 := Aside0.mk hS0
  have HP := Aside0.mk (altsW_p w)
  have HQ := Aside0.mk (altsW_q w)
  have HB := Aside0.mk (altsW_below w)
  have HZ := Aside0.mk (altsW_size w)
  clear hRES hS0 hC
  cases hd : defF en l [] with
  | error er =>
    obtain ⟨a, p⟩ := er
    have HD := Lib.hid hd
    have hR : RES = .error (a, p) := by rw [HRES.out, readF, hd]
    have HR := Lib.hid hR
    clear hd hR
    go_enter_defers Try.func46, Try.ntmps46
    go_wp2_with (go_at_call 74; refine (def_c (altsW w) _ _ _ _ _ _ _ _ HS0.out hl (by simp)).mono ?_; rw [HD.out]; rintro e w1 ⟨rfl, hb1⟩)
    have hP := blk_below HP.out hb1
    have hQ := blk_below HQ.out hb1
    have hB := below_then HB.out HB.out.size hb1
    refine leaves_cons (f := 73) (args := #[.pointer (some ⟨w.heap.size, 0, none⟩), .pointer (some ⟨w.heap.size + 1, 0, none⟩)]) (by simp) (by simp [go_sem]) ?_
    refine (altsRec_panicking _ _ _ _ _ _ _ [] _ w w.heap.size hP hQ (by omega) (Nat.le_refl _) (by omega) hB).mono ?_
    rintro e u' w'' ⟨rfl, rfl, hP2, hQ2, hB2⟩
    refine ⟨_, results_alts rfl rfl hP2 hQ2, ?_, hB2⟩
    rw [HR.out]
    rfl
  | ok q =>
    obtain ⟨r0, out0⟩ := q
    have HD := Lib.hid hd
    have hR : restF en r0.length r0 out0 = RES := by rw [HRES.out, readF, hd]
    have HR := Aside0.mk hR
    have HLE := Aside0.mk (defF_le hd)
    clear hd hR
    go_enter_defers Try.func46, Try.ntmps46
    go_wp2_with (go_at_call 74; refine (def_c (altsW w) _ _ _ _ _ _ _ _ HS0.out hl (by simp)).mono ?_; rw [HD.out]; rintro e w1 ⟨rfl, A1, c1, v1, hS1⟩; have HS1 := Aside0.mk hS1; clear hS1)
    go_loopg [] r0.length (fun m wr => ∃ (l' : List Tok) (out' : List Alt) (A' : Option Addr) (c' : Nat) (v' : Value) (k : Nat), l'.length = m ∧ Aside0 (l'.length ≤ k) ∧ Aside0 (restF en k l' out' = RES) ∧ Aside0 (l'.length ≤ 4000) ∧ Aside0 (out'.length ≤ 60) ∧ Aside0 (St (altsW w) wr (fun _ => True) (w.heap.size + 2) A' c' l' en v' out'))
    case atStart => exact ⟨r0, out0, A1, c1, v1, r0.length, rfl, ⟨Nat.le_refl _⟩, HR, ⟨by have := HLE.out; omega⟩, ⟨HLE.out.2⟩, HS1⟩
    case round =>
      obtain ⟨l', out', A', c', v', k, hm, HF', HE', HL', HO', HS'⟩ := hrel
      have a1 := blk_cell HS'.out.cell 0
      simp only [List.getElem?_toArray, List.getElem?_cons_zero, List.getElem?_cons_succ] at a1
      cases l' with
      | nil =>
        simp only [List.length_nil] at hm
        subst hm
        have HP' := blk_below HP.out HS'.out.below
        have HQ' := blk_below HQ.out HS'.out.below
        have HB' := below_then HB.out HB.out.size HS'.out.below
        obtain ⟨Av, cv, ev⟩ := Kd.R_slice HS'.out.row
        subst ev
        have a2 := blk_cell HS'.out.cell 2
        have a3 := blk_cell HP' 0
        have a4 := blk_cell HQ' 0
        have a5 := blk_cell HQ' 1
        have f1 := blk_frozen HP' 0
        have f2 := blk_frozen HQ' 0
        have f3 := blk_frozen HQ' 1
        have HPP := Aside0.mk HP'
        have HQQ := Aside0.mk HQ'
        have HBB := Aside0.mk HB'
        clear HP' HQ' HB'
        simp only [List.getElem?_toArray, List.getElem?_cons_zero, List.getElem?_cons_succ] at a2 a3 a4 a5
        go_wp2
        refine leaves_cons (f := 73) (args := #[.pointer (some ⟨w.heap.size, 0, none⟩), .pointer (some ⟨w.heap.size + 1, 0, none⟩)]) (by simp) (by simp [go_sem]) ?_
        refine (altsRec_idle _ _ _).mono ?_
        rintro e u' w'' ⟨rfl, rfl, rfl⟩
        have hne : w.heap.size ≠ w.heap.size + 1 := by omega
        refine ⟨_, results_alts rfl rfl (blk_far (blk_far (blk_set HPP.out 0 _) hne _) hne _) (blk_set (blk_set (blk_far HQQ.out hne.symm _) 0 _) 1 _), ?_, ?_⟩
        · have hR : RES = .ok out' := by rw [← HE'.out]; cases k <;> rfl
          rw [hR]
          refine ⟨_, rfl, ?_⟩
          have h := Kd.R_lower HS'.out.row (base' := w.heap.size) (by rw [altsW_size]; omega)
          exact Kd.R_set (Kd.R_set (Kd.R_set h HPP.out (by decide) _ _) (blk_far HQQ.out hne.symm _) (by decide) _ _) (blk_set (blk_far HQQ.out hne.symm _) 0 _) (by decide) _ _
        · exact below_set (below_set (below_set HBB.out (Nat.le_refl _) _ _) (by omega) _ _) (by omega) _ _
      | cons t r =>
        have HM := Lib.hid hm
        obtain ⟨k', rfl⟩ : ∃ k', k = k' + 1 := ⟨k - 1, by have := HF'.out; simp at this; omega⟩
        simp only [List.length_cons] at a1
        clear hm
        cases hd : defF en (t :: r) out' with
        | error er =>
          obtain ⟨a, p⟩ := er
          have hR2 : RES = .error (a, p) := by rw [← HE'.out, restF, hd]
          have HD2 := Lib.hid hd
          have HR2 := Lib.hid hR2
          clear hd hR2
          go_wp2_with (go_at_call 74; refine (def_c (altsW w) _ _ _ _ _ _ _ _ HS'.out HL'.out HO'.out).mono ?_; rw [HD2.out]; rintro e w2 ⟨rfl, hb2⟩)
          have hP := blk_below HP.out hb2
          have hQ := blk_below HQ.out hb2
          have hB := below_then HB.out HB.out.size hb2
          refine leaves_cons (f := 73) (args := #[.pointer (some ⟨w.heap.size, 0, none⟩), .pointer (some ⟨w.heap.size + 1, 0, none⟩)]) (by simp) (by simp [go_sem]) ?_
          refine (altsRec_panicking _ _ _ _ _ _ _ [] _ w w.heap.size hP hQ (by omega) (Nat.le_refl _) (by omega) hB).mono ?_
          rintro e u' w'' ⟨rfl, rfl, hP2, hQ2, hB2⟩
          refine ⟨_, results_alts rfl rfl hP2 hQ2, ?_, hB2⟩
          rw [HR2.out]
          rfl
        | ok q =>
          obtain ⟨r2, out2⟩ := q
          have hR2 : restF en k' r2 out2 = RES := by rw [← HE'.out, restF, hd]
          have HLE2 := Aside0.mk (defF_le hd)
          have HD2 := Lib.hid hd
          have HR2 := Aside0.mk hR2
          clear hd hR2
          go_wp2_with (go_at_call 74; refine (def_c (altsW w) _ _ _ _ _ _ _ _ HS'.out HL'.out HO'.out).mono ?_; rw [HD2.out]; rintro e w2 ⟨rfl, A2, c2, v2, hS2⟩; have HS2 := Aside0.mk hS2; clear hS2)
          go_roundg r2.length
          case measure => have := HM.out; have := HLE2.out; simp at *; omega
          case rel => exact ⟨r2, out2, A2, c2, v2, k', rfl, ⟨by have := HLE2.out; have := HF'.out; simp at *; omega⟩, HR2, ⟨by have := HLE2.out; have := HL'.out; omega⟩, ⟨HLE2.out.2⟩, HS2⟩
end Go.Proofs.Ytphmmppmhphgeaa
