/- The contract of the text's tokens; what is thrown is caught. -/
import Derived.Test.YtphmmppmhphgeaaA3
import Derived.Test.YtphmmppmhphgeaaWa
import Derived.Recover
set_option linter.unusedVariables false
set_option linter.unusedSimpArgs false
namespace Go.Proofs.Ytphmmppmhphgeaa
open Go.RowKit Go.Proofs.YtphmmppmhphgeaaW.PrintWords

set_option maxRecDepth 100000 in
set_option maxHeartbeats 1000000 in
theorem tokRec_panicking (bp bq : Nat) (v : Value) (x y at_ : Int) (older : List PanicEntry) (w w0 : World) (B : Nat) (hp : w.heap[bp]? = some (.cells #[v] 45 (0, 0))) (hq : w.heap[bq]? = some (.cells #[.int .i64 x, .int .i64 y] 30 (0, 0))) (hpq : bp ≠ bq) (hBp : B ≤ bp) (hBq : B ≤ bq) (hb : Below B w0 w) :
    CallsD Try.prog 62 #[.pointer (some ⟨bp, 0, none⟩), .pointer (some ⟨bq, 0, none⟩)] (.panicking ({ v := .iface 89 (.agg #[.int .i64 at_]), recovered := false } :: older)) w fun e u' w' =>
      e = .returned (.tuple #[]) ∧ u' = .panicking ({ v := .iface 89 (.agg #[.int .i64 at_]), recovered := true } :: older) ∧ w'.heap[bp]? = some (.cells #[.slice none 0 0] 45 (0, 0)) ∧ w'.heap[bq]? = some (.cells #[.int .i64 11, .int .i64 at_] 30 (0, 0)) ∧ Below B w0 w' := by
  have hta : ∀ w, (Instr.typeAssert (.iface 89 (.agg #[.int .i64 at_])) 20 89 true).run Try.prog w = .ok (.tuple #[.agg #[.int .i64 at_], .bool true]) w := fun w => by kernel_rfl
  have n1 : ¬ bp = w.heap.size := by have := blk_lt hp; omega
  have n2 : ¬ bq = w.heap.size := by have := blk_lt hq; omega
  have n3 : ¬ w.heap.size = bp := fun h => n1 h.symm
  have n4 : ¬ w.heap.size = bq := fun h => n2 h.symm
  have n5 : ¬ bp = bq := hpq
  have n6 : ¬ bq = bp := fun h => hpq h.symm
  have hp1 := blk_alloc hp (.cells #[.int .i64 at_] 89 (0, 0))
  have hq1 := blk_alloc hq (.cells #[.int .i64 at_] 89 (0, 0))
  have hb1 := hb.alloc (by have := blk_lt hp; omega : B ≤ w.heap.size) (.cells #[.int .i64 at_] 89 (0, 0))
  have HP1 := Aside0.mk hp1
  have HQ1 := Aside0.mk hq1
  have HB1 := Aside0.mk hb1
  have c1 := blk_cell hp1 0
  have c2 := blk_cell hq1 0
  have c3 := blk_cell hq1 1
  have f1 := blk_frozen hp1 0
  have f2 := blk_frozen hq1 0
  have f3 := blk_frozen hq1 1
  clear hp hq hb hp1 hq1 hb1
  simp only [List.getElem?_toArray, List.getElem?_cons_zero, List.getElem?_cons_succ] at c1 c2 c3
  refine callsD_of_wpS Try.func62 rfl fun c₀ cs hu => ?_
  apply wpS_seq
  apply wpS_region
  simp [wpOpsS, go_sem, recoverD, hu, Try.ntmps62, Exit.thenS]
  refine wpS_of_wp ?_
  simp only [Array.replicate_succ, Array.replicate_zero, List.push_toArray, List.append_toArray, List.nil_append, List.cons_append, List.setIfInBounds_toArray, List.set_cons_zero, List.set_cons_succ]
  go_wp2
  go_region
  all_goals
    go_wp2
    refine ⟨rfl, _, rfl, .tuple #[], results_none rfl _ _ _, rfl, rfl, ?_, ?_, ?_⟩
    · exact blk_far (blk_far (blk_set HP1.out 0 _) hpq _) hpq _
    · exact blk_set (blk_set (blk_far HQ1.out (fun h => hpq h.symm) _) 0 _) 1 _
    · exact below_set (below_set (below_set HB1.out.drew hBp _ _) hBq _ _) hBq _ _

set_option maxRecDepth 100000 in
theorem tokRec_idle (p q : Option Addr) (w : World) :
    CallsD Try.prog 62 #[.pointer p, .pointer q] .returning w fun e u' w' => e = .returned (.tuple #[]) ∧ u' = .returning ∧ w = w' := by
  refine callsD_of_wpS Try.func62 rfl fun c₀ cs hu => ?_
  apply wpS_seq
  apply wpS_region
  simp [wpOpsS, go_sem, recoverD, hu, Try.ntmps62, Exit.thenS]
  refine wpS_of_wp ?_
  simp only [Array.replicate_succ, Array.replicate_zero, List.push_toArray, List.append_toArray, List.nil_append, List.cons_append, List.setIfInBounds_toArray, List.set_cons_zero, List.set_cons_succ]
  go_wp2
  exact ⟨rfl, _, by cases c₀; simp_all, .tuple #[], results_none rfl _ _ _, rfl, rfl, rfl⟩

/-- Tokens one behind the other, from a place on at which one begins. -/
def toksF : Nat → Nat → List UInt8 → List Tok → Except Nat (List Tok)
  | 0, at_, _, _ => .error at_
  | _ + 1, _, [], acc => .ok acc
  | k + 1, at_, c :: r, acc =>
    match tokenF (c :: r) at_ with
    | none => .error at_
    | some (t, n) => toksF k (at_ + n + skipF false ((c :: r).drop n)) (((c :: r).drop n).drop (skipF false ((c :: r).drop n))) (acc ++ [t])
inductive LexR where
  | large
  | wrong (at_ : Nat)
  | ok (l : List Tok)
def lexF (l : List UInt8) : LexR :=
  if 2000 < l.length then .large else
  match toksF (l.length + 1) (skipF false l) (l.drop (skipF false l)) [] with
  | .error at_ => .wrong at_
  | .ok l => .ok l

theorem toksF_some {k : Nat} {at_ : Nat} {l : List UInt8} {acc : List Tok} {t : Tok} {n : Nat} (h : tokenF l at_ = some (t, n)) : toksF (k + 1) at_ l acc = toksF k (at_ + n + skipF false (l.drop n)) ((l.drop n).drop (skipF false (l.drop n))) (acc ++ [t]) := by
  cases l with
  | nil => cases h
  | cons c r => simp only [toksF, h]
theorem toksF_none {k : Nat} {at_ : Nat} {l : List UInt8} {acc : List Tok} (hl : l ≠ []) (h : tokenF l at_ = none) : toksF (k + 1) at_ l acc = .error at_ := by
  cases l with
  | nil => exact absurd rfl hl
  | cons c r => simp only [toksF, h]
theorem tokenF_bound {l : List UInt8} {at_ : Int} {t : Tok} {n : Nat} (h : tokenF l at_ = some (t, n)) : 0 < n ∧ n ≤ l.length := by
  cases l with
  | nil => cases h
  | cons c r =>
    rw [tokenF_cons] at h
    split at h
    · rename_i hc
      split at h
      · injection h with h
        injection h with _ h
        subst h
        refine ⟨?_, runF_le _ _⟩
        exact runF_ge (by simp) (fun j hj hj1 => by obtain rfl : j = 0 := by omega
                                                    simp [innerB, hc])
      · cases h
    · split at h
      · split at h
        · rename_i h2
          injection h with h
          injection h with _ h
          subst h
          refine ⟨by omega, ?_⟩
          rcases Nat.lt_or_ge (runF r insideB) r.length with h3 | h3
          · simp; omega
          · rw [List.getElem?_eq_none h3] at h2
            cases h2.2
        · cases h
      · split at h
        · cases h
        · injection h with h
          injection h with _ h
          subst h
          simp

def ToksEnd (r : Except Nat (List Tok)) (w : World) (e : Ending) (w' : World) : Prop :=
  match r with
  | .error at_ => e = .returned (.tuple #[.slice none 0 0, .agg #[.int .i64 11, .int .i64 at_]])
  | .ok l => ∃ v, e = .returned (.tuple #[v, .agg #[.int .i64 0, .int .i64 0]]) ∧ kTok.R 49 w' w.heap.size (fun _ => True) v l

theorem results_tokens {tmps : Array Value} {W : World} {g g' : Nat} {A : Option Addr} {n c : Nat} {x y : Int} (t2 : tmps.getD 2 undef = .pointer (some ⟨g, 0, none⟩)) (t3 : tmps.getD 3 undef = .pointer (some ⟨g', 0, none⟩))
    (h : W.heap[g]? = some (.cells #[.slice A n c] 45 (0, 0))) (h' : W.heap[g']? = some (.cells #[.int .i64 x, .int .i64 y] 30 (0, 0))) :
    (results Try.f26 tmps).run Try.prog W = .ok (.tuple #[.slice A n c, .agg #[.int .i64 x, .int .i64 y]]) W := by
  have d1 := blk_cell h 0
  have d2 := blk_cell h' 0
  have d3 := blk_cell h' 1
  simp only [List.getElem?_toArray, List.getElem?_cons_zero, List.getElem?_cons_succ] at d1 d2 d3
  simp only [Array.getD_eq_getD_getElem?] at t2 t3
  simp [results, Try.results26, go_sem, d1, d2, d3, t2, t3]
set_option maxRecDepth 100000 in
set_option maxHeartbeats 4000000 in
theorem tokens_c (s : ByteArray) (w : World) (hs : s.size ≤ 2000) : Calls Try.prog 26 #[.string s] w fun e w' =>
    ToksEnd (toksF ((bsl s).length + 1) (skipF false (bsl s)) ((bsl s).drop (skipF false (bsl s))) []) w e w' ∧ Below w.heap.size w w' := by
  have hm : s.size ≤ maxLen := by unfold maxLen; omega
  have hl := size_data s
  have hk0 := skipF_le false (bsl s)
  have hmf : ∀ (fn : Fn) (first cap : Array Value) (w : World), (Instr.makeFunc fn first cap).run Try.prog w = .ok (.func fn first cap) w := fun _ _ _ _ => rfl
  obtain ⟨RES, hRES⟩ : ∃ r, r = toksF ((bsl s).length + 1) (skipF false (bsl s)) ((bsl s).drop (skipF false (bsl s))) [] := ⟨_, rfl⟩
  rw [← hRES]
  have HRES := Aside0.mk hRES
  clear hRES
  have HK0 := Aside0.mk hk0
  have HL := Aside0.mk hl
  clear hk0 hl
  go_enter_defers Try.func26, Try.ntmps26
  go_wp2_with (go_at_call 63; refine (skipped_c _ _ hm).mono ?_; rintro e w' ⟨rfl, rfl⟩)
  go_loopw [4] (fun i wr => ∃ (k : Nat) (acc : List Tok) (v : Value) (fuel : Nat), k ≤ s.size ∧ i = .int .i64 k ∧ Aside0 (toksF fuel k ((bsl s).drop k) acc = RES) ∧ Aside0 (acc.length ≤ k) ∧ Aside0 (s.size - k < fuel) ∧
      Aside0 (wr.heap[w.heap.size]? = some (.cells #[v] 45 (0, 0))) ∧ Aside0 (wr.heap[w.heap.size + 1]? = some (.cells #[.int .i64 0, .int .i64 0] 30 (0, 0))) ∧ Aside0 (kTok.R 49 wr w.heap.size (fun _ => True) v acc) ∧ Aside0 (Below w.heap.size w wr)) (fun i _ => s.size - (intOf i).toNat)
  case atStart => exact ⟨skipF false (bsl s), [], .slice none 0 0, (bsl s).length + 1, by have := HK0.out; have := HL.out; omega, rfl, ⟨HRES.out.symm⟩, ⟨Nat.zero_le _⟩, ⟨by have := HL.out; omega⟩, ⟨blk_alloc (blk_new w _) _⟩, ⟨by simpa using blk_new (w.alloc (.cells #[.slice none 0 0] 45 (0, 0))) (.cells #[.int .i64 0, .int .i64 0] 30 (0, 0))⟩, ⟨Kd.R_nil _ _ _ _ _⟩, ⟨((Below.refl _ _).alloc (Nat.le_refl _) _).alloc (by simp) _⟩⟩
  case round =>
    obtain ⟨k, acc, v, fuel, hk, rfl, HT, HA, HF, HP, HQ, HR, HB⟩ := hrel
    obtain ⟨A, c, rfl⟩ := Kd.R_slice HR.out
    by_cases hlt : k < s.size
    · have HX := Lib.hid (bsl_drop s k)
      have hxs := extract_to_size s k hk
      have hx0 : 0 < (s.extract k s.size).size := by omega
      have hxm : (s.extract k s.size).size ≤ maxLen := by unfold maxLen; omega
      clear hxs
      cases hT : tokenF ((bsl s).drop k) k with
      | none =>
        have HTN := Aside0.mk hT
        clear hT
        go_wp2_with (go_at_call 64; refine (token_c _ _ _ hxm hx0).mono ?_; rw [HX.out, HTN.out]; rintro e w1 ⟨rfl, hb1⟩)
        have hP := blk_below HP.out hb1
        have hQ := blk_below HQ.out hb1
        have hB := below_then HB.out HB.out.size hb1
        refine leaves_cons (f := 62) (args := #[.pointer (some ⟨w.heap.size, 0, none⟩), .pointer (some ⟨w.heap.size + 1, 0, none⟩)]) (by simp) (by simp [go_sem]) ?_
        refine (tokRec_panicking _ _ _ _ _ _ [] _ w w.heap.size hP hQ (by omega) (Nat.le_refl _) (by omega) hB).mono ?_
        rintro e u' w'' ⟨rfl, rfl, hP2, hQ2, hB2⟩
        refine ⟨_, results_tokens rfl rfl hP2 hQ2, ?_, hB2⟩
        obtain ⟨f', rfl⟩ : ∃ m, fuel = m + 1 := ⟨fuel - 1, by have := HF.out; omega⟩
        have hR : RES = .error k := by rw [← HT.out]; exact toksF_none (fun h => by have h2 := congrArg List.length h; have := HL.out; rw [List.length_drop] at h2; simp at h2; omega) HTN.out
        rw [hR]
        rfl
      | some p =>
        obtain ⟨t, n⟩ := p
        have HTN := Aside0.mk hT
        clear hT
        have hnb := tokenF_bound HTN.out
        rw [List.length_drop, HL.out] at hnb
        have hkn : k + n ≤ s.size := by omega
        have hX2 := bsl_drop s (k + n)
        rw [← List.drop_drop] at hX2
        have HX2 := Lib.hid hX2
        have hx2 := extract_to_size s (k + n) hkn
        have hx2m : (s.extract (k + n) s.size).size ≤ maxLen := by unfold maxLen; omega
        have HNB := Aside0.mk hnb
        have hsk := skipF_le false (bsl (s.extract (k + n) s.size))
        rw [size_data, hx2] at hsk
        have hsk2 : k + n + skipF false (bsl (s.extract (k + n) s.size)) ≤ s.size := by omega
        clear hsk
        clear hX2 hx2 hnb
        go_wp2_with (first | (go_at_call 64; refine (token_c _ _ _ hxm hx0).mono ?_; rw [HX.out, HTN.out]; rintro e w1 ⟨rfl, hb1⟩; have P1 := Aside0.mk (blk_alloc (blk_below HP.out hb1) (.cells #[.int .i64 t.kind, .string t.text, .int .i64 t.pos] 49 (0, 0))); have Q1 := Aside0.mk (blk_alloc (blk_below HQ.out hb1) (.cells #[.int .i64 t.kind, .string t.text, .int .i64 t.pos] 49 (0, 0))); have B1 := Aside0.mk (below_then HB.out HB.out.size hb1); have R1 := Aside0.mk (Kd.R_below HR.out hb1); clear hb1; have c1 := blk_cell P1.out 0; simp only [List.getElem?_toArray, List.getElem?_cons_zero] at c1) | (go_at_call 63; refine (skipped_c _ _ hx2m).mono ?_; rintro e w' ⟨rfl, rfl⟩) | (at_builtin; refine app_tok (p := t) rfl rfl (Kd.R_below R1.out (below_alloc (Below.refl _ _) _)) (below_alloc B1.out _) (by have := B1.out.size; simp; omega) (by have := HA.out; omega) (fun _ _ => trivial) rfl (by simp [Act.eval]) ?_; intro v2 w2 A2; obtain ⟨A', c', rfl⟩ := A2.shape; have P2 := Aside0.mk (blk_grown P1.out A2.grown (Kd.R_ne (Kd.R_below R1.out (below_alloc (Below.refl _ _) _)) P1.out (by decide))); have A2' := Aside0.mk A2; clear A2; have f1 := blk_frozen P2.out 0; have c5 := blk_cell P2.out 0; simp only [List.getElem?_toArray, List.getElem?_cons_zero] at c5))
        go_roundw
        case rel =>
          have hne : w.heap.size ≠ w.heap.size + 1 := by omega
          have hne2 : some (w.heap.size + 1) ≠ (Value.slice A acc.length c).ownBlock := Kd.R_ne (Kd.R_below R1.out (below_alloc (Below.refl _ _) _)) Q1.out (by decide)
          obtain ⟨f', rfl⟩ : ∃ m, fuel = m + 1 := ⟨fuel - 1, by have := HF.out; omega⟩
          refine ⟨k + n + skipF false (bsl (s.extract (k + n) s.size)), acc ++ [t], _, f', by omega, by go_num, ⟨?_⟩, ⟨?_⟩, ⟨?_⟩, ⟨blk_set P2.out 0 _⟩, ⟨blk_far (blk_grown Q1.out A2'.out.grown hne2) hne.symm _⟩, ⟨Kd.R_set A2'.out.row P2.out (by decide) _ _⟩, ⟨below_set A2'.out.below (Nat.le_refl _) _ _⟩⟩
          · have h := toksF_some (k := f') (acc := acc) HTN.out
            rw [← HX2.out] at h
            rw [← HT.out, h, bsl_drop, List.drop_drop]
          · rw [List.length_append, List.length_singleton]
            have := HA.out
            have := HNB.out
            omega
          · have := HF.out
            have := HNB.out
            omega
        case measure => have := HNB.out; simp [intOf]; omega
    · have c1 := blk_cell HP.out 0
      have c2 := blk_cell HQ.out 0
      have c3 := blk_cell HQ.out 1
      have f1 := blk_frozen HP.out 0
      have f2 := blk_frozen HQ.out 0
      have f3 := blk_frozen HQ.out 1
      simp only [List.getElem?_toArray, List.getElem?_cons_zero, List.getElem?_cons_succ] at c1 c2 c3
      go_wp2
      refine leaves_cons (f := 62) (args := #[.pointer (some ⟨w.heap.size, 0, none⟩), .pointer (some ⟨w.heap.size + 1, 0, none⟩)]) (by simp) (by simp [go_sem]) ?_
      refine (tokRec_idle _ _ _).mono ?_
      rintro e u' w'' ⟨rfl, rfl, rfl⟩
      have hne : w.heap.size ≠ w.heap.size + 1 := by omega
      refine ⟨_, results_tokens rfl rfl (blk_far (blk_far (blk_set HP.out 0 _) hne _) hne _) (blk_set (blk_set (blk_far HQ.out hne.symm _) 0 _) 1 _), ?_, ?_⟩
      · obtain ⟨f', rfl⟩ : ∃ m, fuel = m + 1 := ⟨fuel - 1, by have := HF.out; omega⟩
        have hR : RES = .ok acc := by rw [← HT.out, List.drop_eq_nil_of_le (by have := HL.out; omega)]; rfl
        rw [hR]
        refine ⟨_, rfl, ?_⟩
        exact Kd.R_set (Kd.R_set (Kd.R_set HR.out HP.out (by decide) _ _) (blk_far HQ.out hne.symm _) (by decide) _ _) (blk_set (blk_far HQ.out hne.symm _) 0 _) (by decide) _ _
      · exact below_set (below_set (below_set HB.out (Nat.le_refl _) _ _) (by omega) _ _) (by omega) _ _

set_option maxRecDepth 100000 in
set_option maxHeartbeats 1000000 in
theorem tokens_large (s : ByteArray) (w : World) (hs : 2000 < s.size) : Calls Try.prog 26 #[.string s] w fun e w' =>
    e = .returned (.tuple #[.slice none 0 0, .agg #[.int .i64 14, .int .i64 0]]) ∧ Below w.heap.size w w' := by
  go_enter_defers Try.func26, Try.ntmps26
  go_wp2
  refine ⟨_, results_tokens rfl rfl (blk_alloc (blk_new w _) _) (by simpa using blk_new (w.alloc (.cells #[.slice none 0 0] 45 (0, 0))) (.cells #[.int .i64 14, .int .i64 0] 30 (0, 0))), rfl, ?_⟩
  exact ((Below.refl _ _).alloc (Nat.le_refl _) _).alloc (by simp) _
end Go.Proofs.Ytphmmppmhphgeaa
