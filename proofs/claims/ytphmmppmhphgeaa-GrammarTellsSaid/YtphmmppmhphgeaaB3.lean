/- The contracts of the small questions on grammars. -/
import Derived.Test.YtphmmppmhphgeaaB2
import Derived.Test.YtphmmppmhphgeaaA3
set_option linter.unusedVariables false
set_option linter.unusedSimpArgs false
namespace Go.Proofs.Ytphmmppmhphgeaa
open Go.RowKit Go.Proofs.YtphmmppmhphgeaaW.PrintWords

/-- A grammar as it lies in memory. -/
structure RepG (W : World) (g : Gram) (A1 A2 A3 : Option Addr) (c1 c2 c3 : Nat) : Prop where
  terms : kStr.C W A1 g.terms.length g.terms
  names : kStr.C W A2 g.names.length g.names
  rules : kRule.C W A3 g.rules.length g.rules
  termsCap : g.terms.length ≤ c1
  namesCap : g.names.length ≤ c2
  rulesCap : g.rules.length ≤ c3
theorem RepG.below_ {W W1 : World} {g : Gram} {A1 A2 A3 : Option Addr} {c1 c2 c3 : Nat} (h : RepG W g A1 A2 A3 c1 c2 c3) (hb : Below W.heap.size W W1) : RepG W1 g A1 A2 A3 c1 c2 c3 :=
  ⟨Kd.C_below h.terms hb, Kd.C_below h.names hb, Kd.C_below h.rules hb, h.termsCap, h.namesCap, h.rulesCap⟩
theorem containsStr_n (A : Option Addr) (c n : Nat) (l : List ByteArray) (x : ByteArray) (w : World) (hr : kStr.C w A n l) :
    Calls Try.prog 75 #[.slice A n c, .string x] w fun e w' => e = .returned (.bool (l.any fun y => decide (x = y))) ∧ w = w' := by
  obtain rfl := C_len hr
  exact containsStr_c A c l x w hr
theorem C_take' {α : Type} {d : Kd α} {w : World} {A : Option Addr} {xs : List α} {m : Nat} (h : d.C w A xs.length xs) (hm : m ≤ xs.length) : d.C w A m (xs.take m) := by
  have h1 := Kd.C_take h hm
  rwa [List.length_take, Nat.min_eq_left hm] at h1

set_option maxRecDepth 100000 in
set_option maxHeartbeats 1000000 in
theorem hasIn_c (b : Nat) (x y : Rule) (A B : Option Addr) (c d : Nat) (w : World) (hr : kInt.C w A x.right.length x.right) (hs : kInt.C w B y.right.length y.right) (hb : w.heap[b]? = some (.cells #[.int .i64 y.left, .slice B y.right.length d] 56 (0, 0))) :
    Calls Try.prog 78 #[.agg #[.int .i64 x.left, .slice A x.right.length c], .pointer (some ⟨b, 0, none⟩)] w fun e w' => e = .returned (.bool (decide (x = y))) ∧ Below w.heap.size w w' := by
  have hb1 := blk_alloc hb (.cells #[.int .i64 x.left, .slice A x.right.length c] 56 (0, 0))
  have d1 := blk_cell hb1 0
  have d2 := blk_cell hb1 1
  simp only [List.getElem?_toArray, List.getElem?_cons_zero, List.getElem?_cons_succ] at d1 d2
  have HB := Aside0.mk ((Below.refl w.heap.size w).alloc (Nat.le_refl _) (.cells #[.int .i64 x.left, .slice A x.right.length c] 56 (0, 0)))
  have HR := Aside0.mk hr
  have HS := Aside0.mk hs
  clear hr hs hb hb1
  go_enter Try.func78, Try.ntmps78
  go_wp2_with (go_at_call 79; refine (alike_c _ _ _ _ _ _ _ (Kd.C_below HR.out HB.out) (Kd.C_below HS.out HB.out)).mono ?_; rintro e w1 ⟨rfl, hb1⟩)
  go_ret
  exact ⟨ret_bool rfl, below_then HB.out HB.out.size hb1⟩

set_option maxRecDepth 100000 in
set_option maxHeartbeats 1000000 in
theorem has_c (A B : Option Addr) (c d n : Nat) (l : List Rule) (y : Rule) (w : World) (hr : kRule.C w A n l) (hd : y.right.length ≤ d) (hs : kInt.C w B y.right.length y.right) :
    Calls Try.prog 49 #[.slice A n c, .agg #[.int .i64 y.left, .slice B y.right.length d]] w fun e w' => e = .returned (.bool (l.any fun x => decide (x = y))) ∧ Below w.heap.size w w' := by
  obtain rfl := C_len hr
  have hmf : ∀ (fn : Fn) (first cap : Array Value) (w : World), (Instr.makeFunc fn first cap).run Try.prog w = .ok (.func fn first cap) w := fun _ _ _ _ => rfl
  have hb := blk_new w (.cells #[.int .i64 y.left, .slice B y.right.length d] 56 (0, 0))
  have HB := Aside0.mk ((Below.refl w.heap.size w).alloc (Nat.le_refl _) (.cells #[.int .i64 y.left, .slice B y.right.length d] 56 (0, 0)))
  have HP : Aside0 (PredR (w.alloc (.cells #[.int .i64 y.left, .slice B y.right.length d] 56 (0, 0))) (.func (.func 78) #[] #[.pointer (some ⟨w.heap.size, 0, none⟩)]) (fun x => decide (x = y)) l) :=
    ⟨⟨_, _, _, rfl, fun _ _ => by kernel_rfl, fun x _ W A c hW _ hx => hasIn_c _ x y A B c d W hx (Kd.C_below (Kd.C_below hs HB.out) hW) (blk_below hb hW)⟩⟩
  have HR := Aside0.mk hr
  clear hr hs hb
  go_enter Try.func49, Try.ntmps49
  go_wp2_with (go_at_call 77; refine (containsFuncRule_c _ _ _ _ _ _ (Kd.C_below HR.out HB.out) HP.out).mono ?_; rintro e w1 ⟨rfl, hb1⟩)
  go_ret
  exact ⟨ret_bool rfl, below_then HB.out HB.out.size hb1⟩

def termF (g : Gram) (sym : Int) : Bool := decide (0 ≤ sym ∧ sym < g.terms.length)
set_option maxRecDepth 100000 in
set_option maxHeartbeats 1000000 in
theorem term_c (g : Gram) (A1 A2 A3 : Option Addr) (c1 c2 c3 : Nat) (sym : Int) (w : World) :
    Calls Try.prog 25 #[.agg #[.slice A1 g.terms.length c1, .slice A2 g.names.length c2, .slice A3 g.rules.length c3], .int .i64 sym] w fun e w' => e = .returned (.bool (termF g sym)) ∧ Below w.heap.size w w' := by
  have HB := Aside0.mk ((Below.refl w.heap.size w).alloc (Nat.le_refl _) (.cells #[.slice A1 g.terms.length c1, .slice A2 g.names.length c2, .slice A3 g.rules.length c3] 25 (0, 0)))
  by_cases h1 : 0 ≤ sym <;> by_cases h2 : sym < g.terms.length
  all_goals
    go_enter Try.func25, Try.ntmps25
    go_wp2
    go_ret
    exact ⟨ret_bool (by simp [termF, h1, h2]), HB.out⟩

def nameF (g : Gram) (sym : Int) : Option ByteArray :=
  if sym < 0 then none else if sym < g.terms.length then g.terms[sym.toNat]? else g.names[sym.toNat - g.terms.length]?
def NameEnd (r : Option ByteArray) (e : Ending) : Prop :=
  match r with
  | some s => e = .returned (.tuple #[.string s, .bool true])
  | none => e = .returned (.tuple #[.string ⟨#[]⟩, .bool false])
theorem name_some {r : Option ByteArray} {s s' : ByteArray} (h : r = some s) (hs : s' = s) : NameEnd r (.returned (.tuple #[.string s', .bool true])) := by
  subst h hs
  rfl
theorem name_none {r : Option ByteArray} (h : r = none) : NameEnd r (.returned (.tuple #[.string ⟨#[]⟩, .bool false])) := by
  subst h
  rfl
set_option maxRecDepth 100000 in
set_option maxHeartbeats 2000000 in
theorem name_c (g : Gram) (A1 A2 A3 : Option Addr) (c1 c2 c3 : Nat) (sym : Int) (w : World) (hg : RepG w g A1 A2 A3 c1 c2 c3) (hsz : g.terms.length + g.names.length ≤ 4000000000000000) (hi : -9223372036854775808 ≤ sym ∧ sym ≤ 9223372036854775807) :
    Calls Try.prog 20 #[.agg #[.slice A1 g.terms.length c1, .slice A2 g.names.length c2, .slice A3 g.rules.length c3], .int .i64 sym] w fun e w' => NameEnd (nameF g sym) e ∧ Below w.heap.size w w' := by
  have HB := Aside0.mk ((Below.refl w.heap.size w).alloc (Nat.le_refl _) (.cells #[.slice A1 g.terms.length c1, .slice A2 g.names.length c2, .slice A3 g.rules.length c3] 25 (0, 0)))
  have HG := Aside0.mk hg
  clear hg
  by_cases h1 : sym < 0
  · have HE : Aside0 (nameF g sym = none) := ⟨by unfold nameF; rw [if_pos h1]⟩
    go_enter Try.func20, Try.ntmps20
    go_wp2
    go_ret2
    exact ⟨name_none HE.out, HB.out⟩
  · obtain ⟨k, rfl⟩ := Int.eq_ofNat_of_zero_le (by omega : 0 ≤ sym)
    by_cases h2 : k < g.terms.length + g.names.length
    · by_cases h3 : k < g.terms.length
      · obtain ⟨ad, ead, hx⟩ := at_str (Kd.C_below HG.out.terms HB.out) k h3
        cases ead
        have HE : Aside0 (nameF g (k : Int) = some (g.terms[k]'h3)) := ⟨by unfold nameF; rw [if_neg h1, if_pos (by omega), Int.toNat_natCast, List.getElem?_eq_getElem h3]⟩
        go_enter Try.func20, Try.ntmps20
        go_wp2
        go_ret2
        exact ⟨name_some HE.out rfl, HB.out⟩
      · obtain ⟨m, rfl⟩ : ∃ m, k = m + g.terms.length := ⟨k - g.terms.length, by omega⟩
        have h4 : m < g.names.length := by omega
        obtain ⟨ad, ead, hx⟩ := at_str (Kd.C_below HG.out.names HB.out) m h4
        cases ead
        have e1 : IntKind.i64.wrap ((↑(m + g.terms.length) : Int) - (g.terms.length : Int)) = (m : Int) := by rw [IntWalk.i64_in _ (by omega)]; omega
        have HE : Aside0 (nameF g ((m + g.terms.length : Nat) : Int) = some (g.names[m]'h4)) := ⟨by unfold nameF; rw [if_neg h1, if_neg (by omega), Int.toNat_natCast, Nat.add_sub_cancel, List.getElem?_eq_getElem h4]⟩
        go_enter Try.func20, Try.ntmps20
        go_wp2
        go_ret2
        exact ⟨name_some HE.out rfl, HB.out⟩
    · have HE : Aside0 (nameF g (k : Int) = none) := ⟨by unfold nameF; rw [if_neg h1, if_neg (by omega), Int.toNat_natCast, List.getElem?_eq_none (by omega)]⟩
      go_enter Try.func20, Try.ntmps20
      go_wp2
      go_ret2
      exact ⟨name_none HE.out, HB.out⟩

/-! ### whether numbers come first in order -/
def risF (upto : Int) : List Int → Int → Bool
  | [], fr => fr == upto
  | n :: l, fr => if fr < n then false else risF upto l (if n = fr then fr + 1 else fr)
theorem risF_drop {upto : Int} {l : List Int} {k : Nat} {fr : Int} {R : Bool} (hk : k < l.length) (h : risF upto (l.drop k) fr = R) : (if fr < l[k]'hk then false else risF upto (l.drop (k + 1)) (if l[k]'hk = fr then fr + 1 else fr)) = R := by
  rw [List.drop_eq_getElem_cons hk, risF] at h
  exact h
set_option maxRecDepth 100000 in
set_option maxHeartbeats 1000000 in
theorem rising_c (A : Option Addr) (c n : Nat) (l : List Int) (fr upto : Int) (w : World) (hr : kInt.C w A n l) (hb : -4000000000000000000 ≤ fr ∧ fr ≤ 1000000000000000) (hn : n ≤ 1000000000000000) :
    Calls Try.prog 59 #[.slice A n c, .int .i64 fr, .int .i64 upto] w fun e w' => e = .returned (.bool (risF upto l fr)) ∧ w = w' := by
  obtain rfl := C_len hr
  obtain ⟨b1, b2⟩ := hb
  have HR := Aside0.mk hr
  clear hr
  obtain ⟨R, hR⟩ : ∃ R, risF upto l fr = R := ⟨_, rfl⟩
  rw [hR]
  have HE := Aside0.mk hR
  clear hR
  go_enter Try.func59, Try.ntmps59
  go_wp2
  go_loop [11, 1] (fun i f => ∃ (k : Nat) (x : Int), k ≤ l.length ∧ i = .int .i64 k ∧ f = .int .i64 x ∧ -4000000000000000000 ≤ x ∧ x ≤ 1000000000000000 + k ∧ Aside0 (risF upto (l.drop k) x = R)) (fun i _ => l.length - (intOf i).toNat)
  case atStart => exact ⟨0, fr, Nat.zero_le _, rfl, rfl, b1, by omega, ⟨HE.out⟩⟩
  case round =>
    obtain ⟨k, x, hk, rfl, rfl, hx1, hx2, HI⟩ := hrel
    by_cases hlt : k < l.length
    · obtain ⟨ad, ead, hx⟩ := at_int HR.out k hlt
      cases ead
      have hS := risF_drop hlt HI.out
      by_cases h1 : x < l[k]'hlt
      · rw [if_pos h1] at hS
        have HS := Aside0.mk hS
        clear hS
        go_wp2
        go_ret
        exact ⟨ret_bool HS.out, rfl⟩
      · rw [if_neg h1] at hS
        by_cases h2 : l[k]'hlt = x
        · rw [if_pos h2] at hS
          have HS := Aside0.mk hS
          have h2b : ((l[k]'hlt) == x) = true := by rw [h2]; simp
          clear hS h2
          go_wp2
          go_round
          case rel => exact ⟨k + 1, x + 1, by omega, by go_num, rfl, by omega, by omega, HS⟩
          case measure => simp [intOf]; omega
        · rw [if_neg h2] at hS
          have HS := Aside0.mk hS
          have h2b : ((l[k]'hlt) == x) = false := by simpa using h2
          clear hS h2
          go_wp2
          go_round
          case rel => exact ⟨k + 1, x, by omega, by go_num, rfl, by omega, by omega, HS⟩
          case measure => simp [intOf]; omega
    · have hS := HI.out
      rw [List.drop_eq_nil_of_le (by omega), risF] at hS
      have HS := Aside0.mk hS
      clear hS
      go_wp2
      go_ret
      exact ⟨ret_bool HS.out, rfl⟩

/-! ### distinct texts -/
def distF (may : ByteArray → Bool) : List ByteArray → List ByteArray → Bool
  | _, [] => true
  | seen, s :: l => if may s = false then false else if (seen.any fun y => decide (s = y)) = true then false else distF may (seen ++ [s]) l
theorem distF_drop {may : ByteArray → Bool} {l : List ByteArray} {k : Nat} {R : Bool} (hk : k < l.length) (h : distF may (l.take k) (l.drop k) = R) :
    (if may (l[k]'hk) = false then false else if ((l.take k).any fun y => decide (l[k]'hk = y)) = true then false else distF may (l.take (k + 1)) (l.drop (k + 1))) = R := by
  rw [List.drop_eq_getElem_cons hk, distF] at h
  rw [List.take_succ_eq_append_getElem hk]
  exact h
structure PredS (fv : Value) (p : ByteArray → Bool) : Prop where
  ex : ∃ f first cap, fv = .func (.func f) first cap ∧ (∀ args w, (callFunc f args).run Try.prog w = .ok (.enter f args) w) ∧ ∀ x w, Calls Try.prog f (first.push (.string x) ++ cap) w fun e w' => e = .returned (.bool (p x)) ∧ w = w'
theorem pred_isName : PredS (.func (.func 56) #[] #[]) (fun s => isNameF (bsl s)) := ⟨_, _, _, rfl, fun _ _ => by kernel_rfl, fun s w => isName_c s w⟩
theorem pred_isTerm : PredS (.func (.func 57) #[] #[]) (fun s => isTermF (bsl s)) := ⟨_, _, _, rfl, fun _ _ => by kernel_rfl, fun s w => isTerm_c s w⟩
set_option maxRecDepth 100000 in
set_option maxHeartbeats 1000000 in
theorem distinct_c (A : Option Addr) (c n : Nat) (l : List ByteArray) (least most : Int) (fv : Value) (may : ByteArray → Bool) (w : World) (hr : kStr.C w A n l) (hc : n ≤ c) (hp : PredS fv may) :
    Calls Try.prog 55 #[.slice A n c, .int .i64 least, .int .i64 most, fv] w fun e w' => e = .returned (.bool (distF may [] l && decide (least ≤ l.length) && decide (l.length ≤ most))) ∧ w = w' := by
  obtain rfl := C_len hr
  have hm := C_max hr
  have HR := Aside0.mk hr
  clear hr
  obtain ⟨f, first, cap, rfl, hcf, hcall⟩ := hp.ex
  have HC := Aside0.mk hcall
  clear hcall hp
  obtain ⟨R, hR⟩ : ∃ R, distF may [] l = R := ⟨_, rfl⟩
  rw [hR]
  have HE := Aside0.mk hR
  clear hR
  go_enter Try.func55, Try.ntmps55
  go_wp2
  go_loop [13] (fun i => ∃ k : Nat, k ≤ l.length ∧ i = .int .i64 k ∧ Aside0 (distF may (l.take k) (l.drop k) = R)) (fun i => l.length - (intOf i).toNat)
  case atStart => exact ⟨0, Nat.zero_le _, rfl, ⟨HE.out⟩⟩
  case round =>
    obtain ⟨k, hk, rfl, HI⟩ := hrel
    by_cases hlt : k < l.length
    · obtain ⟨ad, ead, hx⟩ := at_str HR.out k hlt
      cases ead
      have hS := distF_drop hlt HI.out
      have HT := Aside0.mk (C_take' HR.out hk)
      cases h1 : may (l[k]'hlt)
      · rw [if_pos h1] at hS
        have HS := Aside0.mk hS
        clear hS
        go_wp2_with (first | (go_at_call 75; refine (containsStr_n _ _ _ _ _ _ HT.out).mono ?_; rintro e w' ⟨rfl, rfl⟩) | (refine (HC.out (l[k]'hlt) _).mono ?_; rw [h1]; rintro e w' ⟨rfl, rfl⟩))
        go_ret
        exact ⟨ret_bool (by rw [← HS.out]; rfl), rfl⟩
      · rw [if_neg (by rw [h1]; simp)] at hS
        cases h2 : ((l.take k).any fun y => decide (l[k]'hlt = y))
        · rw [if_neg (by rw [h2]; simp)] at hS
          have HS := Aside0.mk hS
          clear hS
          go_wp2_with (first | (go_at_call 75; refine (containsStr_n _ _ _ _ _ _ HT.out).mono ?_; rw [h2]; rintro e w' ⟨rfl, rfl⟩) | (refine (HC.out (l[k]'hlt) _).mono ?_; rw [h1]; rintro e w' ⟨rfl, rfl⟩))
          go_round
          case rel => exact ⟨k + 1, by omega, by go_num, HS⟩
          case measure => simp [intOf]; omega
        · rw [if_pos h2] at hS
          have HS := Aside0.mk hS
          clear hS
          go_wp2_with (first | (go_at_call 75; refine (containsStr_n _ _ _ _ _ _ HT.out).mono ?_; rw [h2]; rintro e w' ⟨rfl, rfl⟩) | (refine (HC.out (l[k]'hlt) _).mono ?_; rw [h1]; rintro e w' ⟨rfl, rfl⟩))
          go_ret
          exact ⟨ret_bool (by rw [← HS.out]; rfl), rfl⟩
    · have hS := HI.out
      rw [List.drop_eq_nil_of_le (by omega), distF] at hS
      have HS := Aside0.mk hS
      clear hS
      by_cases g1 : least ≤ l.length <;> by_cases g2 : (l.length : Int) ≤ most
      all_goals
        go_wp2
        go_ret
        exact ⟨ret_bool (by simp [← HS.out, g1, g2]), rfl⟩
end Go.Proofs.Ytphmmppmhphgeaa
