/- Plain laws of charts,for the law ChartHolds: nothing,a word's part alone,pivots. -/
import Derived.Test.YtmkgcjhimajgiaaP33j
import Derived.Test.YtmkgcjhimajgiaaJN
set_option linter.unusedVariables false
set_option linter.unusedSimpArgs false
namespace Go.Proofs.Ytmkgcjhimajgiaa
open Go.RowKit Go.Proofs.YtmkgcjhimajgiaaW.PrintWords Go.Proofs.YtmkgcjhimajgiaaW.PrintLast Go.Conc

/-! ### a nonterminal by its rules -/
noncomputable def ruleV (g : Gram) (w : List Int) (s i j : Nat) (r : Nat) : Bool:=decide (leftR g r = (s : Int)) && partV g w r (rightR g r).length i j
noncomputable def anyR (g : Gram) (w : List Int) (s i j m : Nat) : Bool:=(List.range m).any fun r => ruleV g w s i j r
theorem anyR_succ (g : Gram) (w : List Int) (s i j m : Nat) : anyR g w s i j (m + 1) = (anyR g w s i j m || ruleV g w s i j m):=by
  unfold anyR
  rw [List.range_succ,List.any_append]
  simp
theorem anyR_sym {g : Gram} {w : List Int} {s i j : Nat} (hs : g.terms.length ≤ s) : anyR g w s i j g.rules.length = symV g w s i j:=by
  rw [Bool.eq_iff_iff,symV_nat,sym_iff]
  unfold anyR
  rw [List.any_eq_true]
  constructor
  · rintro ⟨r,hr,h⟩
    unfold ruleV at h
    rw [Bool.and_eq_true,decide_eq_true_eq,partV_nat,part_iff,List.take_length] at h
    exact .inr ⟨r,List.mem_range.1 hr,h.1,h.2.2.2.1,h.2.2.2.2⟩
  · rintro (⟨_,ht,_⟩ | ⟨r,hr,hl,hi,h⟩)
    · unfold termF at ht
      simp only [Bool.and_eq_true,decide_eq_true_eq] at ht
      omega
    · refine ⟨r,List.mem_range.2 hr,?_⟩
      unfold ruleV
      rw [Bool.and_eq_true,decide_eq_true_eq,partV_nat,part_iff,List.take_length]
      exact ⟨hl,hr,Nat.le_refl _,hi,h⟩
/-! ### nothing -/
theorem ch_null {g : Gram} {w : List Int} {t : Itm} (h : Ch g w t) : match t with
    | .sym s i j => i = j → Der (hornN g) noneI s
    | .part r d i j => i = j → ∀ x ∈ (rightR g r).take d,Der (hornN g) noneI x:=by
  induction h with
  | tok _ _ => intro h;omega
  | beg _ _ => intro _ x hx;simp at hx
  | @step r d i k j x hd hp hs h1 h2 =>
    intro hij y hy
    have e1:=hp.ok
    have e2:=hs.ok
    simp only [Itm.ok] at e1 e2
    rw [take_snoc hd,List.mem_append] at hy
    rcases hy with hy | hy
    · exact h1 (by omega) y hy
    · rw [List.mem_singleton.1 hy];exact h2 (by omega)
  | @done r i j hp h1 =>
    intro hij
    have hr:=(part_iff.1 hp).1
    have h2:=h1 hij
    rw [List.take_length] at h2
    refine .step (b:=rightR g r) ?_ h2
    rw [rightR_at hr,leftR_eq hr]
    exact List.mem_map.2 ⟨_,List.getElem_mem hr,rfl⟩
theorem row_nil {g : Gram} {w : List Int} {i : Nat} : ∀ {l : List Int},(∀ x ∈ l,Ch g w (.sym x i i)) → Row g w l i i
  | [],_ => rfl
  | x :: l,h => ⟨i,h x (List.mem_cons_self ..),row_nil (fun y hy => h y (List.mem_cons_of_mem _ hy))⟩
theorem null_ch {g : Gram} {w : List Int} {s : Int} (d : Der (hornN g) noneI s) {i : Nat} (hi : i ≤ w.length) : Ch g w (.sym s i i):=by
  induction d with
  | init h => exact h.elim
  | @step b s hm _ ih =>
    obtain ⟨r,hr,he⟩:=List.mem_map.1 hm
    obtain ⟨k,hk,rfl⟩:=List.getElem_of_mem hr
    simp only [Prod.mk.injEq] at he
    obtain ⟨rfl,rfl⟩:=he
    have:=sym_iff.2 (.inr ⟨k,hk,rfl,hi,row_nil (g:=g) (w:=w) (i:=i) (l:=rightR g k) (by rw [rightR_at hk];exact ih)⟩)
    rwa [leftR_eq hk] at this
theorem sym_null {g : Gram} (hg : goodF g = true) {w : List Int} {s : Nat} {i : Nat} (hi : i ≤ w.length) : symV g w s i i = getB (nullF g) s:=by
  rw [Bool.eq_iff_iff,symV_nat,(nullF_is hg).2 s]
  exact ⟨fun h => ch_null h rfl,fun d => null_ch d hi⟩
/-! ### a part of a word,alone -/
theorem part_get {w : List Int} {i j a : Nat} (hj : j ≤ w.length) (ha : i + a < j) : ((w.take j).drop i)[a]? = w[i + a]?:=by
  rw [List.getElem?_drop,List.getElem?_take,if_pos ha]
theorem part_len {w : List Int} {i j : Nat} (hj : j ≤ w.length) : ((w.take j).drop i).length = j - i:=by simp;omega
def Itm.up (i : Nat) : Itm → Itm
  | .sym s a b => .sym s (i + a) (i + b)
  | .part r d a b => .part r d (i + a) (i + b)
theorem ch_up {g : Gram} {w : List Int} {i j : Nat} (hij : i ≤ j) (hj : j ≤ w.length) {t : Itm} (h : Ch g ((w.take j).drop i) t) : Ch g w (t.up i):=by
  induction h with
  | @tok a x ha ht =>
    have hal:=(List.getElem?_eq_some_iff.1 ha).1
    rw [part_len hj] at hal
    rw [part_get hj (by omega)] at ha
    exact .tok ha ht
  | beg hr ha =>
    rw [part_len hj] at ha
    exact .beg hr (by omega)
  | step hd _ _ h1 h2 => exact .step hd h1 h2
  | done _ h1 => exact .done h1
theorem ch_down {g : Gram} {w : List Int} {i j : Nat} (hj : j ≤ w.length) {t : Itm} (h : Ch g w t) : match t with
    | .sym s a b => i ≤ a → b ≤ j → Ch g ((w.take j).drop i) (.sym s (a - i) (b - i))
    | .part r d a b => i ≤ a → b ≤ j → Ch g ((w.take j).drop i) (.part r d (a - i) (b - i)):=by
  induction h with
  | @tok a x ha ht =>
    intro h1 h2
    rw [show a + 1 - i = a - i + 1 by omega]
    refine .tok ?_ ht
    rw [part_get hj (by omega),show i + (a - i) = a by omega]
    exact ha
  | @beg r a hr ha =>
    intro h1 h2
    exact .beg hr (by rw [part_len hj];omega)
  | @step r d a k b x hd hp hs h1 h2 =>
    intro h3 h4
    have e1:=hp.ok
    have e2:=hs.ok
    simp only [Itm.ok] at e1 e2
    exact .step hd (h1 h3 (by omega)) (h2 (by omega) h4)
  | done _ h1 => exact fun h3 h4 => .done (h1 h3 h4)
theorem sym_alone {g : Gram} {w : List Int} {s i j : Nat} (hij : i ≤ j) (hj : j ≤ w.length) : symV g ((w.take j).drop i) s (0 : Nat) ((j - i : Nat) : Int) = symV g w s i j:=by
  rw [Bool.eq_iff_iff,symV_nat,symV_nat]
  constructor
  · intro h
    have:=ch_up hij hj h
    simp only [Itm.up,Nat.add_zero] at this
    rwa [show i + (j - i) = j by omega] at this
  · intro h
    have:=ch_down (i:=i) hj h (Nat.le_refl _) (Nat.le_refl _)
    rwa [Nat.sub_self] at this
/-! ### pivots -/
theorem part_zero {g : Gram} {w : List Int} {r i j : Nat} (hr : r < g.rules.length) (hi : i ≤ w.length) : partV g w r (0 : Nat) i j = decide (i = j):=by
  rw [Bool.eq_iff_iff,partV_nat,part_iff,decide_eq_true_eq]
  exact ⟨fun h => h.2.2.2,fun h => ⟨hr,Nat.zero_le _,hi,h⟩⟩
theorem piv_zero {g : Gram} {w : List Int} {r i j : Int} : pivF g w r 0 i j = []:=by unfold pivF;rw [if_neg (by omega)]
theorem piv_pos {g : Gram} {w : List Int} {r d i j : Nat} (hr : r < g.rules.length) (hd : 1 ≤ d) (hdl : d ≤ (rightR g r).length) : partV g w r d i j = decide (0 < (pivF g w r d i j).length):=by
  rw [Bool.eq_iff_iff,decide_eq_true_eq]
  unfold pivF
  constructor
  · intro h
    rw [if_pos ⟨by omega,h⟩]
    simp only [Int.toNat_natCast]
    obtain ⟨k,h1,h2⟩:=(part_split hr hd hdl).1 (partV_nat.1 h)
    have e1:=h1.ok
    have e2:=h2.ok
    simp only [Itm.ok] at e1 e2
    refine List.length_pos_iff.2 (List.ne_nil_of_mem (a:=(k : Int)) ?_)
    unfold pivN
    refine List.mem_map.2 ⟨k,List.mem_filter.2 ⟨List.mem_map.2 ⟨k - i,List.mem_range.2 (by omega),by omega⟩,?_⟩,rfl⟩
    unfold isPiv
    rw [Bool.and_eq_true,symV_nat,partV_nat]
    exact ⟨h2,h1⟩
  · intro h
    by_cases hc : 1 ≤ (d : Int) ∧ partV g w r d i j = true
    · exact hc.2
    · rw [if_neg hc] at h;simp at h
/-- Of a pivot: where it stands,that it is one. -/
theorem piv_mem {g : Gram} {w : List Int} {r d i j : Nat} {x : Int} (h : x ∈ pivF g w r d i j) : ∃ k : Nat,x = k ∧ i ≤ k ∧ k ≤ j ∧ partV g w r ((d - 1 : Nat) : Int) i k = true ∧ symV g w ((rightR g r).getD (d - 1) 0) k j = true:=by
  unfold pivF at h
  split at h
  · simp only [Int.toNat_natCast] at h
    unfold pivN at h
    obtain ⟨k,hk,rfl⟩:=List.mem_map.1 h
    obtain ⟨h1,h2⟩:=List.mem_filter.1 hk
    obtain ⟨t,ht,rfl⟩:=List.mem_map.1 h1
    unfold isPiv at h2
    rw [Bool.and_eq_true] at h2
    exact ⟨i + t,rfl,by omega,by have:=List.mem_range.1 ht;omega,h2.2,h2.1⟩
  · cases h
theorem piv_rise {g : Gram} {w : List Int} {r d i j : Int} : (pivF g w r d i j).Pairwise (· < ·):=by
  unfold pivF
  split
  · unfold pivN
    have h1 : ((List.range (j.toNat + 1 - i.toNat)).map (i.toNat + ·)).Pairwise (fun a b : Nat => a < b):=List.Pairwise.map (S:=fun a b : Nat => a < b) _ (fun a b (h : a < b) => Nat.add_lt_add_left h _) List.pairwise_lt_range
    have h2:=List.Pairwise.filter (isPiv g w r.toNat d.toNat i.toNat j.toNat) h1
    exact List.Pairwise.map (S:=fun a b : Int => a < b) Int.ofNat (fun a b (h : a < b) => Int.ofNat_lt.2 h) h2
  · exact List.Pairwise.nil
theorem piv_len {g : Gram} {w : List Int} {r d i j : Int} (hj : j ≤ 100) : (pivF g w r d i j).length ≤ 200:=by
  unfold pivF
  split
  · have:=pivN_len g w r.toNat d.toNat i.toNat j.toNat (j.toNat + 1 - i.toNat)
    omega
  · simp
end Go.Proofs.Ytmkgcjhimajgiaa
