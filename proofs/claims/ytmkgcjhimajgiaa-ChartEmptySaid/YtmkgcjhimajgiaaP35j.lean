/- Plain laws of charts,for the laws ChartMore,ChartEmpty: what is told spans;tokens;a rule more;what comes to one token alone. -/
import Derived.Test.YtmkgcjhimajgiaaP34j
set_option linter.unusedVariables false
set_option linter.unusedSimpArgs false
namespace Go.Proofs.Ytmkgcjhimajgiaa
open Go.RowKit Go.Proofs.YtmkgcjhimajgiaaW.PrintWords Go.Proofs.YtmkgcjhimajgiaaW.PrintLast Go.Conc

theorem rowJ_mem {g : Gram} {w : List Int} {s i m : Nat} {p : SpN} (h : p ∈ rowJ g w s i m) : p.s = s ∧ p.i = i ∧ p.j < i + m ∧ symV g w p.s p.i p.j = true:=by
  unfold rowJ at h
  obtain ⟨h1,h2⟩:=List.mem_filter.1 h
  obtain ⟨t,ht,rfl⟩:=List.mem_map.1 h1
  have:=List.mem_range.1 ht
  exact ⟨rfl,rfl,by show i + t < i + m;omega,h2⟩
theorem span_mem {g : Gram} {w : List Int} {p : SpN} (h : p ∈ spansF g w) : g.terms.length ≤ p.s ∧ p.s < nsym g ∧ p.i ≤ w.length ∧ p.j ≤ w.length ∧ symV g w p.s p.i p.j = true:=by
  unfold spansF spansL at h
  obtain ⟨k,hk,h⟩:=List.mem_flatMap.1 h
  unfold rowI at h
  obtain ⟨i,hi,h⟩:=List.mem_flatMap.1 h
  obtain ⟨h1,h2,h3,h4⟩:=rowJ_mem h
  have hk:=List.mem_range.1 hk
  have hi:=List.mem_range.1 hi
  exact ⟨by omega,by unfold nsym;omega,by omega,by omega,h4⟩
theorem sym_tok {g : Gram} (hg : goodF g = true) {w : List Int} {t i : Nat} (ht : t < g.terms.length) (hi : i < w.length) : symV g w t i ((i + 1 : Nat) : Int) = decide (w[i]'hi = (t : Int)):=by
  rw [Bool.eq_iff_iff,symV_nat,sym_iff,decide_eq_true_eq,List.getElem?_eq_getElem hi]
  have hk : termF g (t : Int) = true:=by unfold termF;simp;omega
  constructor
  · rintro (⟨h,_,_⟩ | ⟨r,hr,hl,_⟩)
    · injection h
    · have:=leftR_term hg r hr
      rw [hl,hk] at this
      cases this
  · intro h
    exact .inl ⟨by rw [h],hk,rfl⟩
theorem sym_tok_nil {g : Gram} (hg : goodF g = true) {w : List Int} {t i : Nat} (ht : t < g.terms.length) : symV g w t i i = false:=by
  rw [Bool.eq_false_iff]
  intro h
  rw [symV_nat,sym_iff] at h
  have hk : termF g (t : Int) = true:=by unfold termF;simp;omega
  rcases h with ⟨_,_,h⟩ | ⟨r,hr,hl,_⟩
  · omega
  · have:=leftR_term hg r hr
    rw [hl,hk] at this
    cases this
theorem sym_more {g : Gram} {w : List Int} {x : Rule} {s i j : Int} (h : symV g w s i j = true) : symV ⟨g.terms,g.names,g.rules ++ [x]⟩ w s i j = true:=by
  rw [symV_iff] at h ⊢
  exact ⟨h.1,h.2.1,Ch.more (g:=g) (h:=⟨g.terms,g.names,g.rules ++ [x]⟩) rfl (List.prefix_append _ _) h.2.2⟩
/-! ### what comes to one token alone -/
/-- May all symbols of a row be nothing,but for that at a place? -/
def othB (nu : List Bool) (l : List Int) (k : Nat) : Bool:=(List.range l.length).all fun j => decide (j = k) || getB nu (l.getD j 0)
def oneR (nu : List Bool) (r : Rule) (m : Nat) : Horn:=(List.range m).flatMap fun k => if othB nu r.right k = true then [([r.right.getD k 0],r.left)] else []
def oneH (g : Gram) (m : Nat) : Horn:=(g.rules.take m).flatMap fun r => oneR (nullF g) r r.right.length
theorem oneR_succ (nu : List Bool) (r : Rule) (m : Nat) : oneR nu r (m + 1) = oneR nu r m ++ if othB nu r.right m = true then [([r.right.getD m 0],r.left)] else []:=by
  unfold oneR;rw [List.range_succ,List.flatMap_append];simp
theorem oneH_succ {g : Gram} {m : Nat} (h : m < g.rules.length) : oneH g (m + 1) = oneH g m ++ oneR (nullF g) (g.rules[m]'h) (g.rules[m]'h).right.length:=by
  unfold oneH;rw [List.take_succ_eq_append_getElem h,List.flatMap_append];simp
theorem round_one (R : Horn) (nu M : List Bool) (r : Rule) (k : Nat) : roundF (R ++ if othB nu r.right k = true then [([r.right.getD k 0],r.left)] else []) M = if (getB (roundF R M) (r.right.getD k 0) && othB nu r.right k) = true then setB (roundF R M) r.left else roundF R M:=by
  rw [roundF_append]
  cases othB nu r.right k
  · simp [roundF]
  · simp only [if_true,Bool.and_true,roundF,allF,List.all_cons,List.all_nil]
theorem oneR_mem {nu : List Bool} {r : Rule} {m : Nat} {x : List Int × Int} (h : x ∈ oneR nu r m) : ∃ k,k < m ∧ othB nu r.right k = true ∧ x = ([r.right.getD k 0],r.left):=by
  unfold oneR at h
  obtain ⟨k,hk,h⟩:=List.mem_flatMap.1 h
  split at h
  · rename_i ho
    exact ⟨k,List.mem_range.1 hk,ho,List.mem_singleton.1 h⟩
  · cases h
theorem oneH_mem {g : Gram} {m : Nat} {x : List Int × Int} (h : x ∈ oneH g m) : ∃ r ∈ g.rules,∃ k,k < r.right.length ∧ othB (nullF g) r.right k = true ∧ x = ([r.right.getD k 0],r.left):=by
  unfold oneH at h
  obtain ⟨r,hr,h⟩:=List.mem_flatMap.1 h
  exact ⟨r,List.mem_of_mem_take hr,oneR_mem h⟩
theorem oneH_in {g : Gram} (hg : goodF g = true) (m : Nat) : InR (nsym g) (oneH g m):=by
  intro x hx
  obtain ⟨r,hr,k,_,_,rfl⟩:=oneH_mem hx
  have:=goodF_mem hg r hr
  exact ⟨by show (0:Int) ≤ r.left;omega,this.2.1⟩
/-- What comes to token t alone,behind so many rounds. -/
def oneF (g : Gram) (t k : Nat) : List Bool:=iter (roundF (oneH g g.rules.length)) k (setB (List.replicate (nsym g) false) t)
theorem oneF_succ (g : Gram) (t k : Nat) : oneF g t (k + 1) = roundF (oneH g g.rules.length) (oneF g t k):=iter_succ _ _ _
theorem oneF_len (g : Gram) (t k : Nat) : (oneF g t k).length = nsym g:=by
  induction k with
  | zero => unfold oneF iter;rw [setB_len,List.length_replicate]
  | succ k ih => rw [oneF_succ,roundF_len,ih]
theorem oneF_is {g : Gram} (hg : goodF g = true) {t : Nat} (ht : t < g.terms.length) : IsDer (oneH g g.rules.length) (fun s => s = (t : Int)) (nsym g) (oneF g t (nsym g)):=by
  refine rounds_is (oneH_in hg _) (by rw [setB_len,List.length_replicate]) (fun s => ?_)
  rw [getB_set (by omega) (by rw [List.length_replicate];unfold nsym;omega),getB_replicate]
  simp
theorem oth_get {nu : List Bool} {l : List Int} {k j : Nat} {x : Int} (h : othB nu l k = true) (hj : l[j]? = some x) (hne : j ≠ k) : getB nu x = true:=by
  obtain ⟨hl,he⟩:=List.getElem?_eq_some_iff.1 hj
  unfold othB at h
  rw [List.all_eq_true] at h
  have:=h j (List.mem_range.2 hl)
  rw [decide_eq_false hne,Bool.false_or,List.getD_eq_getElem?_getD,hj] at this
  exact this
theorem oth_of {nu : List Bool} {l : List Int} {k : Nat} (h : ∀ j x,l[j]? = some x → j ≠ k → getB nu x = true) : othB nu l k = true:=by
  unfold othB
  rw [List.all_eq_true]
  intro j hj
  have hl:=List.mem_range.1 hj
  by_cases e : j = k
  · simp [e]
  · rw [decide_eq_false e,Bool.false_or,List.getD_eq_getElem?_getD,List.getElem?_eq_getElem hl]
    exact h j _ (List.getElem?_eq_getElem hl) e
/-- Over one token: what its items say. -/
def onlyI (g : Gram) (t : Nat) : Itm → Prop
  | .sym s i j => i = 0 → j = 1 → Der (oneH g g.rules.length) (fun s => s = (t : Int)) s
  | .part r d i j => i = 0 → j = 1 → ∃ k,k < d ∧ (∃ x,(rightR g r)[k]? = some x ∧ Der (oneH g g.rules.length) (fun s => s = (t : Int)) x) ∧ ∀ e x,e < d → e ≠ k → (rightR g r)[e]? = some x → Der (hornN g) noneI x
theorem ch_only {g : Gram} (hg : goodF g = true) {t : Nat} (ht : t < g.terms.length) {x : Itm} (h : Ch g [(t : Int)] x) : onlyI g t x:=by
  induction h with
  | @tok i y hi hk =>
    rintro rfl _
    simp at hi
    exact .init hi.symm
  | beg _ _ => rintro rfl h;omega
  | @step r d i k j y hd hp hs h1 h2 =>
    rintro rfl rfl
    have e1:=hp.ok
    have e2:=hs.ok
    simp only [Itm.ok,List.length_singleton] at e1 e2
    have hk : k = 0 ∨ k = 1:=by omega
    rcases hk with rfl | rfl
    · refine ⟨d,by omega,⟨y,hd,h2 rfl rfl⟩,fun e z he hne hz => ?_⟩
      have hn:=ch_null hp rfl
      refine hn z (List.mem_iff_getElem?.2 ⟨e,?_⟩)
      rw [List.getElem?_take,if_pos (by omega)]
      exact hz
    · obtain ⟨k,hk,hx,ho⟩:=h1 rfl rfl
      refine ⟨k,by omega,hx,fun e z he hne hz => ?_⟩
      by_cases hed : e = d
      · subst hed
        rw [hd] at hz
        injection hz with hz
        subst hz
        exact ch_null hs rfl
      · exact ho e z (by omega) hne hz
  | @done r i j hp h1 =>
    rintro rfl rfl
    obtain ⟨k,hk,⟨y,hy,hd⟩,ho⟩:=h1 rfl rfl
    have hr:=(part_iff.1 hp).1
    refine .step (b:=[y]) ?_ (fun z hz => by rw [List.mem_singleton.1 hz];exact hd)
    unfold oneH
    rw [List.take_length]
    refine List.mem_flatMap.2 ⟨g.rules[r],List.getElem_mem hr,?_⟩
    unfold oneR
    rw [← rightR_at hr] at *
    refine List.mem_flatMap.2 ⟨k,List.mem_range.2 hk,?_⟩
    rw [if_pos (oth_of fun j z hz hne => ((nullF_is hg).2 z).2 (ho j z (List.getElem?_eq_some_iff.1 hz).1 hne hz))]
    rw [List.getD_eq_getElem?_getD,hy,leftR_eq hr]
    exact List.mem_singleton.2 rfl
theorem row_null {g : Gram} {w : List Int} {i : Nat} (hi : i ≤ w.length) {l : List Int} (h : ∀ x ∈ l,Der (hornN g) noneI x) : Row g w l i i:=row_nil fun x hx => null_ch (h x hx) hi
theorem one_ch {g : Gram} (hg : goodF g = true) {t : Nat} (ht : t < g.terms.length) {s : Int} (d : Der (oneH g g.rules.length) (fun s => s = (t : Int)) s) : Ch g [(t : Int)] (.sym s 0 1):=by
  induction d with
  | @init s h => exact .tok (by rw [h];rfl) (by rw [h];unfold termF;simp;omega)
  | @step b s hm _ ih =>
    obtain ⟨r,hr,k,hk,ho,he⟩:=oneH_mem hm
    simp only [Prod.mk.injEq] at he
    obtain ⟨rfl,rfl⟩:=he
    obtain ⟨q,hq,rfl⟩:=List.getElem_of_mem hr
    have h1:=ih _ (List.mem_singleton.2 rfl)
    have:=sym_iff.2 (.inr ⟨q,hq,leftR_eq hq,(show 0 ≤ [(t : Int)].length by simp),?_⟩ : (([(t : Int)] : List Int)[0]? = some (g.rules[q].left) ∧ termF g (g.rules[q].left) = true ∧ 1 = 0 + 1) ∨ ∃ r,r < g.rules.length ∧ leftR g r = g.rules[q].left ∧ 0 ≤ [(t : Int)].length ∧ Row g [(t : Int)] (rightR g r) 0 1)
    · exact this
    · rw [rightR_at hq]
      have hsp : (g.rules[q]).right = (g.rules[q]).right.take k ++ ((g.rules[q]).right.getD k 0 :: (g.rules[q]).right.drop (k + 1)):=by
        rw [List.getD_eq_getElem?_getD,List.getElem?_eq_getElem hk,Option.getD_some,List.getElem_cons_drop,List.take_append_drop]
      rw [hsp,Row.app]
      refine ⟨0,row_null (by simp) (fun x hx => ?_),1,h1,row_null (by simp) (fun x hx => ?_)⟩
      · obtain ⟨j,hj⟩:=List.mem_iff_getElem?.1 hx
        rw [List.getElem?_take] at hj
        split at hj
        · exact ((nullF_is hg).2 x).1 (oth_get ho hj (by omega))
        · cases hj
      · obtain ⟨j,hj⟩:=List.mem_iff_getElem?.1 hx
        rw [List.getElem?_drop] at hj
        exact ((nullF_is hg).2 x).1 (oth_get ho hj (by omega))
theorem one_sym {g : Gram} (hg : goodF g = true) {t : Nat} (ht : t < g.terms.length) (s : Nat) : symV g [(t : Int)] s (0 : Nat) (1 : Nat) = getB (oneF g t (nsym g)) s:=by
  rw [Bool.eq_iff_iff,symV_nat,(oneF_is hg ht).2 s]
  exact ⟨fun h => ch_only hg ht h rfl rfl,fun d => one_ch hg ht d⟩
end Go.Proofs.Ytmkgcjhimajgiaa
