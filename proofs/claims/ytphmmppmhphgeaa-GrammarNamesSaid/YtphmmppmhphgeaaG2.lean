/- GrammarNames of 03: a symbol's name is its own. Whatever grammar and two numbers are given, the law answers true, and what was given reads as it did. No condition. -/
import Derived.Test.YtphmmppmhphgeaaRows
import Derived.Test.YtphmmppmhphgeaaF1
import Derived.Test.YtphmmppmhphgeaaF2
import Derived.WalkKit
import Derived.ProofKit
import Derived.OpenShut
import Derived.ShutString
import Derived.ChangeOld
import Derived.Below
import Derived.SizedLaws
namespace Go.Proofs.Ytphmmppmhphgeaa.NamesRow
open Go.ChangeShapes Go.WideShapes Go.ChangeAt Go.RowKit
open Go.ChangeMaps (open_string shut_string)
theorem own : ownKnob Try.prog.godebug = none := by kernel_rfl
theorem laidOut : laidOutB Try.prog = true := by kernel_rfl

set_option maxRecDepth 100000 in
theorem two_open {H : Type} {enc : TypeId × Value → H} {w : World} {base : Nat} {spare : Nat → Bool} {held : Bool} {v : Value} {dd : DataW H} {p : List MemPlace} {r : Reach} {b0 : Nat} (hv : Value.okWide Try.prog w r b0 52 v) (h : DataW.Trod enc Try.prog w base spare held 52 v dd p) :
    ∃ x y : Int, v = .agg #[.int .i64 x, .int .i64 y] ∧ (-9223372036854775808 ≤ x ∧ x ≤ 9223372036854775807) ∧ (-9223372036854775808 ≤ y ∧ y ≤ 9223372036854775807) := by
  obtain ⟨cs, rfl, hsz⟩ : ∃ cs, v = .agg cs ∧ cs.size = Try.prog.cellsOf 52 := by
    simp only [Value.okWide, Try.underlying52] at hv
    obtain ⟨cs, h1, h2, _⟩ := hv
    exact ⟨cs, h1, h2⟩
  have hsz2 : cs.size = 2 := hsz.trans (by kernel_rfl)
  obtain ⟨fuel, hf⟩ := h
  obtain ⟨xs, m, _, _, hlen, hxl, hel⟩ := DataW.trod_array Try.underlying52 hf
  have hcells : (Value.cells (.agg cs)).toList = cs.toList := by simp [Value.cells]
  rw [hcells] at hel
  obtain ⟨l⟩ := cs
  match l, hsz2 with
  | [u0, u1], _ =>
    match xs, hxl with
    | [y0, y1], _ =>
      have e0 := hel 0 (by omega)
      have e1 := hel 1 (by omega)
      rw [show Try.prog.cellsOf 3 = 1 by kernel_rfl] at e0 e1
      have f0 : DataW.trod enc Try.prog w base spare held m 3 [u0] = some y0 := e0
      have f1 : DataW.trod enc Try.prog w base spare held m 3 [u1] = some y1 := e1
      obtain ⟨x, hx, _, wx⟩ := DataW.trod_int Try.underlying3 f0
      obtain ⟨y, hy, _, wy⟩ := DataW.trod_int Try.underlying3 f1
      injection hx with hx _
      injection hy with hy _
      subst hx hy
      exact ⟨x, y, rfl, bounds_i64 wx, bounds_i64 wy⟩

set_option maxRecDepth 100000 in
theorem lifted (os : Os) (started : os.Started) (H : Type) (enc : TypeId × Value → H) :
    ReturnsInHanded {} Try.checked os 6 .any (Rows.grammarNamesSpec.pre6 enc Try.prog Try.f6 Rows.grammarNamesRow.domain false) (Rows.grammarNamesSpec.post enc Try.prog Try.f6 false true false false) := by
  refine returnsInHanded_of_change_sized (C := Try.checked) own started (by kernel_rfl) Try.func6
    (ChangeSpec.witness6 (enc := enc) (C := Try.checked) false ⟨#[], #[.agg #[.slice none 0 0, .slice none 0 0, .slice none 0 0], .agg #[.int .i64 0, .int .i64 0]], []⟩ 8 (by kernel_rfl) (by kernel_rfl) (by kernel_rfl) (by kernel_rfl)) ?_
  intro W base args ds gs before hval0 hW hcnd hsz0 _
  have hval : ∀ (j : Nat) t v, Try.f6.params[j]? = some t → args[j]? = some v → Value.okWide Try.prog W .any base t v := hval0
  have hW' := hW
  obtain ⟨p, q, hA0, hV, rfl, hfz, hnd⟩ := hW
  have hA : DataW.TrodAll enc Try.prog W 0 (fun _ => true) true Try.f6.params.toList args.toList ds p := hA0
  rw [Try.params6] at hA hval
  obtain ⟨v0, v1, d0, d1, p0, p1, rfl, rfl, rfl, h0, h1⟩ := trodAll_two hA
  obtain ⟨rfl, rfl⟩ := trodVars_none hV
  obtain ⟨g, A1, A2, A3, c1, c2, c3, rfl, hg⟩ := gram_open (hval 0 25 v0 rfl rfl) h0
  obtain ⟨x, y, rfl, hx, hy⟩ := two_open (hval 1 52 v1 rfl rfl) h1
  have lt0 : ∀ z ∈ p0, z.block < W.heap.size := by obtain ⟨m, hm⟩ := h0; exact DataW.trod_lt m _ _ _ hm
  have lt1 : ∀ z ∈ p1, z.block < W.heap.size := by obtain ⟨m, hm⟩ := h1; exact DataW.trod_lt m _ _ _ hm
  clear hA0 hval0 hsz0
  refine (names_law g A1 A2 A3 c1 c2 c3 x y W hg hx hy).mono fun e W' ⟨he, bel⟩ => ?_
  subst he
  exact ⟨_, rfl, _, _, _, [], _, [], hW', trodAll_mk1 (shut_bool Try.underlying4 _), (trodAll_cons_mk (Below.trod laidOut (by kernel_rfl) (of_decide_eq_true (by kernel_rfl)) h0 bel lt0) (trodAll_cons_mk (Below.trod laidOut (by kernel_rfl) (of_decide_eq_true (by kernel_rfl)) h1 bel lt1) trodAll_mk0)), rfl, bel.frame _, fun h => by cases h⟩
theorem over : Rows.grammarNamesRow.holds Try.pinned (OpenSpec.ofChange Rows.grammarNamesSpec) :=
  OpenClaim.holds_of_wide 6 Try.f6 rfl rfl rfl rfl rfl rfl rfl ⟨rfl, rfl, rfl, rfl, rfl⟩ rfl rfl rfl rfl rfl (by kernel_rfl) Try.func6 (by kernel_rfl)
    (of_decide_eq_true (by kernel_rfl)) (by unfold Func.isWrapper; first | (rw [if_pos (by decide +kernel)]; kernel_rfl) | (rw [if_neg (by decide +kernel)]; exact ⟨rfl, rfl⟩))
    (fun os started H enc _ => lifted os started H enc)
end Go.Proofs.Ytphmmppmhphgeaa.NamesRow
namespace Go.Proofs.Ytphmmppmhphgeaa
/-- The row, under a short name, for the claim. -/
theorem grammarNames_holds : Rows.GrammarNamesSaid := NamesRow.over
end Go.Proofs.Ytphmmppmhphgeaa
