/- The contracts of the reader of alternatives: the next token. -/
import Derived.Test.YtphmmppmhphgeaaB2
import Derived.Test.YtphmmppmhphgeaaWa
import Derived.Test.YtphmmppmhphgeaaWc
import Derived.WalkLawsBesides
import Derived.WalkSpells
set_option linter.unusedVariables false
set_option linter.unusedSimpArgs false
namespace Go.Proofs.Ytphmmppmhphgeaa
open Go.RowKit Go.Proofs.YtphmmppmhphgeaaW.PrintWords

/-- The reader at block g: the tokens that are left, the text's end, the alternatives that are made. -/
structure St (w0 W : World) (ok : Nat → Prop) (g : Nat) (A : Option Addr) (c : Nat) (l : List Tok) (en : Int) (v : Value) (out : List Alt) : Prop where
  cell : W.heap[g]? = some (.cells #[.slice A l.length c, .int .i64 en, v] 104 (0, 0))
  toks : kTok.C w0 A l.length l
  cap : l.length ≤ c
  row : kAlt.R 74 W w0.heap.size ok v out
  below : Below w0.heap.size w0 W
  base : w0.heap.size ≤ g
theorem St.alloc_ {w0 W : World} {ok : Nat → Prop} {g : Nat} {A : Option Addr} {c : Nat} {l : List Tok} {en : Int} {v : Value} {out : List Alt} (h : St w0 W ok g A c l en v out) (o : Obj) : St w0 (W.alloc o) ok g A c l en v out :=
  ⟨blk_alloc h.cell _, h.toks, h.cap, Kd.R_below h.row (below_alloc (Below.refl _ _) _), h.below.alloc h.below.size _, h.base⟩
def faultV (e at_ : Int) : List PanicEntry := [{ v := .iface 30 (.agg #[.int .i64 e, .int .i64 at_]), recovered := false }]
def NextEnd (w0 W : World) (ok : Nat → Prop) (g : Nat) (en : Int) (v : Value) (out : List Alt) (ks : List Int) : List Tok → Ending → World → Prop
  | [], e, w' => e = .panicked (faultV 12 en) ∧ Below w0.heap.size w0 w'
  | t :: r, e, w' => if (ks.any fun y => t.kind == y) = true then e = .returned (.agg #[.int .i64 t.kind, .string t.text, .int .i64 t.pos]) ∧ (∃ A c, St w0 w' ok g A c r en v out) ∧ W.grownBy w' (some g)
      else e = .panicked (faultV 12 t.pos) ∧ Below w0.heap.size w0 w'

theorem next_no {w0 W w' : World} {ok : Nat → Prop} {g : Nat} {en : Int} {v : Value} {out : List Alt} {ks : List Int} {t : Tok} {r : List Tok} (h : (ks.any fun y => t.kind == y) = false) (hb : Below w0.heap.size w0 w') : NextEnd w0 W ok g en v out ks (t :: r) (.panicked (faultV 12 t.pos)) w' := by
  unfold NextEnd
  simp only [h, Bool.false_eq_true, if_false]
  exact ⟨trivial, hb⟩
theorem next_yes {w0 W w' : World} {ok : Nat → Prop} {g : Nat} {en : Int} {v : Value} {out : List Alt} {ks : List Int} {t : Tok} {r : List Tok} (h : (ks.any fun y => t.kind == y) = true) {A : Option Addr} {c : Nat} (hs : St w0 w' ok g A c r en v out) (hg : W.grownBy w' (some g)) : NextEnd w0 W ok g en v out ks (t :: r) (.returned (.agg #[.int .i64 t.kind, .string t.text, .int .i64 t.pos])) w' := by
  unfold NextEnd
  simp only [h, if_true]
  exact ⟨trivial, ⟨A, c, hs⟩, hg⟩

set_option maxRecDepth 100000 in
set_option maxHeartbeats 2000000 in
theorem next_c (w0 W : World) (ok : Nat → Prop) (g : Nat) (A : Option Addr) (c : Nat) (l : List Tok) (en : Int) (v : Value) (out : List Alt) (hS : St w0 W ok g A c l en v out) (K : Option Addr) (n d : Nat) (ks : List Int) (hk : kInt.C W K n ks) :
    Calls Try.prog 93 #[.pointer (some ⟨g, 0, none⟩), .slice K n d] W fun e w' => NextEnd w0 W ok g en v out ks l e w' := by
  have HB1 := Aside0.mk (hS.below.alloc hS.below.size (.cells #[.int .i64 0, .string ⟨#[]⟩, .int .i64 0] 49 (0, 0)))
  have hc1 := blk_alloc hS.cell (.cells #[.int .i64 0, .string ⟨#[]⟩, .int .i64 0] 49 (0, 0))
  have a1 := blk_cell hc1 0
  have a2 := blk_cell hc1 1
  simp only [List.getElem?_toArray, List.getElem?_cons_zero, List.getElem?_cons_succ] at a1 a2
  have HS := Aside0.mk hS
  have HK := Aside0.mk hk
  cases l with
  | nil =>
    clear hS hk hc1
    go_enter Try.func93, Try.ntmps93
    go_wp2
    exact ⟨rfl, rfl, HB1.out⟩
  | cons t r =>
    obtain ⟨ad, ead, hx, hy, hz⟩ := at_tok (Kd.C_below hS.toks HB1.out) 0 (by simp)
    cases ead
    simp only [List.getElem_cons_zero, Nat.zero_mul] at hx hy hz
    rw [show ad.add 0 = ad by simp [Addr.add]] at hx hy hz
    have hc2 := blk_alloc hc1 (.cells #[.int .i64 t.kind, .string t.text, .int .i64 t.pos] 49 (0, 0))
    have HC2 := Aside0.mk hc2
    have b1 := blk_cell hc2 0
    have b2 := blk_cell hc2 1
    have f1 := blk_frozen hc2 0
    have f2 := blk_frozen (blk_set hc2 0 (.slice none 0 0)) 0
    simp only [List.getElem?_toArray, List.getElem?_cons_zero, List.getElem?_cons_succ] at b1 b2
    have hlt := blk_lt hS.cell
    have n1 : ¬ g = W.heap.size + 1 := by omega
    have n2 : ¬ W.heap.size + 1 = g := by omega
    have n3 : ¬ g = W.heap.size := by omega
    have n4 : ¬ W.heap.size = g := by omega
    have HB2 := Aside0.mk (HB1.out.alloc HB1.out.size (.cells #[.int .i64 t.kind, .string t.text, .int .i64 t.pos] 49 (0, 0)))
    have HK2 := Aside0.mk (Kd.C_below (Kd.C_below hk (below_alloc (Below.refl _ _) (.cells #[.int .i64 0, .string ⟨#[]⟩, .int .i64 0] 49 (0, 0)))) (below_alloc (Below.refl _ _) (.cells #[.int .i64 t.kind, .string t.text, .int .i64 t.pos] 49 (0, 0))))
    have HR2 := Aside0.mk (Kd.R_below (Kd.R_below hS.row (below_alloc (Below.refl _ _) (.cells #[.int .i64 0, .string ⟨#[]⟩, .int .i64 0] 49 (0, 0)))) (below_alloc (Below.refl _ _) (.cells #[.int .i64 t.kind, .string t.text, .int .i64 t.pos] 49 (0, 0))))
    obtain ⟨A', hcut, hC'⟩ := cutC_from kTok (t := 45) Try.underlying45 infoTok hS.toks hS.cap 1 (by simp)
    simp only [List.drop_succ_cons, List.drop_zero, List.length_cons, Nat.add_sub_cancel] at hcut hC'
    replace hcut : ∀ W : World, (Instr.slice 45 (.slice (some ad) (r.length + 1) c) (some (.int .i64 1)) none none).run Try.prog W = .ok (.slice A' r.length (c - 1)) W := hcut
    have hcap : r.length ≤ c - 1 := by have := hS.cap; simp at this; omega
    have HC' := Aside0.mk hC'
    have hbase := hS.base
    clear hS hk hc1 hc2 hC' HK
    simp only [List.length_cons] at a1 b1
    cases hp : ks.any fun y => t.kind == y
    · go_enter Try.func93, Try.ntmps93
      go_wp2_with (go_at_call 98; refine (containsInt_n _ _ _ _ _ _ HK2.out).mono ?_; rw [hp]; rintro e w' ⟨rfl, rfl⟩)
      exact ⟨rfl, next_no hp HB2.out⟩
    · go_enter Try.func93, Try.ntmps93
      go_wp2_with (go_at_call 98; refine (containsInt_n _ _ _ _ _ _ HK2.out).mono ?_; rw [hp]; rintro e w' ⟨rfl, rfl⟩)
      refine bodyPost_ret (v := .agg #[.int .i64 t.kind, .string t.text, .int .i64 t.pos]) (by simp [results, Try.results93, go_sem]) rfl (next_yes hp ⟨?_, HC'.out, hcap, ?_, ?_, hbase⟩ (grown_alloc (grown_alloc (grown_set W g 0 _) _) _))
      · exact blk_alloc (blk_alloc (blk_set HS.out.cell 0 _) _) _
      · exact Kd.R_below (Kd.R_below (Kd.R_set HS.out.row HS.out.cell (by decide) 0 _) (below_alloc (Below.refl _ _) _)) (below_alloc (Below.refl _ _) _)
      · have h := below_set HS.out.below hbase 0 (.slice A' r.length (c - 1))
        exact (h.alloc h.size _).alloc (h.alloc h.size _).size _
end Go.Proofs.Ytphmmppmhphgeaa
