/- Append, kind by kind. -/
import Derived.Test.YtphmmppmhphgeaaWd
set_option linter.unusedVariables false
set_option linter.unusedSimpArgs false
namespace Go.Proofs.Ytphmmppmhphgeaa
open Go.RowKit Go.Proofs.YtphmmppmhphgeaaW.PrintWords

/-! ### append, kind by kind -/
section
variable {ops : Array Oper} {rest : List Oper} {o : Oper} {a : Act} {Q : Exit → Act → World → Prop} {w0 W : World} {base : Nat} {v : Value} {ok okp : Nat → Prop} {s x : Operand} {cs : List Value}
/-- What an append leaves. -/
structure Appd {α : Type} (d : Kd α) (e : Nat) (w0 W : World) (base : Nat) (ok : Nat → Prop) (v : Value) (xs : List α) (v1 : Value) (w1 : World) : Prop where
  row : d.R e w1 base ok v1 xs
  below : Below base w0 w1
  grown : W.grownBy w1 v.ownBlock
  at_ : v1.ownBlock = v.ownBlock ∨ ∃ b, v1.ownBlock = some b ∧ W.heap.size ≤ b
theorem Appd.shape {α : Type} {d : Kd α} {e : Nat} {xs : List α} {p : α} {v1 : Value} {w1 : World} (h : Appd d e w0 W base ok v (xs ++ [p]) v1 w1) : ∃ A c, v1 = .slice A (xs.length + 1) c := by
  obtain ⟨A, c, h⟩ := Kd.R_slice h.row
  rw [List.length_append, List.length_singleton] at h
  exact ⟨A, c, h⟩
theorem app_tok {xs : List Tok} {p : Tok} (hgd : o.guard = none) (ho : o.op = .call { callee := .builtin .append, args := #[s, x], argTypes := #[45, 45] })
    (HO : kTok.R 49 W base ok v xs) (HB : Below base w0 W) (hbase : base ≤ W.heap.size) (hl : xs.length + 1 ≤ 4000000000000) (hfresh : ∀ k, W.heap.size ≤ k → ok k) (hs : a.eval s = v) (hx : a.eval x = .slice (some ⟨W.heap.size, 0, none⟩) 1 1)
    (h : ∀ v1 w1, Appd kTok 49 w0 W base ok v (xs ++ [p]) v1 w1 → wpList Try.prog ops Q rest (a.put o.dst v1) w1) :
    wpList Try.prog ops Q (o :: rest) a (W.alloc (.cells #[.int .i64 p.kind, .string p.text, .int .i64 p.pos] 49)) :=
  Kd.R_append kTok base hgd s x 45 49 _ 32 ho Try.underlying45 infoTok rfl (by decide) (by decide) v xs p _ ok (fun _ => False) hs hx (M_tok _ _ _ p) (fun _ h => h.elim) hfresh HO HB hbase (by omega) (fun v1 w1 h1 h2 h3 h4 => h v1 w1 ⟨h1, h2, h3, h4⟩)
theorem app_alt {xs : List Alt} {p : Alt} {u : Value} (hgd : o.guard = none) (ho : o.op = .call { callee := .builtin .append, args := #[s, x], argTypes := #[70, 70] })
    (HO : kAlt.R 74 W base (fun _ => True) v xs) (HU : kTok.R 49 W base (fun q => some q ≠ v.ownBlock) u p.right) (HB : Below base w0 W) (hbase : base ≤ W.heap.size) (hl : xs.length + 1 ≤ 2000000000000) (hs : a.eval s = v) (hx : a.eval x = .slice (some ⟨W.heap.size, 0, none⟩) 1 1)
    (h : ∀ v1 w1, Appd kAlt 74 w0 W base (fun _ => True) v (xs ++ [p]) v1 w1 → wpList Try.prog ops Q rest (a.put o.dst v1) w1) :
    wpList Try.prog ops Q (o :: rest) a (W.alloc (.cells #[.int .i64 p.left.kind, .string p.left.text, .int .i64 p.left.pos, u] 74)) :=
  Kd.R_append kAlt base hgd s x 70 74 _ 56 ho Try.underlying70 infoAlt rfl (by decide) (by decide) v xs p [.int .i64 p.left.kind, .string p.left.text, .int .i64 p.left.pos, u] (fun _ => True) (fun q => some q ≠ v.ownBlock) hs hx (M_alt HU) (fun _ h => ⟨trivial, h⟩) (fun _ _ => trivial) HO HB hbase (by omega) (fun v1 w1 h1 h2 h3 h4 => h v1 w1 ⟨h1, h2, h3, h4⟩)
theorem app_int {xs : List Int} {p : Int} (hgd : o.guard = none) (ho : o.op = .call { callee := .builtin .append, args := #[s, x], argTypes := #[54, 54] })
    (HO : kInt.R 3 W base ok v xs) (HB : Below base w0 W) (hbase : base ≤ W.heap.size) (hl : xs.length + 1 ≤ 4000000000000) (hfresh : ∀ k, W.heap.size ≤ k → ok k) (hs : a.eval s = v) (hx : a.eval x = .slice (some ⟨W.heap.size, 0, none⟩) 1 1)
    (h : ∀ v1 w1, Appd kInt 3 w0 W base ok v (xs ++ [p]) v1 w1 → wpList Try.prog ops Q rest (a.put o.dst v1) w1) :
    wpList Try.prog ops Q (o :: rest) a (W.alloc (.cells #[.int .i64 p] 3)) :=
  Kd.R_append kInt base hgd s x 54 3 _ 8 ho Try.underlying54 infoInt rfl (by decide) (by decide) v xs p [.int .i64 p] ok (fun _ => False) hs hx rfl (fun _ h => h.elim) hfresh HO HB hbase (by omega) (fun v1 w1 h1 h2 h3 h4 => h v1 w1 ⟨h1, h2, h3, h4⟩)
theorem app_str {xs : List ByteArray} {p : ByteArray} (hgd : o.guard = none) (ho : o.op = .call { callee := .builtin .append, args := #[s, x], argTypes := #[22, 22] })
    (HO : kStr.R 9 W base ok v xs) (HB : Below base w0 W) (hbase : base ≤ W.heap.size) (hl : xs.length + 1 ≤ 4000000000000) (hfresh : ∀ k, W.heap.size ≤ k → ok k) (hs : a.eval s = v) (hx : a.eval x = .slice (some ⟨W.heap.size, 0, none⟩) 1 1)
    (h : ∀ v1 w1, Appd kStr 9 w0 W base ok v (xs ++ [p]) v1 w1 → wpList Try.prog ops Q rest (a.put o.dst v1) w1) :
    wpList Try.prog ops Q (o :: rest) a (W.alloc (.cells #[.string p] 9)) :=
  Kd.R_append kStr base hgd s x 22 9 _ 16 ho Try.underlying22 infoStr rfl (by decide) (by decide) v xs p [.string p] ok (fun _ => False) hs hx rfl (fun _ h => h.elim) hfresh HO HB hbase (by omega) (fun v1 w1 h1 h2 h3 h4 => h v1 w1 ⟨h1, h2, h3, h4⟩)
end
theorem fresh_ne {α : Type} {d : Kd α} {e : Nat} {W : World} {base : Nat} {ok : Nat → Prop} {v : Value} {xs : List α} (h : d.R e W base ok v xs) : ∀ k, W.heap.size ≤ k → some k ≠ v.ownBlock := by
  intro k hk he
  obtain ⟨inner, ho⟩ := Kd.R_own h
  have := own_lt ho k he.symm
  omega
/-- Two rows at once: what an append onto the first one leaves. -/
theorem two_append {α β : Type} {d : Kd α} {d' : Kd β} {e e' : Nat} {w0 W w1 : World} {base : Nat} {v v' v1 : Value} {xs1 : List α} {ys : List β} (H2 : d'.R e' W base (fun k => some k ≠ v.ownBlock) v' ys)
    (A : Appd d e w0 W base (fun k => some k ≠ v'.ownBlock) v xs1 v1 w1) : d'.R e' w1 base (fun k => some k ≠ v1.ownBlock) v' ys := by
  have h1 := Kd.R_grown (Kd.R_bound H2) A.grown (fun k hk => hk.1)
  refine Kd.R_mono h1 (fun k hk => ?_)
  rcases A.at_ with h | ⟨b, h, hb⟩
  · rw [h]; exact hk.1
  · rw [h]
    intro he
    injection he with he
    have := hk.2.2.1
    omega
theorem two_append2 {α β : Type} {d : Kd α} {d' : Kd β} {e e' : Nat} {w0 W w1 : World} {base : Nat} {ok ok' : Nat → Prop} {v v' v1 : Value} {xs1 : List α} {ys : List β} (H2 : d'.R e' W base ok' v' ys) (hok : ∀ k, ok' k → some k ≠ v.ownBlock)
    (A : Appd d e w0 W base ok v xs1 v1 w1) : d'.R e' w1 base (fun k => ok' k ∧ some k ≠ v1.ownBlock) v' ys := by
  have h1 := Kd.R_grown (Kd.R_bound H2) A.grown (fun k hk => hok k hk.1)
  refine Kd.R_mono h1 (fun k hk => ⟨hk.1, ?_⟩)
  rcases A.at_ with h | ⟨b, h, hb⟩
  · rw [h]; exact hok k hk.1
  · rw [h]
    intro he
    injection he with he
    have := hk.2.2.1
    omega
theorem ne_append {α : Type} {d : Kd α} {e : Nat} {w0 W w1 : World} {base b : Nat} {ok : Nat → Prop} {v v1 : Value} {xs1 : List α} (h : some b ≠ v.ownBlock) (hb : b < W.heap.size) (A : Appd d e w0 W base ok v xs1 v1 w1) : some b ≠ v1.ownBlock := by
  rcases A.at_ with h1 | ⟨k, h1, hk⟩
  · rw [h1]; exact h
  · rw [h1]
    intro he
    injection he with he
    omega
end Go.Proofs.Ytphmmppmhphgeaa
