/- The contract of the reader of alternatives: one alternative. -/
import Derived.Test.YtphmmppmhphgeaaC1
import Derived.Test.YtphmmppmhphgeaaWLast
import Derived.Deep.RegionHeld3
import Derived.Deep.LoopGhost
set_option linter.unusedVariables false
set_option linter.unusedSimpArgs false
namespace Go.Proofs.Ytphmmppmhphgeaa
open Go.RowKit Go.Proofs.YtphmmppmhphgeaaW.PrintWords Go.Proofs.YtphmmppmhphgeaaW.PrintLast

def altF (en : Int) : List Tok → List Tok → Except (Int × Int) (List Tok × Bool × List Tok)
  | [], _ => .error (12, en)
  | t :: r, acc =>
    if t.kind = 1 ∨ t.kind = 2 then altF en r (acc ++ [t])
    else if t.kind = 4 ∨ t.kind = 5 then .ok (acc, t.kind == 4, r) else .error (12, t.pos)
/-- The world's older blocks are as they were, but for the reader's and the row's. -/
def Keeps (Wb W : World) (g : Nat) (v : Value) : Prop := ∀ q o, Wb.heap[q]? = some o → q ≠ g → some q ≠ v.ownBlock → W.heap[q]? = some o
def AltEnd (w0 Wb : World) (g : Nat) (en : Int) (v0 : Value) (out : List Alt) (left : Tok) : Except (Int × Int) (List Tok × Bool × List Tok) → Ending → World → Prop
  | .error (a, p), e, w' => e = .panicked (faultV a p) ∧ Below w0.heap.size w0 w'
  | .ok (right, more, r), e, w' => if 60 ≤ out.length ∨ 8 < right.length then e = .panicked (faultV 14 left.pos) ∧ Below w0.heap.size w0 w'
      else e = .returned (.bool more) ∧ ∃ A c v, St w0 w' (fun _ => True) g A c r en v (out ++ [⟨left, right⟩]) ∧ Keeps Wb w' g v0

def okA (b : Nat) (u : Value) : Nat → Prop := fun q => some q ≠ u.ownBlock ∧ q ≠ b + 1
structure AltSt (w0 Wb W : World) (b g : Nat) (A : Option Addr) (c : Nat) (l : List Tok) (en : Int) (v : Value) (out : List Alt) (left : Tok) (u : Value) (acc : List Tok) : Prop where
  st : St w0 W (okA b u) g A c l en v out
  row : kTok.R 49 W w0.heap.size (fun q => some q ≠ v.ownBlock ∧ b ≤ q) u acc
  keeps : Keeps Wb W g v
  bsz : Wb.heap.size = b
  leftCell : W.heap[b]? = some (.cells #[.int .i64 left.kind, .string left.text, .int .i64 left.pos] 49 (0, 0))
  altCell : W.heap[b + 1]? = some (.cells #[.int .i64 left.kind, .string left.text, .int .i64 left.pos, u] 74 (0, 0))
  lt : g < b
  ne : some b ≠ u.ownBlock
section
variable {w0 Wb W W1 : World} {b g : Nat} {A A1 : Option Addr} {c c1 : Nat} {l l1 : List Tok} {en : Int} {v : Value} {out : List Alt} {left t : Tok} {u u1 v1 : Value} {acc acc1 : List Tok}
theorem AltSt.alloc_ (h : AltSt w0 Wb W b g A c l en v out left u acc) (o : Obj) : AltSt w0 Wb (W.alloc o) b g A c l en v out left u acc :=
  ⟨h.st.alloc_ o, Kd.R_below h.row (below_alloc (Below.refl _ _) _), fun q o' hq h1 h2 => blk_alloc (h.keeps q o' hq h1 h2) _, h.bsz, blk_alloc h.leftCell _, blk_alloc h.altCell _, h.lt, h.ne⟩
theorem AltSt.next (h : AltSt w0 Wb W b g A c l en v out left u acc) (hs : St w0 W1 (okA b u) g A1 c1 l1 en v out) (hg : W.grownBy W1 (some g)) : AltSt w0 Wb W1 b g A1 c1 l1 en v out left u acc := by
  have hlt := h.lt
  refine ⟨hs, Kd.R_mono (Kd.R_grown (Kd.R_types h.row h.st.cell (by decide)) hg (fun k hk => ?_)) (fun k hk => hk.1), fun q o' hq h1 h2 => blk_grown (h.keeps q o' hq h1 h2) hg (fun he => h1 (by injection he)), h.bsz, blk_grown h.leftCell hg ?_, blk_grown h.altCell hg ?_, h.lt, h.ne⟩
  · intro he; injection he with he; exact hk.2 he
  · intro he; injection he with he; omega
  · intro he; injection he with he; omega
theorem AltSt.push (h : AltSt w0 Wb W b g A c l en v out left u acc) (a : Appd kTok 49 w0 W w0.heap.size (fun q => some q ≠ v.ownBlock ∧ b ≤ q) u acc1 u1 W1) : AltSt w0 Wb (W1.setCell ⟨b + 1, 3, none⟩ u1) b g A c l en v out left u1 acc1 := by
  have hlt := h.lt
  have hb := h.st.base
  have n1 := Kd.R_ne h.row h.altCell (by decide)
  have n3 := Kd.R_ne h.row h.st.cell (by decide)
  have h1 := blk_grown h.altCell a.grown n1
  have h2 := blk_grown h.st.cell a.grown n3
  have h3 := two_append2 h.st.row (fun k hk => hk.1) a
  have hbsz := h.bsz
  have hlt2 := blk_lt h.leftCell
  exact ⟨⟨blk_far h2 (p := ⟨b + 1, 3, none⟩) (by show g ≠ b + 1; omega) _, h.st.toks, h.st.cap, Kd.R_far (p := ⟨b + 1, 3, none⟩) (Kd.R_mono h3 (fun k hk => (⟨hk.2, hk.1.2⟩ : okA b u1 k))) (fun k hk => hk.2) _, below_set a.below (by omega) _ _, h.st.base⟩, Kd.R_set a.row h1 (by decide) 3 _, fun q o' hq k1 k2 => (Below.heap_setCell _ ⟨b + 1, 3, none⟩ _ q (by show q ≠ b + 1; have k4 := blk_lt hq; omega)).trans (blk_grown (h.keeps q o' hq k1 k2) a.grown (fun he => by have k3 := (h.row.1 q he.symm).2; have k4 := blk_lt hq; omega)), h.bsz, blk_far (blk_grown h.leftCell a.grown h.ne) (p := ⟨b + 1, 3, none⟩) (by show b ≠ b + 1; omega) _, blk_set h1 3 _, h.lt, ne_append h.ne hlt2 a⟩
theorem AltSt.drew_ (h : AltSt w0 Wb W b g A c l en v out left u acc) : AltSt w0 Wb W.drew b g A c l en v out left u acc :=
  ⟨⟨blk_drew h.st.cell, h.st.toks, h.st.cap, Kd.R_drew h.st.row, below_drew1 h.st.below, h.st.base⟩, Kd.R_drew h.row, h.keeps, h.bsz, blk_drew h.leftCell, blk_drew h.altCell, h.lt, h.ne⟩
theorem AltSt.done_ (h : AltSt w0 Wb W b g A c l en v out left u acc) (a : Appd kAlt 74 w0 W w0.heap.size (fun _ => True) v (out ++ [⟨left, acc⟩]) v1 W1) : St w0 (W1.setCell ⟨g, 2, none⟩ v1) (fun _ => True) g A c l en v1 (out ++ [⟨left, acc⟩]) ∧ Keeps Wb (W1.setCell ⟨g, 2, none⟩ v1) g v := by
  have h1 := blk_grown h.st.cell a.grown (Kd.R_ne h.st.row h.st.cell (by decide))
  exact ⟨⟨blk_set h1 2 _, h.st.toks, h.st.cap, Kd.R_set a.row h1 (by decide) 2 _, below_set a.below h.st.base 2 _, h.st.base⟩, fun q o' hq k1 k2 => (Below.heap_setCell _ ⟨g, 2, none⟩ _ q k1).trans (blk_grown (h.keeps q o' hq k1 k2) a.grown k2)⟩
theorem app_alt_step {ops : Array Oper} {o : Oper} {a : Act} {Q : Exit → Act → World → Prop} {Kc : Act → World → Prop} {s x : Operand} {xs : List Alt} {p : Alt} (hw : Region.wanted o (yielded ops a.tmps) = true) (ho : o.op = .call { callee := .builtin .append, args := #[s, x], argTypes := #[70, 70] })
    (HO : kAlt.R 74 W w0.heap.size (fun _ => True) v xs) (HU : kTok.R 49 W w0.heap.size (fun q => some q ≠ v.ownBlock) u p.right) (HB : Below w0.heap.size w0 W) (hl : xs.length + 1 ≤ 2000000000000) (hs : a.eval s = v) (hx : a.eval x = .slice (some ⟨W.heap.size, 0, none⟩) 1 1)
    (h : ∀ v1 w1, Appd kAlt 74 w0 W w0.heap.size (fun _ => True) v (xs ++ [p]) v1 w1 → Kc (a.put o.dst v1) w1) :
    if Region.wanted o (yielded ops a.tmps) = true then Oper.wp Try.prog o a (W.alloc (.cells #[.int .i64 p.left.kind, .string p.left.text, .int .i64 p.left.pos, u] 74)) Kc Q else Kc (a.put o.dst undef) (W.alloc (.cells #[.int .i64 p.left.kind, .string p.left.text, .int .i64 p.left.pos, u] 74)) :=
  Kd.R_append_step kAlt w0.heap.size hw s x 70 74 _ 56 ho Try.underlying70 infoAlt rfl (by decide) (by decide) v xs p [.int .i64 p.left.kind, .string p.left.text, .int .i64 p.left.pos, u] (fun _ => True) (fun q => some q ≠ v.ownBlock) hs hx (M_alt HU) (fun _ h => ⟨trivial, h⟩) (fun _ _ => trivial) HO HB HB.size (by omega) (fun v1 w1 h1 h2 h3 h4 => h v1 w1 ⟨h1, h2, h3, h4⟩)
end

set_option maxRecDepth 100000 in
set_option maxHeartbeats 2000000 in
theorem alt_c (w0 W : World) (g : Nat) (A : Option Addr) (c : Nat) (l : List Tok) (en : Int) (v : Value) (out : List Alt) (hS : St w0 W (fun _ => True) g A c l en v out) (left : Tok) (hl : l.length ≤ 4000) (hout : out.length ≤ 100) :
    Calls Try.prog 94 #[.pointer (some ⟨g, 0, none⟩), .agg #[.int .i64 left.kind, .string left.text, .int .i64 left.pos]] W fun e w' => AltEnd w0 W g en v out left (altF en l []) e w' := by
  obtain ⟨RES, hRES⟩ : ∃ r, altF en l [] = r := ⟨_, rfl⟩
  rw [hRES]
  have HE := Aside0.mk hRES
  have HS := Aside0.mk hS
  have hlt := blk_lt hS.cell
  have hl0 := hl
  clear hRES hS
  go_enter Try.func94, Try.ntmps94
  go_wp2
  go_loopg [] l.length (fun m wr => ∃ (l' acc : List Tok) (A' : Option Addr) (c' : Nat) (u : Value), l'.length = m ∧ Aside0 (altF en l' acc = RES) ∧ Aside0 (acc.length + l'.length ≤ 4000) ∧ Aside0 (AltSt w0 W wr W.heap.size g A' c' l' en v out left u acc))
  case atStart =>
    have h := (HS.out.alloc_ (.cells #[.int .i64 left.kind, .string left.text, .int .i64 left.pos] 49 (0, 0))).alloc_ (.cells #[.int .i64 left.kind, .string left.text, .int .i64 left.pos, .slice none 0 0] 74 (0, 0))
    have h2 := Kd.R_below (Kd.R_below (Kd.R_bound HS.out.row) (below_alloc (Below.refl _ _) (.cells #[.int .i64 left.kind, .string left.text, .int .i64 left.pos] 49 (0, 0)))) (below_alloc (Below.refl _ _) (.cells #[.int .i64 left.kind, .string left.text, .int .i64 left.pos, .slice none 0 0] 74 (0, 0)))
    exact ⟨l, [], A, c, .slice none 0 0, rfl, HE, ⟨by simpa using hl0⟩, ⟨⟨h.cell, h.toks, h.cap, Kd.R_mono h2 (fun k hk => ⟨fun h => (by cases h), by have := hk.2.2.1; omega⟩), h.below, h.base⟩, Kd.R_nil _ _ _ _ _, fun q o' hq k1 k2 => blk_alloc (blk_alloc hq _) _, rfl, blk_alloc (blk_new W _) _, by simpa using blk_new (W.alloc (.cells #[.int .i64 left.kind, .string left.text, .int .i64 left.pos] 49 (0, 0))) (.cells #[.int .i64 left.kind, .string left.text, .int .i64 left.pos, .slice none 0 0] 74 (0, 0)), hlt, fun h => by cases h⟩⟩
  case round =>
    clear HE HS
    obtain ⟨l', acc, A', c', u, hm, HF, HL, HS⟩ := hrel
    have HM := Lib.hid hm
    clear hm
    obtain ⟨Au, cu, rfl⟩ := Kd.R_slice HS.out.row
    have HS1 := Aside0.mk (HS.out.alloc_ (.cells #[.int .i64 1, .int .i64 2, .int .i64 4, .int .i64 5] 3 (0, 0)))
    have HK1 : Aside0 (kInt.C (wr.alloc (.cells #[.int .i64 1, .int .i64 2, .int .i64 4, .int .i64 5] 3 (0, 0))) (some ⟨wr.heap.size, 0, none⟩) 4 [1, 2, 4, 5]) := ⟨C_lit wr [1, 2, 4, 5] (by simp)⟩
    cases l' with
    | nil =>
      go_wp2_with (go_at_call 93; refine (next_c _ _ _ _ _ _ _ _ _ _ HS1.out.st _ _ _ _ HK1.out).mono ?_; rintro e w1 ⟨rfl, hb1⟩)
      refine ⟨rfl, ?_⟩
      rw [← HF.out]
      exact ⟨rfl, hb1⟩
    | cons t r =>
      obtain ⟨tk, tx, tp⟩ := t
      cases hk : [1, 2, 4, 5].any fun y => tk == y
      · have HR : RES = .error (12, tp) := by
          rw [← HF.out, altF]
          simp at hk
          rw [if_neg (by show ¬ (tk = 1 ∨ tk = 2); omega), if_neg (by show ¬ (tk = 4 ∨ tk = 5); omega)]
        have HRES := Lib.hid HR
        clear HR
        go_wp2_with (go_at_call 93; refine (next_c _ _ _ _ _ _ _ _ _ _ HS1.out.st _ _ _ _ HK1.out).mono ?_; unfold NextEnd; simp only [hk, Bool.false_eq_true, if_false]; rintro e w1 ⟨rfl, hb1⟩)
        refine ⟨rfl, ?_⟩
        rw [HRES.out]
        exact ⟨rfl, hb1⟩
      · have hk4 : tk = 1 ∨ tk = 2 ∨ tk = 4 ∨ tk = 5 := by simp at hk; omega
        have HHK := Lib.hid hk
        clear hk
        rcases hk4 with h | h | hbe
        · subst h
          go_wp2_with (first | (go_at_call 93; refine (next_c _ _ _ _ _ _ _ _ _ _ HS1.out.st _ _ _ _ HK1.out).mono ?_; unfold NextEnd; simp only [HHK.out, if_true]; rintro e w1 ⟨rfl, ⟨A2, c2, hS2⟩, hg2⟩; have HS2 := Aside0.mk ((HS1.out.next hS2 hg2).alloc_ (.cells #[.int .i64 1, .string tx, .int .i64 tp] 49 (0, 0))); clear hS2 hg2; have a1 := blk_cell HS2.out.altCell 3; have a2 := blk_frozen HS2.out.altCell 3; simp only [List.getElem?_toArray, List.getElem?_cons_zero, List.getElem?_cons_succ] at a1) | (at_builtin; refine app_tok (p := ⟨1, tx, tp⟩) rfl rfl HS2.out.row HS2.out.st.below HS2.out.st.below.size (by have := HL.out; simp at this; omega) (fun k hk => ⟨fresh_ne HS2.out.st.row k hk, by have := blk_lt HS2.out.leftCell; omega⟩) rfl (by simp [Act.eval]) ?_; intro u3 w3 A3; obtain ⟨Au3, cu3, rfl⟩ := A3.shape; have HS3 := Aside0.mk (HS2.out.push A3); have b1 := blk_cell (blk_grown HS2.out.altCell A3.grown (Kd.R_ne HS2.out.row HS2.out.altCell (by decide))) 3; have b2 := blk_frozen (blk_grown HS2.out.altCell A3.grown (Kd.R_ne HS2.out.row HS2.out.altCell (by decide))) 3; clear A3; simp only [List.getElem?_toArray, List.getElem?_cons_zero, List.getElem?_cons_succ] at b1))
          go_roundg r.length
          case measure => have := HM.out; simp at this; omega
          case rel => exact ⟨r, acc ++ [⟨1, tx, tp⟩], A2, c2, _, rfl, ⟨by rw [← HF.out, altF, if_pos (by simp)]⟩, ⟨by have := HL.out; simp at this ⊢; omega⟩, HS3⟩
        · subst h
          go_wp2_with (first | (go_at_call 93; refine (next_c _ _ _ _ _ _ _ _ _ _ HS1.out.st _ _ _ _ HK1.out).mono ?_; unfold NextEnd; simp only [HHK.out, if_true]; rintro e w1 ⟨rfl, ⟨A2, c2, hS2⟩, hg2⟩; have HS2 := Aside0.mk ((HS1.out.next hS2 hg2).alloc_ (.cells #[.int .i64 2, .string tx, .int .i64 tp] 49 (0, 0))); clear hS2 hg2; have a1 := blk_cell HS2.out.altCell 3; have a2 := blk_frozen HS2.out.altCell 3; simp only [List.getElem?_toArray, List.getElem?_cons_zero, List.getElem?_cons_succ] at a1) | (at_builtin; refine app_tok (p := ⟨2, tx, tp⟩) rfl rfl HS2.out.row HS2.out.st.below HS2.out.st.below.size (by have := HL.out; simp at this; omega) (fun k hk => ⟨fresh_ne HS2.out.st.row k hk, by have := blk_lt HS2.out.leftCell; omega⟩) rfl (by simp [Act.eval]) ?_; intro u3 w3 A3; obtain ⟨Au3, cu3, rfl⟩ := A3.shape; have HS3 := Aside0.mk (HS2.out.push A3); have b1 := blk_cell (blk_grown HS2.out.altCell A3.grown (Kd.R_ne HS2.out.row HS2.out.altCell (by decide))) 3; have b2 := blk_frozen (blk_grown HS2.out.altCell A3.grown (Kd.R_ne HS2.out.row HS2.out.altCell (by decide))) 3; clear A3; simp only [List.getElem?_toArray, List.getElem?_cons_zero, List.getElem?_cons_succ] at b1))
          go_roundg r.length
          case measure => have := HM.out; simp at this; omega
          case rel => exact ⟨r, acc ++ [⟨2, tx, tp⟩], A2, c2, _, rfl, ⟨by rw [← HF.out, altF, if_pos (by simp)]⟩, ⟨by have := HL.out; simp at this ⊢; omega⟩, HS3⟩
        · have hR : RES = .ok (acc, tk == 4, r) := by
            rw [← HF.out, altF, if_neg (by show ¬ (tk = 1 ∨ tk = 2); omega), if_pos hbe]
          have HR := Lib.hid hR
          clear hR
          obtain ⟨Av, cv, ev⟩ := Kd.R_slice HS.out.st.row
          subst ev
          by_cases ho : 60 ≤ out.length
          · rcases hbe with h | h
            · subst h
              go_wp2_with (go_at_call 93; refine (next_c _ _ _ _ _ _ _ _ _ _ HS1.out.st _ _ _ _ HK1.out).mono ?_; unfold NextEnd; simp only [HHK.out, if_true]; rintro e w1 ⟨rfl, ⟨A2, c2, hS2⟩, hg2⟩; have HS2 := Aside0.mk ((HS1.out.next hS2 hg2).alloc_ (.cells #[.int .i64 4, .string tx, .int .i64 tp] 49 (0, 0))); clear hS2 hg2; have a1 := blk_cell HS2.out.altCell 3; have a2 := blk_frozen HS2.out.altCell 3; have a3 := blk_cell HS2.out.st.cell 2; simp only [List.getElem?_toArray, List.getElem?_cons_zero, List.getElem?_cons_succ] at a1 a3; have a4 := blk_cell HS2.out.leftCell 2; simp only [List.getElem?_toArray, List.getElem?_cons_zero, List.getElem?_cons_succ] at a4)
              refine ⟨rfl, ?_⟩
              rw [HR.out]
              unfold AltEnd
              simp only [ho, true_or, if_true]
              exact ⟨rfl, HS2.out.st.below⟩
            · subst h
              go_wp2_with (go_at_call 93; refine (next_c _ _ _ _ _ _ _ _ _ _ HS1.out.st _ _ _ _ HK1.out).mono ?_; unfold NextEnd; simp only [HHK.out, if_true]; rintro e w1 ⟨rfl, ⟨A2, c2, hS2⟩, hg2⟩; have HS2 := Aside0.mk ((HS1.out.next hS2 hg2).alloc_ (.cells #[.int .i64 5, .string tx, .int .i64 tp] 49 (0, 0))); clear hS2 hg2; have a1 := blk_cell HS2.out.altCell 3; have a2 := blk_frozen HS2.out.altCell 3; have a3 := blk_cell HS2.out.st.cell 2; simp only [List.getElem?_toArray, List.getElem?_cons_zero, List.getElem?_cons_succ] at a1 a3; have a4 := blk_cell HS2.out.leftCell 2; simp only [List.getElem?_toArray, List.getElem?_cons_zero, List.getElem?_cons_succ] at a4)
              refine ⟨rfl, ?_⟩
              rw [HR.out]
              unfold AltEnd
              simp only [ho, true_or, if_true]
              exact ⟨rfl, HS2.out.st.below⟩
          · by_cases h8 : 8 < acc.length
            · rcases hbe with h | h
              · subst h
                go_wp2_with (go_at_call 93; refine (next_c _ _ _ _ _ _ _ _ _ _ HS1.out.st _ _ _ _ HK1.out).mono ?_; unfold NextEnd; simp only [HHK.out, if_true]; rintro e w1 ⟨rfl, ⟨A2, c2, hS2⟩, hg2⟩; have HS2 := Aside0.mk ((HS1.out.next hS2 hg2).alloc_ (.cells #[.int .i64 4, .string tx, .int .i64 tp] 49 (0, 0))); clear hS2 hg2; have a1 := blk_cell HS2.out.altCell 3; have a2 := blk_frozen HS2.out.altCell 3; have a3 := blk_cell HS2.out.st.cell 2; simp only [List.getElem?_toArray, List.getElem?_cons_zero, List.getElem?_cons_succ] at a1 a3; have a4 := blk_cell HS2.out.leftCell 2; simp only [List.getElem?_toArray, List.getElem?_cons_zero, List.getElem?_cons_succ] at a4)
                refine ⟨rfl, ?_⟩
                rw [HR.out]
                unfold AltEnd
                simp only [h8, or_true, if_true]
                exact ⟨rfl, HS2.out.st.below⟩
              · subst h
                go_wp2_with (go_at_call 93; refine (next_c _ _ _ _ _ _ _ _ _ _ HS1.out.st _ _ _ _ HK1.out).mono ?_; unfold NextEnd; simp only [HHK.out, if_true]; rintro e w1 ⟨rfl, ⟨A2, c2, hS2⟩, hg2⟩; have HS2 := Aside0.mk ((HS1.out.next hS2 hg2).alloc_ (.cells #[.int .i64 5, .string tx, .int .i64 tp] 49 (0, 0))); clear hS2 hg2; have a1 := blk_cell HS2.out.altCell 3; have a2 := blk_frozen HS2.out.altCell 3; have a3 := blk_cell HS2.out.st.cell 2; simp only [List.getElem?_toArray, List.getElem?_cons_zero, List.getElem?_cons_succ] at a1 a3; have a4 := blk_cell HS2.out.leftCell 2; simp only [List.getElem?_toArray, List.getElem?_cons_zero, List.getElem?_cons_succ] at a4)
                refine ⟨rfl, ?_⟩
                rw [HR.out]
                unfold AltEnd
                simp only [h8, or_true, if_true]
                exact ⟨rfl, HS2.out.st.below⟩
            · rcases hbe with h | h
              · subst h
                go_wp2_with (go_at_call 93; refine (next_c _ _ _ _ _ _ _ _ _ _ HS1.out.st _ _ _ _ HK1.out).mono ?_; unfold NextEnd; simp only [HHK.out, if_true]; rintro e w1 ⟨rfl, ⟨A2, c2, hS2⟩, hg2⟩; have HS2 := Aside0.mk ((HS1.out.next hS2 hg2).alloc_ (.cells #[.int .i64 4, .string tx, .int .i64 tp] 49 (0, 0))); have hS2c := hS2.cell; clear hS2 hg2; have a1 := blk_cell HS2.out.altCell 3; have a2 := blk_frozen HS2.out.altCell 3; have a3 := blk_cell HS2.out.st.cell 2; simp only [List.getElem?_toArray, List.getElem?_cons_zero, List.getElem?_cons_succ] at a1 a3; have a4 := blk_cell HS2.out.leftCell 2; simp only [List.getElem?_toArray, List.getElem?_cons_zero, List.getElem?_cons_succ] at a4; have a5 := blk_cell HS2.out.altCell 0; have a6 := blk_cell HS2.out.altCell 1; have a7 := blk_cell HS2.out.altCell 2; simp only [List.getElem?_toArray, List.getElem?_cons_zero, List.getElem?_cons_succ] at a5 a6 a7; have a8 := blk_frozen HS2.out.st.cell 2)
                have HS3 := Aside0.mk HS2.out.drew_
                have HT3 := Aside0.mk (blk_drew (blk_new w1 (.cells #[.int .i64 4, .string tx, .int .i64 tp] 49 (0, 0))))
                have hb1 := blk_lt HS1.out.st.cell
                have HL9 : Aside0 (out.length + 1 ≤ 2000000000000) := ⟨by have := hout; omega⟩
                have hgw : g ≠ w1.heap.size := by have h1 := blk_lt hS2c; omega
                refine start_ (n := 11) (S := fun w' => w'.heap[g]? = some (.cells #[.slice A2 r.length c2, .int .i64 en, .slice Av out.length cv] 104 (0, 0)) ∧ w'.heap[W.heap.size + 1]? = some (.cells #[.int .i64 left.kind, .string left.text, .int .i64 left.pos, .slice Au acc.length cu] 74 (0, 0))) (ds := [7, 10]) #[false, false, false, false, false, false, false, false, false, false, false] (by kernel_rfl) rfl rfl (⟨HS3.out.st.cell, HS3.out.altCell⟩) (fun hHeld => ?_)
                refine pure_ (i := 0) (N := (some 42)) (v := ?_) (a' := ?_) #[true, false, false, false, false, false, false, false, false, false, false] rfl rfl (by kernel_rfl) (fun _ _ _ h => h) (Or.inl ⟨by rfl, ?_⟩) ?_ ?_
                rotate_left
                · (intro w'; go_simp; with_reducible rfl)
                rotate_left
                · (simp only [Act.put, List.setIfInBounds_toArray, List.set_cons_zero, List.set_cons_succ]; rfl)
                refine pure_ (i := 1) (N := (some 43)) (v := ?_) (a' := ?_) #[true, true, false, false, false, false, false, false, false, false, false] rfl rfl (by kernel_rfl) (fun _ _ _ h => h) (Or.inl ⟨by rfl, ?_⟩) ?_ ?_
                rotate_left
                · (intro w'; go_simp; with_reducible rfl)
                rotate_left
                · (simp only [Act.put, List.setIfInBounds_toArray, List.set_cons_zero, List.set_cons_succ]; rfl)
                refine pure_ (i := 2) (N := (some 44)) (v := ?_) (a' := ?_) #[true, true, true, false, false, false, false, false, false, false, false] rfl rfl (by kernel_rfl) (fun _ _ _ h => h) (Or.inl ⟨by rfl, ?_⟩) ?_ ?_
                rotate_left
                · (intro w'; go_simp; with_reducible rfl)
                rotate_left
                · (simp only [Act.put, List.setIfInBounds_toArray, List.set_cons_zero, List.set_cons_succ]; rfl)
                refine pure_ (i := 3) (N := (some 45)) (v := ?_) (a' := ?_) #[true, true, true, true, false, false, false, false, false, false, false] rfl rfl (by kernel_rfl) (fun _ _ _ h => h) (Or.inl ⟨by rfl, ?_⟩) ?_ ?_
                rotate_left
                · (intro w'; go_simp; with_reducible rfl)
                rotate_left
                · (simp only [Act.put, List.setIfInBounds_toArray, List.set_cons_zero, List.set_cons_succ]; rfl)
                refine take_ (i := 4) (N := (some 46)) (v := ?_) (a' := ?_) #[true, true, true, true, true, false, false, false, false, false, false] rfl rfl (by kernel_rfl) (fun _ _ _ h => h) (Or.inl ⟨by rfl, ?_⟩) hHeld ?_ ?_
                rotate_left
                · (rintro w' ⟨s0, s1⟩; have d0 := blk_cell s0 2; have d1 := blk_cell s1 0; have d2 := blk_cell s1 1; have d3 := blk_cell s1 2; have d4 := blk_cell s1 3; simp only [List.getElem?_toArray, List.getElem?_cons_zero, List.getElem?_cons_succ] at d0 d1 d2 d3 d4; go_simp; with_reducible rfl)
                rotate_left
                · (simp only [Act.put, List.setIfInBounds_toArray, List.set_cons_zero, List.set_cons_succ]; rfl)
                refine take_ (i := 5) (N := (some 47)) (v := ?_) (a' := ?_) #[true, true, true, true, true, true, false, false, false, false, false] rfl rfl (by kernel_rfl) (fun _ _ _ h => h) (Or.inl ⟨by rfl, ?_⟩) hHeld ?_ ?_
                rotate_left
                · (rintro w' ⟨s0, s1⟩; have d0 := blk_cell s0 2; have d1 := blk_cell s1 0; have d2 := blk_cell s1 1; have d3 := blk_cell s1 2; have d4 := blk_cell s1 3; simp only [List.getElem?_toArray, List.getElem?_cons_zero, List.getElem?_cons_succ] at d0 d1 d2 d3 d4; go_simp; with_reducible rfl)
                rotate_left
                · (simp only [Act.put, List.setIfInBounds_toArray, List.set_cons_zero, List.set_cons_succ]; rfl)
                refine one_ (i := 6) (N := (some 48)) #[true, true, true, true, true, true, true, false, false, false, false] rfl rfl (by kernel_rfl) (by decide) (fun K hK => ?_)
                refine value_ (w1 := ?_) (v := ?_) (by rfl) rfl ?_ ?_
                rotate_left 2
                · (go_simp; constructor; rfl; rfl)
                refine hK.out _ _ (⟨blk_alloc hHeld.1 _, blk_alloc hHeld.2 _⟩) (fun hHeld => ?_)
                clear hK K
                refine norm_ (a' := ?_) ?_ ?_
                rotate_left
                · (show Act.put _ (some 48) _ = _; simp only [Act.put, List.setIfInBounds_toArray, List.set_cons_zero, List.set_cons_succ]; rfl)
                refine last_ (i := 7) (N := (some 49)) #[true, true, true, true, true, true, true, true, false, false, false] rfl rfl (by kernel_rfl) (by decide) (fun K hK => ?_)
                (refine app_alt_step (w0 := w0) (xs := out) (p := ⟨left, acc⟩) (by rfl) rfl (Kd.R_mono HS3.out.st.row (fun _ _ => trivial)) (Kd.R_mono HS3.out.row (fun _ h => h.1)) HS3.out.st.below HL9.out (by simp [Act.eval]) (by simp [Act.eval]) ?_; intro v3 w3 A3; obtain ⟨Av3, cv3, rfl⟩ := A3.shape; have HS4 := Aside0.mk (HS3.out.done_ A3); have e1 := blk_grown HS3.out.st.cell A3.grown (Kd.R_ne HS3.out.st.row HS3.out.st.cell (by decide)); have e3 := blk_cell (blk_far (p := ⟨g, 2, none⟩) (blk_grown HT3.out A3.grown (Kd.R_ne HS3.out.st.row HT3.out (by decide))) (Ne.symm hgw) (.slice Av3 (out.length + 1) cv3)) 0; have e4 := blk_cell e1 2; have e5 := blk_frozen e1 2; simp only [List.getElem?_toArray, List.getElem?_cons_zero, List.getElem?_cons_succ] at e3 e4; clear A3)
                refine hK.out _ _ ?_
                clear hK K
                refine norm_ (a' := ?_) ?_ ?_
                rotate_left
                · (show Act.put _ (some 49) _ = _; simp only [Act.put, List.setIfInBounds_toArray, List.set_cons_zero, List.set_cons_succ]; rfl)
                refine pure_ (i := 8) (N := (some 50)) (v := ?_) (a' := ?_) #[true, true, true, true, true, true, true, true, true, false, false] rfl rfl (by kernel_rfl) (fun _ _ _ h => h) (Or.inl ⟨by rfl, ?_⟩) ?_ ?_
                rotate_left
                · (intro w'; go_simp; with_reducible rfl)
                rotate_left
                · (simp only [Act.put, List.setIfInBounds_toArray, List.set_cons_zero, List.set_cons_succ]; rfl)
                refine pure_ (i := 9) (N := (some 51)) (v := ?_) (a' := ?_) #[true, true, true, true, true, true, true, true, true, true, false] rfl rfl (by kernel_rfl) (fun _ _ _ h => h) (Or.inl ⟨by rfl, ?_⟩) ?_ ?_
                rotate_left
                · (intro w'; go_simp; with_reducible rfl)
                rotate_left
                · (simp only [Act.put, List.setIfInBounds_toArray, List.set_cons_zero, List.set_cons_succ]; rfl)
                refine last_ (i := 10) (N := none) #[true, true, true, true, true, true, true, true, true, true, true] rfl rfl (by kernel_rfl) (by decide) (fun K hK => ?_)
                skip
                refine skip_ (w1 := ?_) (by rfl) rfl ?_ ?_
                rotate_left
                · (go_simp; rfl)
                refine hK.out _ _ ?_
                clear hK K
                refine done_ (by kernel_rfl) ?_
                go_wp2
                rw [HR.out]
                unfold AltEnd
                simp only [ho, h8, or_self, if_false]
                exact bodyPost_ret (v := .bool true) (by simp [results, Try.results94, go_sem]) rfl ⟨rfl, A2, c2, _, HS4.out.1, HS4.out.2⟩
              · subst h
                go_wp2_with (go_at_call 93; refine (next_c _ _ _ _ _ _ _ _ _ _ HS1.out.st _ _ _ _ HK1.out).mono ?_; unfold NextEnd; simp only [HHK.out, if_true]; rintro e w1 ⟨rfl, ⟨A2, c2, hS2⟩, hg2⟩; have HS2 := Aside0.mk ((HS1.out.next hS2 hg2).alloc_ (.cells #[.int .i64 5, .string tx, .int .i64 tp] 49 (0, 0))); have hS2c := hS2.cell; clear hS2 hg2; have a1 := blk_cell HS2.out.altCell 3; have a2 := blk_frozen HS2.out.altCell 3; have a3 := blk_cell HS2.out.st.cell 2; simp only [List.getElem?_toArray, List.getElem?_cons_zero, List.getElem?_cons_succ] at a1 a3; have a4 := blk_cell HS2.out.leftCell 2; simp only [List.getElem?_toArray, List.getElem?_cons_zero, List.getElem?_cons_succ] at a4; have a5 := blk_cell HS2.out.altCell 0; have a6 := blk_cell HS2.out.altCell 1; have a7 := blk_cell HS2.out.altCell 2; simp only [List.getElem?_toArray, List.getElem?_cons_zero, List.getElem?_cons_succ] at a5 a6 a7; have a8 := blk_frozen HS2.out.st.cell 2)
                have HS3 := Aside0.mk HS2.out.drew_
                have HT3 := Aside0.mk (blk_drew (blk_new w1 (.cells #[.int .i64 5, .string tx, .int .i64 tp] 49 (0, 0))))
                have hb1 := blk_lt HS1.out.st.cell
                have HL9 : Aside0 (out.length + 1 ≤ 2000000000000) := ⟨by have := hout; omega⟩
                have hgw : g ≠ w1.heap.size := by have h1 := blk_lt hS2c; omega
                refine start_ (n := 11) (S := fun w' => w'.heap[g]? = some (.cells #[.slice A2 r.length c2, .int .i64 en, .slice Av out.length cv] 104 (0, 0)) ∧ w'.heap[W.heap.size + 1]? = some (.cells #[.int .i64 left.kind, .string left.text, .int .i64 left.pos, .slice Au acc.length cu] 74 (0, 0))) (ds := [7, 10]) #[false, false, false, false, false, false, false, false, false, false, false] (by kernel_rfl) rfl rfl (⟨HS3.out.st.cell, HS3.out.altCell⟩) (fun hHeld => ?_)
                refine pure_ (i := 0) (N := (some 42)) (v := ?_) (a' := ?_) #[true, false, false, false, false, false, false, false, false, false, false] rfl rfl (by kernel_rfl) (fun _ _ _ h => h) (Or.inl ⟨by rfl, ?_⟩) ?_ ?_
                rotate_left
                · (intro w'; go_simp; with_reducible rfl)
                rotate_left
                · (simp only [Act.put, List.setIfInBounds_toArray, List.set_cons_zero, List.set_cons_succ]; rfl)
                refine pure_ (i := 1) (N := (some 43)) (v := ?_) (a' := ?_) #[true, true, false, false, false, false, false, false, false, false, false] rfl rfl (by kernel_rfl) (fun _ _ _ h => h) (Or.inl ⟨by rfl, ?_⟩) ?_ ?_
                rotate_left
                · (intro w'; go_simp; with_reducible rfl)
                rotate_left
                · (simp only [Act.put, List.setIfInBounds_toArray, List.set_cons_zero, List.set_cons_succ]; rfl)
                refine pure_ (i := 2) (N := (some 44)) (v := ?_) (a' := ?_) #[true, true, true, false, false, false, false, false, false, false, false] rfl rfl (by kernel_rfl) (fun _ _ _ h => h) (Or.inl ⟨by rfl, ?_⟩) ?_ ?_
                rotate_left
                · (intro w'; go_simp; with_reducible rfl)
                rotate_left
                · (simp only [Act.put, List.setIfInBounds_toArray, List.set_cons_zero, List.set_cons_succ]; rfl)
                refine pure_ (i := 3) (N := (some 45)) (v := ?_) (a' := ?_) #[true, true, true, true, false, false, false, false, false, false, false] rfl rfl (by kernel_rfl) (fun _ _ _ h => h) (Or.inl ⟨by rfl, ?_⟩) ?_ ?_
                rotate_left
                · (intro w'; go_simp; with_reducible rfl)
                rotate_left
                · (simp only [Act.put, List.setIfInBounds_toArray, List.set_cons_zero, List.set_cons_succ]; rfl)
                refine take_ (i := 4) (N := (some 46)) (v := ?_) (a' := ?_) #[true, true, true, true, true, false, false, false, false, false, false] rfl rfl (by kernel_rfl) (fun _ _ _ h => h) (Or.inl ⟨by rfl, ?_⟩) hHeld ?_ ?_
                rotate_left
                · (rintro w' ⟨s0, s1⟩; have d0 := blk_cell s0 2; have d1 := blk_cell s1 0; have d2 := blk_cell s1 1; have d3 := blk_cell s1 2; have d4 := blk_cell s1 3; simp only [List.getElem?_toArray, List.getElem?_cons_zero, List.getElem?_cons_succ] at d0 d1 d2 d3 d4; go_simp; with_reducible rfl)
                rotate_left
                · (simp only [Act.put, List.setIfInBounds_toArray, List.set_cons_zero, List.set_cons_succ]; rfl)
                refine take_ (i := 5) (N := (some 47)) (v := ?_) (a' := ?_) #[true, true, true, true, true, true, false, false, false, false, false] rfl rfl (by kernel_rfl) (fun _ _ _ h => h) (Or.inl ⟨by rfl, ?_⟩) hHeld ?_ ?_
                rotate_left
                · (rintro w' ⟨s0, s1⟩; have d0 := blk_cell s0 2; have d1 := blk_cell s1 0; have d2 := blk_cell s1 1; have d3 := blk_cell s1 2; have d4 := blk_cell s1 3; simp only [List.getElem?_toArray, List.getElem?_cons_zero, List.getElem?_cons_succ] at d0 d1 d2 d3 d4; go_simp; with_reducible rfl)
                rotate_left
                · (simp only [Act.put, List.setIfInBounds_toArray, List.set_cons_zero, List.set_cons_succ]; rfl)
                refine one_ (i := 6) (N := (some 48)) #[true, true, true, true, true, true, true, false, false, false, false] rfl rfl (by kernel_rfl) (by decide) (fun K hK => ?_)
                refine value_ (w1 := ?_) (v := ?_) (by rfl) rfl ?_ ?_
                rotate_left 2
                · (go_simp; constructor; rfl; rfl)
                refine hK.out _ _ (⟨blk_alloc hHeld.1 _, blk_alloc hHeld.2 _⟩) (fun hHeld => ?_)
                clear hK K
                refine norm_ (a' := ?_) ?_ ?_
                rotate_left
                · (show Act.put _ (some 48) _ = _; simp only [Act.put, List.setIfInBounds_toArray, List.set_cons_zero, List.set_cons_succ]; rfl)
                refine last_ (i := 7) (N := (some 49)) #[true, true, true, true, true, true, true, true, false, false, false] rfl rfl (by kernel_rfl) (by decide) (fun K hK => ?_)
                (refine app_alt_step (w0 := w0) (xs := out) (p := ⟨left, acc⟩) (by rfl) rfl (Kd.R_mono HS3.out.st.row (fun _ _ => trivial)) (Kd.R_mono HS3.out.row (fun _ h => h.1)) HS3.out.st.below HL9.out (by simp [Act.eval]) (by simp [Act.eval]) ?_; intro v3 w3 A3; obtain ⟨Av3, cv3, rfl⟩ := A3.shape; have HS4 := Aside0.mk (HS3.out.done_ A3); have e1 := blk_grown HS3.out.st.cell A3.grown (Kd.R_ne HS3.out.st.row HS3.out.st.cell (by decide)); have e3 := blk_cell (blk_far (p := ⟨g, 2, none⟩) (blk_grown HT3.out A3.grown (Kd.R_ne HS3.out.st.row HT3.out (by decide))) (Ne.symm hgw) (.slice Av3 (out.length + 1) cv3)) 0; have e4 := blk_cell e1 2; have e5 := blk_frozen e1 2; simp only [List.getElem?_toArray, List.getElem?_cons_zero, List.getElem?_cons_succ] at e3 e4; clear A3)
                refine hK.out _ _ ?_
                clear hK K
                refine norm_ (a' := ?_) ?_ ?_
                rotate_left
                · (show Act.put _ (some 49) _ = _; simp only [Act.put, List.setIfInBounds_toArray, List.set_cons_zero, List.set_cons_succ]; rfl)
                refine pure_ (i := 8) (N := (some 50)) (v := ?_) (a' := ?_) #[true, true, true, true, true, true, true, true, true, false, false] rfl rfl (by kernel_rfl) (fun _ _ _ h => h) (Or.inl ⟨by rfl, ?_⟩) ?_ ?_
                rotate_left
                · (intro w'; go_simp; with_reducible rfl)
                rotate_left
                · (simp only [Act.put, List.setIfInBounds_toArray, List.set_cons_zero, List.set_cons_succ]; rfl)
                refine pure_ (i := 9) (N := (some 51)) (v := ?_) (a' := ?_) #[true, true, true, true, true, true, true, true, true, true, false] rfl rfl (by kernel_rfl) (fun _ _ _ h => h) (Or.inl ⟨by rfl, ?_⟩) ?_ ?_
                rotate_left
                · (intro w'; go_simp; with_reducible rfl)
                rotate_left
                · (simp only [Act.put, List.setIfInBounds_toArray, List.set_cons_zero, List.set_cons_succ]; rfl)
                refine last_ (i := 10) (N := none) #[true, true, true, true, true, true, true, true, true, true, true] rfl rfl (by kernel_rfl) (by decide) (fun K hK => ?_)
                skip
                refine skip_ (w1 := ?_) (by rfl) rfl ?_ ?_
                rotate_left
                · (go_simp; rfl)
                refine hK.out _ _ ?_
                clear hK K
                refine done_ (by kernel_rfl) ?_
                go_wp2
                rw [HR.out]
                unfold AltEnd
                simp only [ho, h8, or_self, if_false]
                exact bodyPost_ret (v := .bool false) (by simp [results, Try.results94, go_sem]) rfl ⟨rfl, A2, c2, _, HS4.out.1, HS4.out.2⟩
end Go.Proofs.Ytphmmppmhphgeaa
