/- Words for the walks of this seat: the data as Lean structures, how they lie in memory, and what reading an element gives. -/
import Derived.Test.YtphmmppmhphgeaaProg
import Derived.Test.YtphmmppmhphgeaaWWords
set_option linter.unusedVariables false
set_option linter.unusedSimpArgs false
namespace Go.Proofs.Ytphmmppmhphgeaa
open Go.RowKit Go.Proofs.YtphmmppmhphgeaaW.PrintWords

/-! ### endings -/
theorem ret_int {k : IntKind} {a b : Int} (h : a = b) : Ending.returned (.int k a) = .returned (.int k b) := by rw [h]
theorem ret_bool {a b : Bool} (h : a = b) : Ending.returned (.bool a) = .returned (.bool b) := by rw [h]
theorem ret_str {a b : ByteArray} (h : a = b) : Ending.returned (.string a) = .returned (.string b) := by rw [h]

/-! ### bytes -/
def bsl (s : ByteArray) : List UInt8 := s.data.toList
def ofL (l : List UInt8) : ByteArray := ⟨l.toArray⟩
@[simp] theorem bsl_ofL (l : List UInt8) : bsl (ofL l) = l := rfl
@[simp] theorem ofL_bsl (s : ByteArray) : ofL (bsl s) = s := by simp [ofL, bsl]
theorem ba_ext {a b : ByteArray} (h : bsl a = bsl b) : a = b := by rw [← ofL_bsl a, ← ofL_bsl b, h]
theorem str_beq (a b : ByteArray) : (a.toList == b.toList) = decide (a = b) := by
  rw [ByteArray.toList_eq, ByteArray.toList_eq, Bool.eq_iff_iff, beq_iff_eq, decide_eq_true_eq]
  exact ⟨ba_ext, fun h => by rw [h]⟩
theorem bsl_extract (s : ByteArray) (a b : Nat) : bsl (s.extract a b) = ((bsl s).take b).drop a := by
  simp [bsl, ByteArray.data_extract, List.extract_eq_take_drop, List.drop_take]
theorem size_data (s : ByteArray) : (bsl s).length = s.size := by unfold bsl; rw [Array.length_toList]; rfl
theorem bsl_get (s : ByteArray) (k : Nat) (h : k < s.size) (h' : k < (bsl s).length) : (bsl s)[k] = s[k] := rfl

/-! ### the world -/
theorem below_set {B : Nat} {a w : World} (h : Below B a w) {g : Nat} (hg : B ≤ g) (i : Nat) (u : Value) : Below B a (w.setCell ⟨g, i, none⟩ u) := h.setCell (p := ⟨g, i, none⟩) hg u
theorem grown_set (W : World) (g i : Nat) (u : Value) : W.grownBy (W.setCell ⟨g, i, none⟩ u) (some g) :=
  ⟨rfl, rfl, rfl, by simp [World.setCell], fun k _ hne => Below.heap_setCell W ⟨g, i, none⟩ u k (fun h => hne (by rw [h]))⟩
theorem grown_alloc {W W1 : World} {row : Option Nat} (h : W.grownBy W1 row) (o : Obj) : W.grownBy (W1.alloc o) row := World.grownBy.trans h (World.grownBy_alloc W1 o row)

/-! ### the data -/
structure Rule where
  left : Int
  right : List Int
deriving DecidableEq, Repr, Inhabited
structure Tok where
  kind : Int
  text : ByteArray
  pos : Int
deriving DecidableEq, Inhabited
structure Alt where
  left : Tok
  right : List Tok
deriving DecidableEq, Inhabited
structure Gram where
  terms : List ByteArray
  names : List ByteArray
  rules : List Rule
deriving DecidableEq, Inhabited

abbrev kInt : Kd Int := Kd.int .i64
abbrev kStr : Kd ByteArray := Kd.string
def kRule : Kd Rule := Kd.iso (Kd.pair kInt (Kd.slice 3 kInt)) (fun x : Rule => (x.left, x.right))
def kTok : Kd Tok := Kd.iso (Kd.pair kInt (Kd.pair kStr kInt)) (fun x : Tok => (x.kind, x.text, x.pos))
def kAlt : Kd Alt := Kd.iso (Kd.pair kTok (Kd.slice 49 kTok)) (fun x : Alt => (x.left, x.right))

theorem infoInt : (Try.prog.info? 3).map (fun i => (i.zero, i.size, i.bytes)) = some (some (.int .i64 0), 1, 8) := by kernel_rfl
theorem infoStr : (Try.prog.info? 9).map (fun i => (i.zero, i.size, i.bytes)) = some (some (.string ⟨#[]⟩), 1, 16) := by kernel_rfl
theorem infoTok : (Try.prog.info? 49).map (fun i => (i.zero, i.size, i.bytes)) = some (some (.agg #[.int .i64 0, .string ⟨#[]⟩, .int .i64 0]), 3, 32) := by kernel_rfl
theorem infoRule : (Try.prog.info? 56).map (fun i => (i.zero, i.size, i.bytes)) = some (some (.agg #[.int .i64 0, .slice none 0 0]), 2, 32) := by kernel_rfl
theorem infoAlt : (Try.prog.info? 74).map (fun i => (i.zero, i.size, i.bytes)) = some (some (.agg #[.int .i64 0, .string ⟨#[]⟩, .int .i64 0, .slice none 0 0]), 4, 56) := by kernel_rfl
theorem M_tok (w : World) (base : Nat) (ok : Nat → Prop) (x : Tok) : kTok.M w base ok x [.int .i64 x.kind, .string x.text, .int .i64 x.pos] := ⟨[.int .i64 x.kind], [.string x.text, .int .i64 x.pos], rfl, rfl, ⟨[.string x.text], [.int .i64 x.pos], rfl, rfl, rfl⟩⟩
theorem M_alt {w : World} {base : Nat} {ok : Nat → Prop} {x : Alt} {u : Value} (h : kTok.R 49 w base ok u x.right) : kAlt.M w base ok x [.int .i64 x.left.kind, .string x.left.text, .int .i64 x.left.pos, u] :=
  ⟨[.int .i64 x.left.kind, .string x.left.text, .int .i64 x.left.pos], [u], rfl, M_tok w base ok x.left, ⟨u, rfl, h⟩⟩
theorem M_rule {w : World} {base : Nat} {ok : Nat → Prop} {x : Rule} {u : Value} (h : kInt.R 3 w base ok u x.right) : kRule.M w base ok x [.int .i64 x.left, u] :=
  ⟨[.int .i64 x.left], [u], rfl, rfl, ⟨u, rfl, h⟩⟩
theorem C_lit (W : World) (xs : List Int) (hm : xs.length ≤ 9223372036854775807) : kInt.C (W.alloc (.cells (nums .i64 xs).toArray 3)) (some ⟨W.heap.size, 0, none⟩) xs.length xs := by
  have h := own_lit W 0 3 .i64 xs (Nat.zero_le _) hm
  obtain ⟨A, c, e, hr⟩ := own_reads h
  injection e with e1 e2 e3
  rw [e1]
  exact Kd.C_of_reads hr

section
variable {α : Type} {w : World} {A : Option Addr} {n : Nat}
theorem C_at {d : Kd α} {xs : List α} (h : d.C w A n xs) (k : Nat) (hk : k < xs.length) :
    ∃ ad c, A = some ad ∧ c.length = d.sz ∧ d.K w xs[k] c ∧ ∀ j u, c[j]? = some u → w.cell? (ad.add (k * d.sz + j)) = some u := by
  obtain ⟨ad, c, e, hl, hK, hc⟩ := Kd.C_get h xs[k] (k : Int) (by omega) (by have := h.1; omega)
  refine ⟨ad, c, e, hl, ?_, by simpa using hc⟩
  rw [List.getD_eq_getElem?_getD, Int.toNat_natCast, List.getElem?_eq_getElem hk] at hK
  exact hK
theorem C_len {d : Kd α} {xs : List α} (h : d.C w A n xs) : xs.length = n := h.1
theorem C_max {d : Kd α} {xs : List α} (h : d.C w A n xs) : n ≤ 9223372036854775807 := h.2.1
theorem at_int {xs : List Int} {k : IntKind} (h : (Kd.int k).C w A n xs) (i : Nat) (hi : i < xs.length) : ∃ ad, A = some ad ∧ w.cell? (ad.add i) = some (.int k xs[i]) := by
  obtain ⟨ad, c, e, _, rfl, hc⟩ := C_at h i hi
  exact ⟨ad, e, by simpa [Kd.int, Kd.scalar] using hc 0 _ rfl⟩
theorem at_bool {xs : List Bool} (h : Kd.bool.C w A n xs) (i : Nat) (hi : i < xs.length) : ∃ ad, A = some ad ∧ w.cell? (ad.add i) = some (.bool xs[i]) := by
  obtain ⟨ad, c, e, _, rfl, hc⟩ := C_at h i hi
  exact ⟨ad, e, by simpa [Kd.bool, Kd.scalar] using hc 0 _ rfl⟩
theorem at_str {xs : List ByteArray} (h : Kd.string.C w A n xs) (i : Nat) (hi : i < xs.length) : ∃ ad, A = some ad ∧ w.cell? (ad.add i) = some (.string xs[i]) := by
  obtain ⟨ad, c, e, _, rfl, hc⟩ := C_at h i hi
  exact ⟨ad, e, by simpa [Kd.string, Kd.scalar] using hc 0 _ rfl⟩
theorem at_row {e : Nat} {d : Kd α} {xs : List (List α)} (h : (Kd.slice e d).C w A n xs) (i : Nat) (hi : i < xs.length) :
    ∃ ad A1 c1, A = some ad ∧ w.cell? (ad.add i) = some (.slice A1 xs[i].length c1) ∧ xs[i].length ≤ c1 ∧ d.C w A1 xs[i].length xs[i] := by
  obtain ⟨ad, c, e, _, ⟨A1, c1, rfl, h1, h2⟩, hc⟩ := C_at h i hi
  exact ⟨ad, A1, c1, e, by simpa [Kd.slice] using hc 0 _ rfl, h1, h2⟩
theorem K_rule {x : Rule} {cs : List Value} (h : kRule.K w x cs) : ∃ A1 c1, cs = [.int .i64 x.left, .slice A1 x.right.length c1] ∧ x.right.length ≤ c1 ∧ kInt.C w A1 x.right.length x.right := by
  obtain ⟨_, _, rfl, rfl, ⟨A1, c1, rfl, l1, g1⟩⟩ := h
  exact ⟨A1, c1, rfl, l1, g1⟩
theorem K_tok {x : Tok} {cs : List Value} (h : kTok.K w x cs) : cs = [.int .i64 x.kind, .string x.text, .int .i64 x.pos] := by
  obtain ⟨_, _, rfl, rfl, ⟨_, _, rfl, rfl, rfl⟩⟩ := h
  rfl
theorem K_alt {x : Alt} {cs : List Value} (h : kAlt.K w x cs) : ∃ A1 c1, cs = [.int .i64 x.left.kind, .string x.left.text, .int .i64 x.left.pos, .slice A1 x.right.length c1] ∧ x.right.length ≤ c1 ∧ kTok.C w A1 x.right.length x.right := by
  obtain ⟨_, _, rfl, h1, ⟨A1, c1, rfl, l1, g1⟩⟩ := h
  obtain rfl := K_tok h1
  exact ⟨A1, c1, rfl, l1, g1⟩
theorem at_rule {xs : List Rule} (h : kRule.C w A n xs) (i : Nat) (hi : i < xs.length) :
    ∃ ad A1 c1, A = some ad ∧ w.cell? (ad.add (i * 2)) = some (.int .i64 xs[i].left) ∧ w.cell? ⟨(ad.add (i * 2)).block, (ad.add (i * 2)).off + 1, none⟩ = some (.slice A1 xs[i].right.length c1) ∧ xs[i].right.length ≤ c1 ∧ kInt.C w A1 xs[i].right.length xs[i].right := by
  obtain ⟨ad, c, e, _, hK, hc0⟩ := C_at h i hi
  obtain ⟨A1, c1, rfl, h1, h2⟩ := K_rule hK
  have hc : ∀ j u, _ → w.cell? (ad.add (i * 2 + j)) = some u := hc0
  exact ⟨ad, A1, c1, e, hc 0 _ rfl, by rw [← add_field _ _ 1 (by omega)]; exact hc 1 _ rfl, h1, h2⟩
theorem at_tok {xs : List Tok} (h : kTok.C w A n xs) (i : Nat) (hi : i < xs.length) :
    ∃ ad, A = some ad ∧ w.cell? (ad.add (i * 3)) = some (.int .i64 xs[i].kind) ∧ w.cell? ⟨(ad.add (i * 3)).block, (ad.add (i * 3)).off + 1, none⟩ = some (.string xs[i].text) ∧ w.cell? ⟨(ad.add (i * 3)).block, (ad.add (i * 3)).off + 2, none⟩ = some (.int .i64 xs[i].pos) := by
  obtain ⟨ad, c, e, _, hK, hc0⟩ := C_at h i hi
  obtain rfl := K_tok hK
  have hc : ∀ j u, _ → w.cell? (ad.add (i * 3 + j)) = some u := hc0
  exact ⟨ad, e, hc 0 _ rfl, by rw [← add_field _ _ 1 (by omega)]; exact hc 1 _ rfl, by rw [← add_field _ _ 2 (by omega)]; exact hc 2 _ rfl⟩
theorem at_alt {xs : List Alt} (h : kAlt.C w A n xs) (i : Nat) (hi : i < xs.length) :
    ∃ ad A1 c1, A = some ad ∧ w.cell? (ad.add (i * 4)) = some (.int .i64 xs[i].left.kind) ∧ w.cell? ⟨(ad.add (i * 4)).block, (ad.add (i * 4)).off + 1, none⟩ = some (.string xs[i].left.text) ∧ w.cell? ⟨(ad.add (i * 4)).block, (ad.add (i * 4)).off + 2, none⟩ = some (.int .i64 xs[i].left.pos) ∧ w.cell? ⟨(ad.add (i * 4)).block, (ad.add (i * 4)).off + 3, none⟩ = some (.slice A1 xs[i].right.length c1) ∧ xs[i].right.length ≤ c1 ∧ kTok.C w A1 xs[i].right.length xs[i].right := by
  obtain ⟨ad, c, e, _, hK, hc0⟩ := C_at h i hi
  obtain ⟨A1, c1, rfl, h1, h2⟩ := K_alt hK
  have hc : ∀ j u, _ → w.cell? (ad.add (i * 4 + j)) = some u := hc0
  exact ⟨ad, A1, c1, e, hc 0 _ rfl, by rw [← add_field _ _ 1 (by omega)]; exact hc 1 _ rfl, by rw [← add_field _ _ 2 (by omega)]; exact hc 2 _ rfl, by rw [← add_field _ _ 3 (by omega)]; exact hc 3 _ rfl, h1, h2⟩
end

end Go.Proofs.Ytphmmppmhphgeaa
