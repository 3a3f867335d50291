/- Texts T7, D1, D2, D3, D4, D5, D6, joined: contracts of functions of the program, and plain laws; each says what it proves. -/
import Derived.Test.YtdpdbgaoaibafaaJC
import Derived.Test.YtdpdbgaoaibafaaJB
import Derived.Shelf.Strings.Builder1
import Derived.Test.YtdpdbgaoaibafaaJA
import Derived.Test.YtdpdbgaoaibafaaJE
import Derived.Test.YtdpdbgaoaibafaaJN
import Derived.Recover
/- The contract of the document's answer for a symbol's name. -/
set_option linter.unusedVariables false
set_option linter.unusedSimpArgs false
namespace Go.Proofs.Ytdpdbgaoaibafaa
open Go.RowKit Go.Proofs.YtdpdbgaoaibafaaW.PrintWords Go.Proofs.YtdpdbgaoaibafaaW.PrintLast

def Name1End : Option ByteArray → Ending → Prop
  | none, e => e = .returned (.agg #[.string ⟨#[]⟩, .bool false])
  | some x, e => e = .returned (.agg #[.string x, .bool true])
theorem name1_none {o : Option ByteArray} (h : o = none) : Name1End o (.returned (.agg #[.string ⟨#[]⟩, .bool false])) := by subst h; rfl
theorem name1_some {o : Option ByteArray} {x : ByteArray} (h : o = some x) : Name1End o (.returned (.agg #[.string x, .bool true])) := by subst h; rfl
set_option maxRecDepth 100000 in
set_option maxHeartbeats 2000000 in
theorem name1_c (g : Gram) (A1 A2 A3 : Option Addr) (c1 c2 c3 : Nat) (sym : Int) (w : World) (hg : RepG w g A1 A2 A3 c1 c2 c3) (hsz : g.terms.length + g.names.length ≤ 4000000000000000) (hi : -9223372036854775808 ≤ sym ∧ sym ≤ 9223372036854775807) :
    Calls Try.prog 54 #[.agg #[.slice A1 g.terms.length c1, .slice A2 g.names.length c2, .slice A3 g.rules.length c3], .int .i64 sym] w fun e w' => Name1End (nameF g sym) e ∧ Below w.heap.size w w' := by
  obtain ⟨wg, hwg⟩ : ∃ wg : World, wg = w.alloc (.cells #[.slice A1 g.terms.length c1, .slice A2 g.names.length c2, .slice A3 g.rules.length c3] 25 (0, 0)) := ⟨_, rfl⟩
  have HB : Aside0 (∀ o, Below w.heap.size w (wg.alloc o)) := ⟨fun o => by rw [hwg]; exact ((Below.refl w.heap.size w).alloc (Nat.le_refl _) _).alloc (by simp) _⟩
  have HT : Aside0 (∀ o, (wg.alloc o).heap[w.heap.size + 1]? = some o) := ⟨fun o => by
    have h := blk_new wg o
    rw [show wg.heap.size = w.heap.size + 1 by rw [hwg]; simp] at h
    exact h⟩
  have HG := Aside0.mk hg
  have HG2 : Aside0 (RepG w g A1 A2 A3 c1 c2 c3) := ⟨hg⟩
  clear hg
  by_cases h1 : sym < 0
  · have HE : Aside0 (nameF g sym = none) := ⟨by unfold nameF; rw [if_pos h1]⟩
    go_enter Try.func54, Try.ntmps54
    go_wp2
    simp only [← hwg]
    exact bodyPost_ret (results_name1 rfl (HT.out _)) rfl ⟨name1_none HE.out, HB.out _⟩
  · obtain ⟨k, rfl⟩ := Int.eq_ofNat_of_zero_le (by omega : 0 ≤ sym)
    by_cases h2 : k < g.terms.length + g.names.length
    · by_cases h3 : k < g.terms.length
      · obtain ⟨ad, ead, hx⟩ := at_str (Kd.C_below HG.out.terms (HB.out (.cells #[.string ⟨#[]⟩, .bool false] 80 (0, 0)))) k h3
        rw [hwg] at hx
        cases ead
        have HE : Aside0 (nameF g (k : Int) = some (g.terms[k]'h3)) := ⟨by unfold nameF; rw [if_neg h1, if_pos (by omega), Int.toNat_natCast, List.getElem?_eq_getElem h3]⟩
        go_enter Try.func54, Try.ntmps54
        go_wp2
        simp only [← hwg]
        exact bodyPost_ret (results_name1 rfl (HT.out _)) rfl ⟨name1_some HE.out, HB.out _⟩
      · obtain ⟨m, rfl⟩ : ∃ m, k = m + g.terms.length := ⟨k - g.terms.length, by omega⟩
        have h4 : m < g.names.length := by omega
        obtain ⟨ad, ead, hx⟩ := at_str (Kd.C_below HG.out.names (HB.out (.cells #[.string ⟨#[]⟩, .bool false] 80 (0, 0)))) m h4
        rw [hwg] at hx
        cases ead
        have e1 : IntKind.i64.wrap ((↑(m + g.terms.length) : Int) - (g.terms.length : Int)) = (m : Int) := by rw [IntWalk.i64_in _ (by omega)]; omega
        have HE : Aside0 (nameF g ((m + g.terms.length : Nat) : Int) = some (g.names[m]'h4)) := ⟨by unfold nameF; rw [if_neg h1, if_neg (by omega), Int.toNat_natCast, Nat.add_sub_cancel, List.getElem?_eq_getElem h4]⟩
        go_enter Try.func54, Try.ntmps54
        go_wp2
        simp only [← hwg]
        exact bodyPost_ret (results_name1 rfl (HT.out _)) rfl ⟨name1_some HE.out, HB.out _⟩
    · have HE : Aside0 (nameF g (k : Int) = none) := ⟨by unfold nameF; rw [if_neg h1, if_neg (by omega), Int.toNat_natCast, List.getElem?_eq_none (by omega)]⟩
      go_enter Try.func54, Try.ntmps54
      go_wp2
      simp only [← hwg]
      exact bodyPost_ret (results_name1 rfl (HT.out _)) rfl ⟨name1_none HE.out, HB.out _⟩
end Go.Proofs.Ytdpdbgaoaibafaa

/- The contracts of strings.Builder's methods, for a builder in a block of its own. The laying is what the shelf's tools have written. -/
set_option linter.unusedVariables false
set_option linter.unusedSimpArgs false
namespace Go.Proofs
open Go.Shelf Go.RowKit
def Try.lays170_ren : Go.Shelf.Ren := ⟨fun | 170 => 51 | n => n, fun | 70 => 70 | 3 => 3 | 0 => 0 | 72 => 72 | 37 => 59 | 5 => 5 | n => n, fun | n => n⟩
theorem Try.lays170 : Go.Proofs.Lays.n170 Try.prog Try.lays170_ren := {
  mixed := by kernel_rfl
  f170 := Try.func51.trans (congrArg some (by kernel_rfl))
  t0 := Try.underlying0
  a0 := Try.isAgg0
  z0 := Try.sizeOf0
  v0 := Try.zeroValue0
  t3 := Try.underlying3
  a3 := Try.isAgg3
  z3 := Try.sizeOf3
  v3 := Try.zeroValue3
  t37 := Try.underlying59
  a37 := Try.isAgg59
  z37 := Try.sizeOf59
  v37 := Try.zeroValue59
  t70 := Try.underlying70
  a70 := Try.isAgg70
  z70 := Try.sizeOf70
  v70 := Try.zeroValue70
  t72 := Try.underlying72
  a72 := Try.isAgg72
  z72 := Try.sizeOf72
  v72 := Try.zeroValue72 }
theorem Try.Builder_Len (B b : Nat) (bs : List Value) (w : World) (h : Lib.IsBuilder 72 5 B b bs w) :
    Calls Try.prog 51 #[.pointer (some ⟨b, 0, none⟩)] w fun e w' => e = .returned (.int .i64 bs.length) ∧ w' = w := Any.Builder_Len Try.lays170 B b bs w h
def Try.lays169_ren : Go.Shelf.Ren := ⟨fun | 169 => 52 | n => n, fun | 70 => 70 | 9 => 9 | 0 => 0 | 72 => 72 | 37 => 59 | 127 => 120 | 3 => 3 | 5 => 5 | n => n, fun | n => n⟩
theorem Try.lays169 : Go.Proofs.Lays.n169 Try.prog Try.lays169_ren := {
  mixed := by kernel_rfl
  f169 := Try.func52.trans (congrArg some (by kernel_rfl))
  t0 := Try.underlying0
  a0 := Try.isAgg0
  z0 := Try.sizeOf0
  v0 := Try.zeroValue0
  t3 := Try.underlying3
  a3 := Try.isAgg3
  z3 := Try.sizeOf3
  v3 := Try.zeroValue3
  t9 := Try.underlying9
  a9 := Try.isAgg9
  z9 := Try.sizeOf9
  v9 := Try.zeroValue9
  t37 := Try.underlying59
  a37 := Try.isAgg59
  z37 := Try.sizeOf59
  v37 := Try.zeroValue59
  t70 := Try.underlying70
  a70 := Try.isAgg70
  z70 := Try.sizeOf70
  v70 := Try.zeroValue70
  t72 := Try.underlying72
  a72 := Try.isAgg72
  z72 := Try.sizeOf72
  v72 := Try.zeroValue72
  t127 := Try.underlying120
  a127 := Try.isAgg120
  z127 := Try.sizeOf120
  v127 := Try.zeroValue120 }
theorem Try.Builder_Extra_169 : Builder.Extra Try.prog Try.lays169_ren := {
  sizeBuilder := by kernel_rfl
  liesBuilder := by kernel_rfl
  t5 := Try.underlying5
  a5 := Try.isAgg5
  z5 := Try.sizeOf5
  v5 := Try.zeroValue5
  infoByte := by kernel_rfl
  cellsByte := by kernel_rfl
  sizeByte := by kernel_rfl
  neB5 := by decide }
theorem Try.Builder_String (B b : Nat) (l : List UInt8) (w : World) (h : Lib.IsBuilder 72 5 B b (Lib.byteCells l) w) (h0 : l ≠ []) :
    Calls Try.prog 52 #[.pointer (some ⟨b, 0, none⟩)] w fun e w' => e = .returned (.string ⟨l.toArray⟩) ∧ Below B w w' := Any.Builder_String Try.lays169 Try.Builder_Extra_169 B b l w h h0
theorem Try.Builder_String_empty (B b : Nat) (w : World) (h : Lib.IsBuilder 72 5 B b [] w) (hBw : B ≤ w.heap.size) :
    Calls Try.prog 52 #[.pointer (some ⟨b, 0, none⟩)] w fun e w' => e = .returned (.string ⟨#[]⟩) ∧ Below B w w' := Any.Builder_String_empty Try.lays169 Try.Builder_Extra_169 B b w h hBw
theorem Try.Builder_String_any (B b : Nat) (l : List UInt8) (w : World) (h : Lib.IsBuilder 72 5 B b (Lib.byteCells l) w) (hBw : B ≤ w.heap.size) :
    Calls Try.prog 52 #[.pointer (some ⟨b, 0, none⟩)] w fun e w' => e = .returned (.string ⟨l.toArray⟩) ∧ Below B w w' := Any.Builder_String_any Try.lays169 Try.Builder_Extra_169 B b l w h hBw
end Go.Proofs
namespace Go.Proofs.Ytdpdbgaoaibafaa
open Go.RowKit Go.Proofs.YtdpdbgaoaibafaaW.PrintWords

theorem szBuilder : (Try.prog.info? 72).map (·.size) = some 2 := by kernel_rfl
theorem liesBuilder : liesAt Try.prog Try.prog.depth 72 (2 / Try.prog.cellsOf 72) 0 72 1 = true := by kernel_rfl
theorem infoByte : (Try.prog.info? 5).map (fun i => (i.zero, i.size, i.bytes)) = some (some (.int .u8 0), 1, 1) := by kernel_rfl

set_option maxHeartbeats 1000000 in
set_option maxRecDepth 100000 in
theorem copyCheck_used (b : Nat) (w : World) (h0 : w.cell? ⟨b, 0, none⟩ = some (.pointer (some ⟨b, 0, none⟩))) :
    Calls Try.prog 86 #[.pointer (some ⟨b, 0, none⟩)] w fun e w' => e = .returned (.tuple #[]) ∧ w' = w := by
  obtain ⟨j, hj, _⟩ := Option.map_eq_some_iff.1 szBuilder
  go_enter Try.func86, Try.ntmps86
  go_wp2
  rw [Lib.run_neq_ptr_same w _ Try.underlying70 hj]
  go_wp2
  go_end0
  exact ⟨rfl, rfl⟩

set_option maxHeartbeats 1000000 in
set_option maxRecDepth 100000 in
theorem copyCheck_fresh (b : Nat) (w : World) (h0 : w.cell? ⟨b, 0, none⟩ = some (.pointer none)) (hsh : w.shape? b = some (72, 2)) (hfz : w.frozen? ⟨b, 0, none⟩ = false) :
    Calls Try.prog 86 #[.pointer (some ⟨b, 0, none⟩)] w fun e w' => e = .returned (.tuple #[]) ∧ w' = w.setCell ⟨b, 0, none⟩ (.pointer (some ⟨b, 0, none⟩)) := by
  obtain ⟨j, hj, hjs⟩ := Option.map_eq_some_iff.1 szBuilder
  go_enter Try.func86, Try.ntmps86
  go_wp2
  rw [Lib.run_to_unsafe w ⟨b, 0, none⟩ Try.underlying70 Try.underlying146 hj (by rw [hjs]; decide) hsh (Nat.zero_lt_succ 1)]
  simp only [Result.andThen]
  rw [Oper.upon_value]
  go_wp2
  rw [run_callFunc_extern Try.func113 (by kernel_rfl) (by kernel_rfl) (by kernel_rfl) (e := Extern.AbiNoEscape.same) (by kernel_rfl)]
  rw [Lib.run_noEscape]
  simp only [Result.andThen]
  rw [Oper.upon_value]
  go_wp2
  rw [Lib.run_from_unsafe w ⟨b, 0, none⟩ Try.underlying146 Try.underlying70 hj hsh liesBuilder]
  simp only [Result.andThen]
  rw [Oper.upon_value]
  go_wp2
  go_end0
  exact ⟨rfl, rfl⟩

theorem copyCheck_c (B b : Nat) (bs : List Value) (w : World) (h : Lib.IsBuilder 72 5 B b bs w) :
    Calls Try.prog 86 #[.pointer (some ⟨b, 0, none⟩)] w fun e w' => e = .returned (.tuple #[]) ∧ (Lib.BuilderAt 72 5 B b (.pointer (some ⟨b, 0, none⟩)) bs w' ∧ Below B w w') := by
  rcases h with h | h
  · refine (copyCheck_fresh b w h.cell0 h.shape h.frozen0).mono ?_
    rintro e w' ⟨rfl, rfl⟩
    exact ⟨rfl, h.used _, (Below.refl B w).setCell (p := ⟨b, 0, none⟩) h.1 _⟩
  · refine (copyCheck_used b w h.cell0).mono ?_
    rintro e w' ⟨rfl, rfl⟩
    exact ⟨rfl, h, Below.refl B _⟩

set_option maxHeartbeats 2000000 in
set_option maxRecDepth 100000 in
theorem writeString_c (B b : Nat) (bs : List Value) (s : ByteArray) (w : World) (h : Lib.IsBuilder 72 5 B b bs w) (hlen : bs.length + s.size ≤ 140737488355328) (hBw : B ≤ w.heap.size) :
    Calls Try.prog 49 #[.pointer (some ⟨b, 0, none⟩), .string s] w fun e w' => e = .returned (.tuple #[.int .i64 s.size, .nilIface]) ∧ (Lib.BuilderAt 72 5 B b (.pointer (some ⟨b, 0, none⟩)) (bs ++ Lib.strCells s) w' ∧ Below B w w') := by
  obtain ⟨i0, hi, hz0, hz1, hz2⟩ := info_parts infoByte
  go_enter Try.func49, Try.ntmps49
  go_wp2_with (go_at_call 86; refine (copyCheck_c B b bs _ h).mono ?_)
  rintro e w1 ⟨rfl, h1, hb1⟩
  obtain ⟨hB, v, hbk, hown, hne⟩ := h1
  have c0 : w1.cell? ⟨b, 0, none⟩ = some (.pointer (some ⟨b, 0, none⟩)) := by rw [Lib.cell_of_heap hbk]; rfl
  have c1 : w1.cell? ⟨b, 1, none⟩ = some v := by rw [Lib.cell_of_heap hbk]; rfl
  go_wp2_with (at_builtin; refine Lib.wpList_append_own_string _ rfl _ _ 59 9 rfl B 5 i0 Try.underlying59 Try.underlying9 hi hz0 hz1 hz2 _ _ _ rfl hown s rfl ?c3 ?c4 ?c5 ?_)
  case c3 => unfold maxLen; omega
  case c4 => omega
  case c5 => have := hb1.size; omega
  intro v' w2 hown' hgrow _
  have hlt : b < w1.heap.size := by
    rcases Nat.lt_or_ge b w1.heap.size with h' | h'
    · exact h'
    · simp [Array.getElem?_eq_none h'] at hbk
  have hb2 : w2.heap[b]? = some (.cells #[.pointer (some ⟨b, 0, none⟩), v] 72 (0, 0)) := by
    rw [hgrow.block b hlt (fun e => hne e.symm)]
    exact hbk
  have d0 : w2.cell? ⟨b, 0, none⟩ = some (.pointer (some ⟨b, 0, none⟩)) := by rw [Lib.cell_of_heap hb2]; rfl
  have d1 : w2.cell? ⟨b, 1, none⟩ = some v := by rw [Lib.cell_of_heap hb2]; rfl
  have f1 : w2.frozen? ⟨b, 1, none⟩ = false := Lib.frozen_of_heap hb2 1
  obtain ⟨ao, n', cap, rfl⟩ : ∃ ao n' cap, v' = .slice ao n' cap := by
    rcases hown'.2 with ⟨hv, _⟩ | ⟨g, cap, cur, hv, _⟩
    · exact ⟨_, _, _, hv⟩
    · exact ⟨_, _, _, hv⟩
  go_wp2
  go_ret2
  refine ⟨rfl, ?_, ?_⟩
  · exact Lib.BuilderAt.put (T := 72) (e := 5) hB hb2 (bs' := bs ++ Lib.strCells s) (by simpa [Lib.strCells_length] using hown') (by decide)
  · exact (hb1.grown hgrow (by have := hb1.size; omega) (fun k hk => (hown.lt k hk).1)).setCell (p := ⟨b, 1, none⟩) hB _

theorem strCells_app (a b : ByteArray) : Lib.strCells a ++ Lib.strCells b = Lib.strCells (a ++ b) := by
  rw [Lib.strCells_eq, Lib.strCells_eq, Lib.strCells_eq, ← Lib.byteCells_append]
  congr 1
theorem builderLen_c (B b : Nat) (s : ByteArray) (w : World) (h : Lib.IsBuilder 72 5 B b (Lib.strCells s) w) :
    Calls Try.prog 51 #[.pointer (some ⟨b, 0, none⟩)] w fun e w' => e = .returned (.int .i64 s.size) ∧ w = w' := by
  refine (Try.Builder_Len B b _ w h).mono ?_
  rintro e w' ⟨rfl, rfl⟩
  exact ⟨by rw [Lib.strCells_length], rfl⟩
theorem builderStr_c (B b : Nat) (s : ByteArray) (w : World) (h : Lib.IsBuilder 72 5 B b (Lib.strCells s) w) (hBw : B ≤ w.heap.size) :
    Calls Try.prog 52 #[.pointer (some ⟨b, 0, none⟩)] w fun e w' => e = .returned (.string s) ∧ Below B w w' :=
  Try.Builder_String_any B b s.data.toList w h hBw
theorem builderWrite_c (B b : Nat) (S s : ByteArray) (w : World) (h : Lib.IsBuilder 72 5 B b (Lib.strCells S) w) (hlen : S.size + s.size ≤ 140737488355328) (hBw : B ≤ w.heap.size) :
    Calls Try.prog 49 #[.pointer (some ⟨b, 0, none⟩), .string s] w fun e w' => e = .returned (.tuple #[.int .i64 s.size, .nilIface]) ∧ (Lib.IsBuilder 72 5 B b (Lib.strCells (S ++ s)) w' ∧ Below B w w') := by
  refine (writeString_c B b _ s w h (by rw [Lib.strCells_length]; exact hlen) hBw).mono ?_
  rintro e w' ⟨rfl, h1, h2⟩
  rw [strCells_app] at h1
  exact ⟨rfl, .inr h1, h2⟩
theorem builder_below {B b : Nat} {bs : List Value} {w w' : World} (h : Lib.IsBuilder 72 5 B b bs w) (hb : Below w.heap.size w w') : Lib.IsBuilder 72 5 B b bs w' := by
  have hg : w.grownBy w' none := ⟨hb.os, hb.tape, hb.output, hb.size, fun k hk _ => hb.block k hk⟩
  have key : ∀ {p : Value}, Lib.BuilderAt 72 5 B b p bs w → Lib.BuilderAt 72 5 B b p bs w' := by
    intro p hp
    have hlt := hp.lt
    obtain ⟨hB, v, hbk, hown, hne⟩ := hp
    refine ⟨hB, v, by rw [hb.block b hlt]; exact hbk, hown.kept hg ?_, hne⟩
    cases v.ownBlock
    · exact .inl rfl
    · exact .inr (by simp)
  rcases h with h | h
  · exact .inl (key h)
  · exact .inr (key h)
theorem builder_lt {B b : Nat} {bs : List Value} {w : World} (h : Lib.IsBuilder 72 5 B b bs w) : b < w.heap.size := by
  rcases h with h | h
  · exact h.lt
  · exact h.lt
end Go.Proofs.Ytdpdbgaoaibafaa

/- show: a symbol's text, a rule's text. -/
set_option linter.unusedVariables false
set_option linter.unusedSimpArgs false
namespace Go.Proofs.Ytdpdbgaoaibafaa
open Go.RowKit Go.Proofs.YtdpdbgaoaibafaaW.PrintWords Go.Proofs.YtdpdbgaoaibafaaW.PrintLast

/-! ### plain -/
def nameD (g : Gram) (x : Int) : ByteArray := (nameF g x).getD ⟨#[]⟩
def symS (g : Gram) (x : Int) : ByteArray := if termF g x = true then ⟨#[39]⟩ ++ nameD g x ++ ⟨#[39]⟩ else nameD g x
def rowS (g : Gram) (acc : ByteArray) (l : List Int) : ByteArray := l.foldl (fun a x => a ++ (⟨#[32]⟩ ++ symS g x)) acc
def lineF (g : Gram) (r : Rule) : ByteArray := rowS g (nameD g r.left ++ ⟨#[32, 61]⟩) r.right
def textS (g : Gram) (acc : ByteArray) (l : List Rule) : ByteArray := l.foldl (fun a r => a ++ (lineF g r ++ ⟨#[32, 59, 10]⟩)) acc
def textF (g : Gram) : ByteArray := textS g ⟨#[]⟩ g.rules
theorem rowS_succ {g : Gram} {acc : ByteArray} {l : List Int} {k : Nat} (h : k < l.length) : rowS g acc (l.take (k + 1)) = rowS g acc (l.take k) ++ (⟨#[32]⟩ ++ symS g (l[k]'h)) := by
  unfold rowS
  rw [List.take_succ_eq_append_getElem h, List.foldl_append]
  rfl
theorem textS_succ {g : Gram} {acc : ByteArray} {l : List Rule} {k : Nat} (h : k < l.length) : textS g acc (l.take (k + 1)) = textS g acc (l.take k) ++ (lineF g (l[k]'h) ++ ⟨#[32, 59, 10]⟩) := by
  unfold textS
  rw [List.take_succ_eq_append_getElem h, List.foldl_append]
  rfl
theorem symS_t {g : Gram} {x : Int} {s : ByteArray} (hs : nameF g x = some s) (ht : termF g x = true) : symS g x = ⟨#[39]⟩ ++ s ++ ⟨#[39]⟩ := by unfold symS nameD; rw [if_pos ht, hs]; rfl
theorem symS_n {g : Gram} {x : Int} {s : ByteArray} (hs : nameF g x = some s) (ht : termF g x = false) : symS g x = s := by unfold symS nameD; rw [if_neg (by rw [ht]; decide), hs]; rfl
theorem good_left {g : Gram} (h : goodF g = true) {r : Rule} (hr : r ∈ g.rules) : ((g.terms.length : Int) ≤ r.left ∧ r.left < (g.terms.length : Int) + g.names.length) ∧ r.right.length ≤ 8 ∧ ∀ x ∈ r.right, 0 ≤ x ∧ x < (g.terms.length : Int) + g.names.length := by
  have h3 : ruledF g = true := by
    unfold goodF at h
    simp only [Bool.and_eq_true] at h
    exact h.1.1.2
  unfold ruledF at h3
  simp only [Bool.and_eq_true] at h3
  obtain ⟨a, b, c, d⟩ := rulF_mem h3.2 r hr
  exact ⟨⟨by omega, b⟩, c, d⟩
theorem size_bsl (s : ByteArray) : (bsl s).length = s.size := size_data s
theorem good_size {g : Gram} (h : goodF g = true) {x : Int} {s : ByteArray} (hs : nameF g x = some s) : s.size ≤ 16 := by
  have hh := h
  unfold goodF at h
  simp only [Bool.and_eq_true] at h
  obtain ⟨⟨⟨⟨h1, h2⟩, _⟩, _⟩, _⟩ := h
  unfold namesOk at h1
  unfold termsOk at h2
  simp only [Bool.and_eq_true] at h1 h2
  unfold nameF at hs
  split at hs
  · cases hs
  · split at hs
    · have := distF_may h2.1.1 s (List.mem_of_getElem? hs)
      unfold termOk isTermF at this
      simp only [Bool.and_eq_true, decide_eq_true_eq] at this
      rw [← size_bsl]; exact this.1.2
    · have := distF_may h1.1.1 s (List.mem_of_getElem? hs)
      unfold nameOk isNameF at this
      simp only [Bool.and_eq_true, decide_eq_true_eq] at this
      rw [← size_bsl]; exact this.1.1
theorem size_app (a b : ByteArray) : (a ++ b).size = a.size + b.size := ByteArray.size_append
theorem symS_size {g : Gram} (h : goodF g = true) (x : Int) : (symS g x).size ≤ 18 := by
  have h1 : (nameD g x).size ≤ 16 := by
    unfold nameD
    cases hn : nameF g x with
    | none => exact Nat.zero_le _
    | some s => exact good_size h hn
  unfold symS
  split
  · rw [size_app, size_app, show (⟨#[39]⟩ : ByteArray).size = 1 from rfl]; omega
  · omega
theorem rowS_size {g : Gram} (h : goodF g = true) (l : List Int) (acc : ByteArray) : (rowS g acc l).size ≤ acc.size + 19 * l.length := by
  induction l generalizing acc with
  | nil => exact Nat.le_refl _
  | cons x l ih =>
    have h1 := ih (acc ++ (⟨#[32]⟩ ++ symS g x))
    have h2 := symS_size h x
    rw [size_app, size_app] at h1
    have h3 : (⟨#[32]⟩ : ByteArray).size = 1 := rfl
    rw [List.length_cons]
    show (rowS g (acc ++ (⟨#[32]⟩ ++ symS g x)) l).size ≤ _
    omega
theorem lineF_size {g : Gram} (h : goodF g = true) {r : Rule} (hr : r.right.length ≤ 8) : (lineF g r).size ≤ 200 := by
  have h1 := rowS_size h r.right (nameD g r.left ++ ⟨#[32, 61]⟩)
  have h2 : (nameD g r.left).size ≤ 16 := by
    unfold nameD
    cases hn : nameF g r.left with
    | none => exact Nat.zero_le _
    | some s => exact good_size h hn
  rw [size_app] at h1
  have h3 : (⟨#[32, 61]⟩ : ByteArray).size = 2 := rfl
  unfold lineF
  omega
theorem textS_size {g : Gram} (h : goodF g = true) (l : List Rule) (hl : ∀ r ∈ l, r.right.length ≤ 8) (acc : ByteArray) : (textS g acc l).size ≤ acc.size + 203 * l.length := by
  induction l generalizing acc with
  | nil => exact Nat.le_refl _
  | cons x l ih =>
    have h1 := ih (fun r hr => hl r (List.mem_cons_of_mem _ hr)) (acc ++ (lineF g x ++ ⟨#[32, 59, 10]⟩))
    have h2 := lineF_size h (hl x List.mem_cons_self)
    rw [size_app, size_app] at h1
    have h3 : (⟨#[32, 59, 10]⟩ : ByteArray).size = 3 := rfl
    rw [List.length_cons]
    show (textS g (acc ++ (lineF g x ++ ⟨#[32, 59, 10]⟩)) l).size ≤ _
    omega
theorem nameD_c (g : Gram) (A1 A2 A3 : Option Addr) (c1 c2 c3 : Nat) (sym : Int) (w : World) (hg : RepG w g A1 A2 A3 c1 c2 c3) (hsz : g.terms.length + g.names.length ≤ 4000000000000000) (hi : -9223372036854775808 ≤ sym ∧ sym ≤ 9223372036854775807) {s : ByteArray} (hs : nameF g sym = some s) :
    Calls Try.prog 25 #[.agg #[.slice A1 g.terms.length c1, .slice A2 g.names.length c2, .slice A3 g.rules.length c3], .int .i64 sym] w fun e w' => e = .returned (.tuple #[.string s, .bool true]) ∧ Below w.heap.size w w' := by
  have := name_c g A1 A2 A3 c1 c2 c3 sym w hg hsz hi
  rw [hs] at this
  exact this
theorem term_v (g : Gram) (A1 A2 A3 : Option Addr) (c1 c2 c3 : Nat) (sym : Int) (w : World) {v : Bool} (hv : termF g sym = v) :
    Calls Try.prog 26 #[.agg #[.slice A1 g.terms.length c1, .slice A2 g.names.length c2, .slice A3 g.rules.length c3], .int .i64 sym] w fun e w' => e = .returned (.bool v) ∧ Below w.heap.size w w' := by subst hv; exact term_c g A1 A2 A3 c1 c2 c3 sym w

set_option maxRecDepth 100000 in
set_option maxHeartbeats 4000000 in
theorem shown_c (g : Gram) (A1 A2 A3 : Option Addr) (c1 c2 c3 : Nat) (x : Int) (w : World) (hg : RepG w g A1 A2 A3 c1 c2 c3) (hz : g.terms.length + g.names.length ≤ 80) (hgd : goodF g = true) (h0 : 0 ≤ x) (h1 : x < (g.terms.length : Int) + g.names.length) {s : ByteArray} (hs : symS g x = s) :
    Calls Try.prog 87 #[.agg #[.slice A1 g.terms.length c1, .slice A2 g.names.length c2, .slice A3 g.rules.length c3], .int .i64 x] w fun e w' => e = .returned (.string s) ∧ Below w.heap.size w w' := by
  obtain ⟨v0, hv0⟩ : ∃ v0 : World, v0 = w.alloc (.cells #[.slice A1 g.terms.length c1, .slice A2 g.names.length c2, .slice A3 g.rules.length c3] 25 (0, 0)) := ⟨_, rfl⟩
  have HB0 : Aside0 (Below w.heap.size w v0) := ⟨by rw [hv0]; exact below_alloc (Below.refl _ _) _⟩
  have HP0 : Aside0 (v0.heap[w.heap.size]? = some (.cells #[.slice A1 g.terms.length c1, .slice A2 g.names.length c2, .slice A3 g.rules.length c3] 25 (0, 0))) := ⟨by rw [hv0]; exact blk_new w _⟩
  have HG0 := Aside0.mk (hg.below_ HB0.out)
  obtain ⟨nm, hnm⟩ := name_in h0 h1
  have HN := Lib.hid hnm
  have hns := good_size hgd hnm
  subst hs
  obtain ⟨b, hb⟩ : ∃ b, termF g x = b := ⟨_, rfl⟩
  have HT := Lib.hid hb
  have hrg : -9223372036854775808 ≤ x ∧ x ≤ 9223372036854775807 := by omega
  have HRG := Aside0.mk hrg
  clear hg hnm hb hrg
  go_enter Try.func87, Try.ntmps87
  go_upto_region 1 with (fail)
  simp only [← hv0]
  clear hv0
  refine pl_start ?_
  refine pl_held (B := v0.heap.size) (v := v0) (Below.refl _ _) (fun hHeld => ?_)
  refine pp_ ?_ ?_ ?_ (y := by have d0 := (blk_cell (blk_below HP0.out hHeld) 0).trans rfl; have d1 := (blk_cell (blk_below HP0.out hHeld) 1).trans rfl; have d2 := (blk_cell (blk_below HP0.out hHeld) 2).trans rfl; go_simp; rfl)
  refine pp_ ?_ ?_ ?_
  refine goesCL_ (N := (some 10)) Try.func25 (by kernel_rfl) rfl (by rfl) rfl rfl (nameD_c g A1 A2 A3 c1 c2 c3 x _ (HG0.out.below_ hHeld) (by omega) HRG.out HN.out) (by simp [Act.eval]) ?_
  rintro e x1_2 ⟨rfl, hb1_2⟩
  refine ⟨_, rfl, ?_⟩
  simp only [Act.put, List.setIfInBounds_toArray, List.set_cons_zero, List.set_cons_succ]
  refine pl_held (B := v0.heap.size) (v := v0) (below_then hHeld hHeld.size hb1_2) (fun hHeld => ?_)
  refine pp_ ?_ ?_ ?_
  refine pp_ ?_ ?_ ?_
  refine pp_ ?_ ?_ ?_
  refine pp_ ?_ ?_ ?_
  refine pp_ ?_ ?_ ?_
  refine pl_nil ?_
  have HX1 := Aside0.mk hHeld
  go_upto_region 4 with (fail)
  refine pl_start ?_
  refine pl_held (B := v0.heap.size) (v := v0) (HX1.out) (fun hHeld => ?_)
  refine pp_ ?_ ?_ ?_ (y := by have d0 := (blk_cell (blk_below HP0.out hHeld) 0).trans rfl; have d1 := (blk_cell (blk_below HP0.out hHeld) 1).trans rfl; have d2 := (blk_cell (blk_below HP0.out hHeld) 2).trans rfl; go_simp; rfl)
  refine pp_ ?_ ?_ ?_
  refine goesCL_ (N := (some 20)) Try.func26 (by kernel_rfl) rfl (by rfl) rfl rfl (term_v g A1 A2 A3 c1 c2 c3 x _ HT.out) (by simp [Act.eval]) ?_
  rintro e x4_2 ⟨rfl, hb4_2⟩
  refine ⟨_, rfl, ?_⟩
  simp only [Act.put, List.setIfInBounds_toArray, List.set_cons_zero, List.set_cons_succ]
  refine pl_held (B := v0.heap.size) (v := v0) (below_then hHeld hHeld.size hb4_2) (fun hHeld => ?_)
  refine pp_ ?_ ?_ ?_
  refine pl_nil ?_
  cases b
  · go_wp2
    go_ret
    exact ⟨ret_str (symS_n HN.out HT.out).symm, below_then HB0.out HB0.out.size hHeld⟩
  · go_upto_region 5 with (fail)
    have hq1 : (⟨#[39]⟩ ++ nm : ByteArray).size ≤ 17 := by rw [size_app]; have : (⟨#[39]⟩ : ByteArray).size = 1 := rfl; omega
    refine pl_start ?_
    refine pp_ ?_ ?_ ?_
    refine pp_ ?_ ?_ ?_ (y := by go_simp; refine if_neg ?_; omega)
    refine pp_ ?_ ?_ ?_ (y := by go_simp; refine if_neg ?_; omega)
    refine pp_ ?_ ?_ ?_
    refine pl_nil ?_
    go_wp2
    go_ret
    exact ⟨ret_str (symS_t HN.out HT.out).symm, below_then HB0.out HB0.out.size hHeld⟩

def formP : List PanicEntry := [{ v := .iface 29 (.int .i64 16), recovered := false }]
set_option maxRecDepth 100000 in
set_option maxHeartbeats 4000000 in
theorem line_no (g : Gram) (A1 A2 A3 : Option Addr) (c1 c2 c3 : Nat) (i : Int) (w : World) (hg : RepG w g A1 A2 A3 c1 c2 c3) (hno : goodF g = false ∨ i < 0 ∨ (g.rules.length : Int) ≤ i) :
    Calls Try.prog 50 #[.agg #[.slice A1 g.terms.length c1, .slice A2 g.names.length c2, .slice A3 g.rules.length c3], .int .i64 i] w fun e w' => e = .panicked formP ∧ Below w.heap.size w w' := by
  obtain ⟨v0, hv0⟩ : ∃ v0 : World, v0 = w.alloc (.cells #[.slice A1 g.terms.length c1, .slice A2 g.names.length c2, .slice A3 g.rules.length c3] 25 (0, 0)) := ⟨_, rfl⟩
  have HB0 : Aside0 (Below w.heap.size w v0) := ⟨by rw [hv0]; exact below_alloc (Below.refl _ _) _⟩
  have HP0 : Aside0 (v0.heap[w.heap.size]? = some (.cells #[.slice A1 g.terms.length c1, .slice A2 g.names.length c2, .slice A3 g.rules.length c3] 25 (0, 0))) := ⟨by rw [hv0]; exact blk_new w _⟩
  have HG0 := Aside0.mk (hg.below_ HB0.out)
  clear hg
  go_enter Try.func50, Try.ntmps50
  go_upto_region 1 with (fail)
  simp only [← hv0]
  clear hv0
  obtain ⟨b, hb⟩ : ∃ b, goodF g = b := ⟨_, rfl⟩
  cases b
  · refine pl_start ?_
    refine pl_held (B := v0.heap.size) (v := v0) (Below.refl _ _) (fun hHeld => ?_)
    refine pp_ ?_ ?_ ?_ (y := by have d0 := (blk_cell (blk_below HP0.out hHeld) 0).trans rfl; have d1 := (blk_cell (blk_below HP0.out hHeld) 1).trans rfl; have d2 := (blk_cell (blk_below HP0.out hHeld) 2).trans rfl; go_simp; rfl)
    refine goesCL_ (N := (some 10)) Try.func48 (by kernel_rfl) rfl (by rfl) rfl rfl (good_v g A1 A2 A3 c1 c2 c3 _ (HG0.out.below_ hHeld) hb) (by simp [Act.eval]) ?_
    rintro e x1_1 ⟨rfl, hb1_1⟩
    refine ⟨_, rfl, ?_⟩
    simp only [Act.put, List.setIfInBounds_toArray, List.set_cons_zero, List.set_cons_succ]
    refine pl_held (B := v0.heap.size) (v := v0) (below_then hHeld hHeld.size hb1_1) (fun hHeld => ?_)
    refine pp_ ?_ ?_ ?_
    refine pp_ ?_ ?_ ?_
    refine pf_ ?_ ?_
    refine pf_ ?_ ?_
    refine pp_ ?_ ?_ ?_
    refine pp_ ?_ ?_ ?_
    refine pf_ ?_ ?_
    refine pf_ ?_ ?_
    refine pf_ ?_ ?_
    refine pf_ ?_ ?_
    refine pf_ ?_ ?_
    refine pp_ ?_ ?_ ?_
    refine pl_nil ?_
    go_wp2
    exact ⟨rfl, rfl, below_then HB0.out HB0.out.size hHeld⟩
  · by_cases h0 : i < 0
    · have d0 : decide (i < 0) = true := decide_eq_true h0
      refine pl_start ?_
      refine pl_held (B := v0.heap.size) (v := v0) (Below.refl _ _) (fun hHeld => ?_)
      refine pp_ ?_ ?_ ?_ (y := by have d0 := (blk_cell (blk_below HP0.out hHeld) 0).trans rfl; have d1 := (blk_cell (blk_below HP0.out hHeld) 1).trans rfl; have d2 := (blk_cell (blk_below HP0.out hHeld) 2).trans rfl; go_simp; rfl)
      refine goesCL_ (N := (some 10)) Try.func48 (by kernel_rfl) rfl (by rfl) rfl rfl (good_v g A1 A2 A3 c1 c2 c3 _ (HG0.out.below_ hHeld) hb) (by simp [Act.eval]) ?_
      rintro e x1_1 ⟨rfl, hb1_1⟩
      refine ⟨_, rfl, ?_⟩
      simp only [Act.put, List.setIfInBounds_toArray, List.set_cons_zero, List.set_cons_succ]
      refine pl_held (B := v0.heap.size) (v := v0) (below_then hHeld hHeld.size hb1_1) (fun hHeld => ?_)
      refine pp_ ?_ ?_ ?_
      refine pp_ ?_ ?_ ?_
      refine pp_ ?_ ?_ ?_
      refine pp_ ?_ ?_ ?_
      refine pp_ ?_ ?_ ?_
      refine pp_ ?_ ?_ ?_
      refine pf_ ?_ ?_
      refine pf_ ?_ ?_
      refine pf_ ?_ ?_
      refine pf_ ?_ ?_
      refine pf_ ?_ ?_
      refine pp_ ?_ ?_ ?_
      refine pl_nil ?_
      go_wp2
      exact ⟨rfl, rfl, below_then HB0.out HB0.out.size hHeld⟩
    · have h1 : (g.rules.length : Int) ≤ i := by rcases hno with h | h | h; (rw [hb] at h; cases h); omega; exact h
      have d0 : decide (i < 0) = false := decide_eq_false h0
      have d1 : decide ((g.rules.length : Int) ≤ i) = true := decide_eq_true h1
      refine pl_start ?_
      refine pl_held (B := v0.heap.size) (v := v0) (Below.refl _ _) (fun hHeld => ?_)
      refine pp_ ?_ ?_ ?_ (y := by have d0 := (blk_cell (blk_below HP0.out hHeld) 0).trans rfl; have d1 := (blk_cell (blk_below HP0.out hHeld) 1).trans rfl; have d2 := (blk_cell (blk_below HP0.out hHeld) 2).trans rfl; go_simp; rfl)
      refine goesCL_ (N := (some 10)) Try.func48 (by kernel_rfl) rfl (by rfl) rfl rfl (good_v g A1 A2 A3 c1 c2 c3 _ (HG0.out.below_ hHeld) hb) (by simp [Act.eval]) ?_
      rintro e x1_1 ⟨rfl, hb1_1⟩
      refine ⟨_, rfl, ?_⟩
      simp only [Act.put, List.setIfInBounds_toArray, List.set_cons_zero, List.set_cons_succ]
      refine pl_held (B := v0.heap.size) (v := v0) (below_then hHeld hHeld.size hb1_1) (fun hHeld => ?_)
      refine pp_ ?_ ?_ ?_
      refine pp_ ?_ ?_ ?_
      refine pp_ ?_ ?_ ?_
      refine pp_ ?_ ?_ ?_
      refine pp_ ?_ ?_ ?_
      refine pp_ ?_ ?_ ?_
      refine pp_ ?_ ?_ ?_
      refine pp_ ?_ ?_ ?_
      refine pp_ ?_ ?_ ?_ (y := by have d0 := (blk_cell (blk_below HP0.out hHeld) 0).trans rfl; have d1 := (blk_cell (blk_below HP0.out hHeld) 1).trans rfl; have d2 := (blk_cell (blk_below HP0.out hHeld) 2).trans rfl; go_simp; rfl)
      refine pp_ ?_ ?_ ?_
      refine pp_ ?_ ?_ ?_
      refine pp_ ?_ ?_ ?_
      refine pl_nil ?_
      go_wp2
      exact ⟨rfl, rfl, below_then HB0.out HB0.out.size hHeld⟩

set_option maxRecDepth 100000 in
set_option maxHeartbeats 4000000 in
theorem line_yes (g : Gram) (A1 A2 A3 : Option Addr) (c1 c2 c3 : Nat) (i : Nat) (w : World) (hg : RepG w g A1 A2 A3 c1 c2 c3) (hgd : goodF g = true) (hi : i < g.rules.length) {s : ByteArray} (hs : lineF g (g.rules[i]'hi) = s) :
    Calls Try.prog 50 #[.agg #[.slice A1 g.terms.length c1, .slice A2 g.names.length c2, .slice A3 g.rules.length c3], .int .i64 i] w fun e w' => e = .returned (.string s) ∧ Below w.heap.size w w' := by
  obtain ⟨q1, q2, q3, q4⟩ := goodF_small hgd
  obtain ⟨v0, hv0⟩ : ∃ v0 : World, v0 = w.alloc (.cells #[.slice A1 g.terms.length c1, .slice A2 g.names.length c2, .slice A3 g.rules.length c3] 25 (0, 0)) := ⟨_, rfl⟩
  have HB0 : Aside0 (Below w.heap.size w v0) := ⟨by rw [hv0]; exact below_alloc (Below.refl _ _) _⟩
  have HP0 : Aside0 (v0.heap[w.heap.size]? = some (.cells #[.slice A1 g.terms.length c1, .slice A2 g.names.length c2, .slice A3 g.rules.length c3] 25 (0, 0))) := ⟨by rw [hv0]; exact blk_new w _⟩
  have HG0 := Aside0.mk (hg.below_ HB0.out)
  obtain ⟨hl, h8, hx⟩ := good_left hgd (List.getElem_mem hi)
  obtain ⟨ad, Ar, cr, eA, p0, p1, hrc, hri⟩ := at_rule HG0.out.rules i hi
  obtain ⟨r, hr⟩ : ∃ r, r = g.rules[i]'hi := ⟨_, rfl⟩
  rw [← hr] at hl h8 hx p0 p1 hrc hri hs
  subst hs
  have HA := Aside0.mk eA
  clear eA
  obtain ⟨rl, rr⟩ := r
  dsimp only at hl h8 hx p0 p1 hrc hri
  have P0 := Aside0.mk p0
  have P1 := Aside0.mk p1
  have HRI := Aside0.mk hri
  have HX := Aside0.mk hx
  have HGD := Aside0.mk hgd
  obtain ⟨nl, hnl⟩ := name_in (show 0 ≤ rl by omega) hl.2
  have hsl : symS g rl = nl := symS_n hnl (by unfold termF; exact decide_eq_false (by omega))
  have HSL := Aside0.mk hsl
  have hns := good_size hgd hnl
  have HH8 := Aside0.mk h8
  have hln : lineF g ⟨rl, rr⟩ = rowS g (nl ++ ⟨#[32, 61]⟩) rr := by unfold lineF nameD; rw [hnl]; rfl
  rw [hln]
  clear hg p0 p1 hri hx hr hnl hsl hln hgd
  go_enter Try.func50, Try.ntmps50
  go_upto_region 1 with (fail)
  simp only [← hv0]
  clear hv0
  have d0 : decide ((i : Int) < 0) = false := decide_eq_false (by omega)
  have d1 : decide ((g.rules.length : Int) ≤ (i : Int)) = false := decide_eq_false (by omega)
  refine pl_start ?_
  refine pl_held (B := v0.heap.size) (v := v0) (Below.refl _ _) (fun hHeld => ?_)
  refine pp_ ?_ ?_ ?_ (y := by have d0 := (blk_cell (blk_below HP0.out hHeld) 0).trans rfl; have d1 := (blk_cell (blk_below HP0.out hHeld) 1).trans rfl; have d2 := (blk_cell (blk_below HP0.out hHeld) 2).trans rfl; go_simp; rfl)
  refine goesCL_ (N := (some 10)) Try.func48 (by kernel_rfl) rfl (by rfl) rfl rfl (good_v g A1 A2 A3 c1 c2 c3 _ (HG0.out.below_ hHeld) HGD.out) (by simp [Act.eval]) ?_
  rintro e x1_1 ⟨rfl, hb1_1⟩
  refine ⟨_, rfl, ?_⟩
  simp only [Act.put, List.setIfInBounds_toArray, List.set_cons_zero, List.set_cons_succ]
  refine pl_held (B := v0.heap.size) (v := v0) (below_then hHeld hHeld.size hb1_1) (fun hHeld => ?_)
  refine pp_ ?_ ?_ ?_
  refine pp_ ?_ ?_ ?_
  refine pp_ ?_ ?_ ?_
  refine pp_ ?_ ?_ ?_
  refine pp_ ?_ ?_ ?_
  refine pp_ ?_ ?_ ?_
  refine pp_ ?_ ?_ ?_
  refine pp_ ?_ ?_ ?_
  refine pp_ ?_ ?_ ?_ (y := by have d0 := (blk_cell (blk_below HP0.out hHeld) 0).trans rfl; have d1 := (blk_cell (blk_below HP0.out hHeld) 1).trans rfl; have d2 := (blk_cell (blk_below HP0.out hHeld) 2).trans rfl; go_simp; rfl)
  refine pp_ ?_ ?_ ?_
  refine pp_ ?_ ?_ ?_
  refine pp_ ?_ ?_ ?_
  refine pl_nil ?_
  have HX1 := Aside0.mk hHeld
  go_upto_region 3 with (fail)
  have eA := HA.out
  subst eA
  have j1 : (0 : Int) ≤ (i : Int) := by omega
  have j2 : (i : Int) < (g.rules.length : Int) := by omega
  refine pl_start ?_
  refine pl_held (B := v0.heap.size) (v := v0) (HX1.out) (fun hHeld => ?_)
  refine pp_ ?_ ?_ ?_
  refine pp_ ?_ ?_ ?_ (y := by have d0 := (blk_cell (blk_below HP0.out hHeld) 0).trans rfl; have d1 := (blk_cell (blk_below HP0.out hHeld) 1).trans rfl; have d2 := (blk_cell (blk_below HP0.out hHeld) 2).trans rfl; have d3 := cell_at hHeld P0.out; have d4 := cell_at hHeld P1.out; go_simp; rfl)
  refine pp_ ?_ ?_ ?_
  refine pp_ ?_ ?_ ?_
  refine pp_ ?_ ?_ ?_ (y := by have d0 := (blk_cell (blk_below HP0.out hHeld) 0).trans rfl; have d1 := (blk_cell (blk_below HP0.out hHeld) 1).trans rfl; have d2 := (blk_cell (blk_below HP0.out hHeld) 2).trans rfl; have d3 := cell_at hHeld P0.out; have d4 := cell_at hHeld P1.out; go_simp; rfl)
  refine pl_value (N := (some 5)) (v := ?v10) (w1 := ?w10) (by rfl) rfl ?h10 ?_
  case h10 => (go_simp; first | rfl | (constructor; rfl; rfl))
  simp only [Act.put, List.setIfInBounds_toArray, List.set_cons_zero, List.set_cons_succ]
  refine pl_skip (w1 := ?w11) (by rfl) rfl ?h11 ?_
  case h11 => (go_simp; rfl)
  refine pl_world ?_
  intro x3_6 hb3_6 hx3_6 hs3_6 hq3_6
  refine pl_held (B := v0.heap.size) (v := v0) (below_then hHeld hHeld.size hb3_6) (fun hHeld => ?_)
  refine pl_nil ?_
  have HX3 := Aside0.mk hHeld
  have J5 := Aside0.mk hx3_6
  have HRI3 := Aside0.mk (Kd.C_below HRI.out hHeld)
  clear hx3_6 hs3_6 hq3_6 hb3_6
  go_upto_region 4 with (fail)
  refine pl_start ?_
  refine pl_held (B := x3_6.heap.size) (v := x3_6) (Below.refl _ _) (fun hHeld => ?_)
  refine pp_ ?_ ?_ ?_ (y := by have d0 := (blk_cell (blk_below HP0.out (below_then HX3.out HX3.out.size hHeld)) 0).trans rfl; have d1 := (blk_cell (blk_below HP0.out (below_then HX3.out HX3.out.size hHeld)) 1).trans rfl; have d2 := (blk_cell (blk_below HP0.out (below_then HX3.out HX3.out.size hHeld)) 2).trans rfl; have d0 := (blk_cell (blk_below J5.out hHeld) 0).trans rfl; have d1 := (blk_cell (blk_below J5.out hHeld) 1).trans rfl; go_simp; rfl)
  refine pp_ ?_ ?_ ?_
  refine pp_ ?_ ?_ ?_ (y := by have d0 := (blk_cell (blk_below HP0.out (below_then HX3.out HX3.out.size hHeld)) 0).trans rfl; have d1 := (blk_cell (blk_below HP0.out (below_then HX3.out HX3.out.size hHeld)) 1).trans rfl; have d2 := (blk_cell (blk_below HP0.out (below_then HX3.out HX3.out.size hHeld)) 2).trans rfl; have d0 := (blk_cell (blk_below J5.out hHeld) 0).trans rfl; have d1 := (blk_cell (blk_below J5.out hHeld) 1).trans rfl; go_simp; rfl)
  refine goesCL_ (N := (some 32)) Try.func87 (by kernel_rfl) rfl (by rfl) rfl rfl (shown_c g A1 A2 (some ad) c1 c2 c3 rl _ (HG0.out.below_ (below_then HX3.out HX3.out.size hHeld)) (by omega) HGD.out (by omega) hl.2 HSL.out) (by simp [Act.eval]) ?_
  rintro e x4_3 ⟨rfl, hb4_3⟩
  refine ⟨_, rfl, ?_⟩
  simp only [Act.put, List.setIfInBounds_toArray, List.set_cons_zero, List.set_cons_succ]
  refine pl_held (B := x3_6.heap.size) (v := x3_6) (below_then hHeld hHeld.size hb4_3) (fun hHeld => ?_)
  refine pp_ ?_ ?_ ?_ (y := by go_simp; refine if_neg ?_; omega)
  refine pp_ ?_ ?_ ?_
  refine pl_nil ?_
  have HX4 := Aside0.mk hHeld
  go_upto_region 5 with (fail)
  refine pl_start ?_
  refine pl_held (B := x3_6.heap.size) (v := x3_6) (HX4.out) (fun hHeld => ?_)
  refine pp_ ?_ ?_ ?_
  refine pp_ ?_ ?_ ?_ (y := by have d0 := (blk_cell (blk_below J5.out hHeld) 0).trans rfl; have d1 := (blk_cell (blk_below J5.out hHeld) 1).trans rfl; go_simp; rfl)
  refine pp_ ?_ ?_ ?_
  refine pp_ ?_ ?_ ?_
  refine pl_nil ?_
  go_wp2
  go_loopw [37, 6, 8] (fun a t y wr => ∃ k : Nat, k ≤ rr.length ∧ a = .int .i64 k ∧ t = .string (rowS g (nl ++ ⟨#[32, 61]⟩) (rr.take k)) ∧ Aside0 (Below x3_6.heap.size x3_6 wr)) (fun a _ _ _ => rr.length - (intOf a).toNat)
  case atStart => exact ⟨0, Nat.zero_le _, rfl, rfl, HX4⟩
  case round =>
    obtain ⟨k, hk, rfl, rfl, HB⟩ := hrel
    rename World => wi
    by_cases hlt : k < rr.length
    · have hsc := rowS_succ (g := g) (acc := nl ++ ⟨#[32, 61]⟩) hlt
      have hxk := HX.out _ (List.getElem_mem hlt)
      obtain ⟨ax, eAx, hc⟩ := at_int (Kd.C_below HRI3.out HB.out) k hlt
      subst eAx
      obtain ⟨S, hS⟩ : ∃ S, rowS g (nl ++ ⟨#[32, 61]⟩) (rr.take k) = S := ⟨_, rfl⟩
      obtain ⟨x, hx⟩ : ∃ x, x = rr[k]'hlt := ⟨_, rfl⟩
      rw [← hx] at hsc hxk hc
      rw [hS] at hsc ⊢
      obtain ⟨sx, hsx⟩ : ∃ sx, symS g x = sx := ⟨_, rfl⟩
      rw [hsx] at hsc
      have HSC := Lib.hid hsc
      have HSX := Aside0.mk hsx
      have hxr : -9223372036854775808 ≤ x ∧ x ≤ 9223372036854775807 := by omega
      have hs1 := rowS_size HGD.out (rr.take k) (nl ++ ⟨#[32, 61]⟩)
      have hs2 := symS_size HGD.out x
      rw [hsx] at hs2
      rw [hS, size_app, List.length_take, show (⟨#[32, 61]⟩ : ByteArray).size = 2 from rfl] at hs1
      have hs3 : (⟨#[32]⟩ ++ sx : ByteArray).size ≤ 19 := by rw [size_app, show (⟨#[32]⟩ : ByteArray).size = 1 from rfl]; omega
      have hs4 : S.size ≤ 200 := by omega
      clear hsx hx hS hs1
      have i1 : (k : Int) < (rr.length : Int) := by omega
      go_upto_region 8 with (fail)
      refine pl_start ?_
      refine pl_held (B := x3_6.heap.size) (v := x3_6) (HB.out) (fun hHeld => ?_)
      refine pp_ ?_ ?_ ?_
      refine pp_ ?_ ?_ ?_ (y := by have d0 := (blk_cell (blk_below HP0.out (below_then HX3.out HX3.out.size hHeld)) 0).trans rfl; have d1 := (blk_cell (blk_below HP0.out (below_then HX3.out HX3.out.size hHeld)) 1).trans rfl; have d2 := (blk_cell (blk_below HP0.out (below_then HX3.out HX3.out.size hHeld)) 2).trans rfl; go_simp; rfl)
      refine pp_ ?_ ?_ ?_
      refine goesCL_ (N := (some 44)) Try.func87 (by kernel_rfl) rfl (by rfl) rfl rfl (shown_c g A1 A2 (some ad) c1 c2 c3 x _ (HG0.out.below_ (below_then HX3.out HX3.out.size hHeld)) (by omega) HGD.out hxk.1 hxk.2 HSX.out) (by simp [Act.eval]) ?_
      rintro e x8_3 ⟨rfl, hb8_3⟩
      refine ⟨_, rfl, ?_⟩
      simp only [Act.put, List.setIfInBounds_toArray, List.set_cons_zero, List.set_cons_succ]
      refine pl_held (B := x3_6.heap.size) (v := x3_6) (below_then hHeld hHeld.size hb8_3) (fun hHeld => ?_)
      refine pp_ ?_ ?_ ?_ (y := by go_simp; refine if_neg ?_; omega)
      refine pp_ ?_ ?_ ?_ (y := by go_simp; refine if_neg ?_; omega)
      refine pp_ ?_ ?_ ?_
      refine pl_nil ?_
      have HX8 := Aside0.mk hHeld
      go_wp2
      go_roundw
      case rel => exact ⟨k + 1, by omega, by go_num, by rw [HSC.out], HX8⟩
      case measure => simp [intOf]; omega
    · have HE : Aside0 (rr.take k = rr) := ⟨List.take_of_length_le (by omega)⟩
      go_wp2
      go_ret
      exact ⟨ret_str (by rw [HE.out]), below_then HB0.out HB0.out.size (below_then HX3.out HX3.out.size HB.out)⟩
end Go.Proofs.Ytdpdbgaoaibafaa

/- show: what is thrown is caught; a rule's text, and a grammar's. -/
set_option linter.unusedVariables false
set_option linter.unusedSimpArgs false
namespace Go.Proofs.Ytdpdbgaoaibafaa
open Go.RowKit Go.Proofs.YtdpdbgaoaibafaaW.PrintWords Go.Proofs.YtdpdbgaoaibafaaW.PrintLast

theorem caught_nil (w : World) : Calls Try.prog 47 #[.nilIface] w fun e w' => e = .returned (.int .i64 0) ∧ w = w' := by
  go_enter Try.func47, Try.ntmps47
  go_wp2
  go_ret
  exact ⟨rfl, rfl⟩
theorem caught_e (x : Int) (w : World) : Calls Try.prog 47 #[.iface 29 (.int .i64 x)] w fun e w' => e = .returned (.int .i64 x) ∧ w = w' := by
  have hta : ∀ w, (Instr.typeAssert (.iface 29 (.int .i64 x)) 20 29 true).run Try.prog w = .ok (.tuple #[.int .i64 x, .bool true]) w := fun w => by kernel_rfl
  go_enter Try.func47, Try.ntmps47
  go_wp2
  go_ret
  exact ⟨rfl, rfl⟩

set_option maxRecDepth 100000 in
set_option maxHeartbeats 1000000 in
theorem ruleRec_idle (p q : Option Addr) (w : World) :
    CallsD Try.prog 53 #[.pointer p, .pointer q] .returning w fun e u' w' => e = .returned (.tuple #[]) ∧ u' = .returning ∧ w = w' := by
  refine callsD_of_wpS Try.func53 rfl fun c₀ cs hu => ?_
  apply wpS_seq
  apply wpS_region
  simp [wpOpsS, go_sem, recoverD, hu, Try.ntmps53, Exit.thenS]
  refine (caught_nil w).mono ?_
  rintro e w' ⟨rfl, rfl⟩
  simp [go_sem]
  refine wpS_of_wp ?_
  simp only [Array.replicate_succ, Array.replicate_zero, List.push_toArray, List.append_toArray, List.nil_append, List.cons_append, List.setIfInBounds_toArray, List.set_cons_zero, List.set_cons_succ]
  go_wp2
  exact ⟨rfl, _, by cases c₀; simp_all, .tuple #[], results_none rfl _ _ _, rfl, rfl, rfl⟩
set_option maxRecDepth 100000 in
set_option maxHeartbeats 1000000 in
theorem ruleRec_panicking (bp bq : Nat) (x : Int) (hx : x ≠ 0) (v1 v2 : Value) (older : List PanicEntry) (w : World) (hp : w.heap[bp]? = some (.cells #[v1] 9 (0, 0))) (hq : w.heap[bq]? = some (.cells #[v2] 4 (0, 0))) (hpq : bp ≠ bq) :
    CallsD Try.prog 53 #[.pointer (some ⟨bp, 0, none⟩), .pointer (some ⟨bq, 0, none⟩)] (.panicking ({ v := .iface 29 (.int .i64 x), recovered := false } :: older)) w fun e u' w' =>
      e = .returned (.tuple #[]) ∧ u' = .panicking ({ v := .iface 29 (.int .i64 x), recovered := true } :: older) ∧ w' = (w.setCell ⟨bp, 0, none⟩ (.string ⟨#[]⟩)).setCell ⟨bq, 0, none⟩ (.bool false) := by
  have c1 := blk_cell hp 0
  have c2 := blk_cell hq 0
  have f1 := blk_frozen hp 0
  have f2 := blk_frozen hq 0
  simp only [List.getElem?_toArray, List.getElem?_cons_zero, List.getElem?_cons_succ] at c1 c2
  have hpq2 : ¬ bq = bp := fun h => hpq h.symm
  clear hp hq
  refine callsD_of_wpS Try.func53 rfl fun c₀ cs hu => ?_
  apply wpS_seq
  apply wpS_region
  simp [wpOpsS, go_sem, recoverD, hu, Try.ntmps53, Exit.thenS]
  refine (caught_e x w).mono ?_
  rintro e w' ⟨rfl, rfl⟩
  simp [go_sem]
  refine wpS_of_wp ?_
  simp only [Array.replicate_succ, Array.replicate_zero, List.push_toArray, List.append_toArray, List.nil_append, List.cons_append, List.setIfInBounds_toArray, List.set_cons_zero, List.set_cons_succ]
  go_wp2
  exact ⟨rfl, _, rfl, .tuple #[], results_none rfl _ _ _, rfl, rfl, rfl⟩
set_option maxRecDepth 100000 in
set_option maxHeartbeats 1000000 in
theorem textRec_idle (p q : Option Addr) (w : World) :
    CallsD Try.prog 46 #[.pointer p, .pointer q] .returning w fun e u' w' => e = .returned (.tuple #[]) ∧ u' = .returning ∧ w = w' := by
  refine callsD_of_wpS Try.func46 rfl fun c₀ cs hu => ?_
  apply wpS_seq
  apply wpS_region
  simp [wpOpsS, go_sem, recoverD, hu, Try.ntmps46, Exit.thenS]
  refine (caught_nil w).mono ?_
  rintro e w' ⟨rfl, rfl⟩
  simp [go_sem]
  refine wpS_of_wp ?_
  simp only [Array.replicate_succ, Array.replicate_zero, List.push_toArray, List.append_toArray, List.nil_append, List.cons_append, List.setIfInBounds_toArray, List.set_cons_zero, List.set_cons_succ]
  go_wp2
  exact ⟨rfl, _, by cases c₀; simp_all, .tuple #[], results_none rfl _ _ _, rfl, rfl, rfl⟩
set_option maxRecDepth 100000 in
set_option maxHeartbeats 1000000 in
theorem textRec_panicking (bp bq : Nat) (x : Int) (hx : x ≠ 0) (v1 v2 : Value) (older : List PanicEntry) (w : World) (hp : w.heap[bp]? = some (.cells #[v1] 9 (0, 0))) (hq : w.heap[bq]? = some (.cells #[v2] 29 (0, 0))) (hpq : bp ≠ bq) :
    CallsD Try.prog 46 #[.pointer (some ⟨bp, 0, none⟩), .pointer (some ⟨bq, 0, none⟩)] (.panicking ({ v := .iface 29 (.int .i64 x), recovered := false } :: older)) w fun e u' w' =>
      e = .returned (.tuple #[]) ∧ u' = .panicking ({ v := .iface 29 (.int .i64 x), recovered := true } :: older) ∧ w' = (w.setCell ⟨bp, 0, none⟩ (.string ⟨#[]⟩)).setCell ⟨bq, 0, none⟩ (.int .i64 x) := by
  have c1 := blk_cell hp 0
  have c2 := blk_cell hq 0
  have f1 := blk_frozen hp 0
  have f2 := blk_frozen hq 0
  simp only [List.getElem?_toArray, List.getElem?_cons_zero, List.getElem?_cons_succ] at c1 c2
  have hpq2 : ¬ bq = bp := fun h => hpq h.symm
  clear hp hq
  refine callsD_of_wpS Try.func46 rfl fun c₀ cs hu => ?_
  apply wpS_seq
  apply wpS_region
  simp [wpOpsS, go_sem, recoverD, hu, Try.ntmps46, Exit.thenS]
  refine (caught_e x w).mono ?_
  rintro e w' ⟨rfl, rfl⟩
  simp [go_sem]
  refine wpS_of_wp ?_
  simp only [Array.replicate_succ, Array.replicate_zero, List.push_toArray, List.append_toArray, List.nil_append, List.cons_append, List.setIfInBounds_toArray, List.set_cons_zero, List.set_cons_succ]
  go_wp2
  exact ⟨rfl, _, rfl, .tuple #[], results_none rfl _ _ _, rfl, rfl, rfl⟩
theorem results_rule {tmps : Array Value} {W : World} {g g' : Nat} {s : ByteArray} {b : Bool} (t2 : tmps.getD 4 undef = .pointer (some ⟨g, 0, none⟩)) (t3 : tmps.getD 5 undef = .pointer (some ⟨g', 0, none⟩))
    (h : W.heap[g]? = some (.cells #[.string s] 9 (0, 0))) (h' : W.heap[g']? = some (.cells #[.bool b] 4 (0, 0))) :
    (results Try.f20 tmps).run Try.prog W = .ok (.tuple #[.string s, .bool b]) W := by
  have d1 := blk_cell h 0
  have d2 := blk_cell h' 0
  simp only [List.getElem?_toArray, List.getElem?_cons_zero, List.getElem?_cons_succ] at d1 d2
  simp only [Array.getD_eq_getD_getElem?] at t2 t3
  simp [results, Try.results20, go_sem, d1, d2, t2, t3]
theorem results_text {tmps : Array Value} {W : World} {g g' : Nat} {s : ByteArray} {x : Int} (t2 : tmps.getD 2 undef = .pointer (some ⟨g, 0, none⟩)) (t3 : tmps.getD 3 undef = .pointer (some ⟨g', 0, none⟩))
    (h : W.heap[g]? = some (.cells #[.string s] 9 (0, 0))) (h' : W.heap[g']? = some (.cells #[.int .i64 x] 29 (0, 0))) :
    (results Try.f18 tmps).run Try.prog W = .ok (.tuple #[.string s, .int .i64 x]) W := by
  have d1 := blk_cell h 0
  have d2 := blk_cell h' 0
  simp only [List.getElem?_toArray, List.getElem?_cons_zero, List.getElem?_cons_succ] at d1 d2
  simp only [Array.getD_eq_getD_getElem?] at t2 t3
  simp [results, Try.results18, go_sem, d1, d2, t2, t3]

def ruleO (g : Gram) (i : Int) : Option ByteArray := if goodF g = true ∧ 0 ≤ i then (g.rules[i.toNat]?).map (lineF g) else none
theorem ruleO_none {g : Gram} {i : Int} (h : goodF g = false ∨ i < 0 ∨ (g.rules.length : Int) ≤ i) : ruleO g i = none := by
  unfold ruleO
  split
  · rename_i hh
    rcases h with h | h | h
    · rw [h] at hh; cases hh.1
    · omega
    · rw [List.getElem?_eq_none (by omega)]; rfl
  · rfl
theorem ruleO_some {g : Gram} {i : Nat} (h : goodF g = true) (hi : i < g.rules.length) : ruleO g i = some (lineF g (g.rules[i]'hi)) := by
  unfold ruleO
  rw [if_pos ⟨h, by omega⟩, Int.toNat_natCast, List.getElem?_eq_getElem hi]
  rfl
theorem ruleO_cases (g : Gram) (i : Int) : (goodF g = false ∨ i < 0 ∨ (g.rules.length : Int) ≤ i) ∨ (goodF g = true ∧ ∃ k : Nat, i = k ∧ k < g.rules.length) := by
  cases h : goodF g
  · exact .inl (.inl rfl)
  · by_cases h0 : i < 0
    · exact .inl (.inr (.inl h0))
    · by_cases h1 : (g.rules.length : Int) ≤ i
      · exact .inl (.inr (.inr h1))
      · exact .inr ⟨rfl, i.toNat, by omega, by omega⟩
set_option maxRecDepth 100000 in
set_option maxHeartbeats 4000000 in
theorem rule_c (g : Gram) (A1 A2 A3 : Option Addr) (c1 c2 c3 : Nat) (i : Int) (w : World) (hg : RepG w g A1 A2 A3 c1 c2 c3) {o : Option ByteArray} (ho : ruleO g i = o) :
    Calls Try.prog 20 #[.agg #[.slice A1 g.terms.length c1, .slice A2 g.names.length c2, .slice A3 g.rules.length c3], .int .i64 i] w fun e w' => e = .returned (.tuple #[.string (o.getD ⟨#[]⟩), .bool o.isSome]) ∧ Below w.heap.size w w' := by
  have hmf : ∀ (fn : Fn) (first cap : Array Value) (w : World), (Instr.makeFunc fn first cap).run Try.prog w = .ok (.func fn first cap) w := fun _ _ _ _ => rfl
  obtain ⟨wa, hwa⟩ : ∃ wa : World, wa = w.alloc (.cells #[.slice A1 g.terms.length c1, .slice A2 g.names.length c2, .slice A3 g.rules.length c3] 25 (0, 0)) := ⟨_, rfl⟩
  obtain ⟨wb, hwb⟩ : ∃ wb : World, wb = wa.alloc (.cells #[.string ⟨#[]⟩] 9 (0, 0)) := ⟨_, rfl⟩
  obtain ⟨v0, hv0⟩ : ∃ v0 : World, v0 = wb.alloc (.cells #[.bool false] 4 (0, 0)) := ⟨_, rfl⟩
  have za : wa.heap.size = w.heap.size + 1 := by rw [hwa]; simp
  have zb : wb.heap.size = w.heap.size + 1 + 1 := by rw [hwb]; simp [za]
  have hb1 : Below w.heap.size w wa := by rw [hwa]; exact below_alloc (Below.refl _ _) _
  have hb2 : Below wa.heap.size wa wb := by rw [hwb]; exact below_alloc (Below.refl _ _) _
  have hb3 : Below wb.heap.size wb v0 := by rw [hv0]; exact below_alloc (Below.refl _ _) _
  have hab := below_then hb2 hb2.size hb3
  have HB0 : Aside0 (Below w.heap.size w v0) := ⟨below_then hb1 hb1.size hab⟩
  have HP0 : Aside0 (v0.heap[w.heap.size]? = some (.cells #[.slice A1 g.terms.length c1, .slice A2 g.names.length c2, .slice A3 g.rules.length c3] 25 (0, 0))) := ⟨blk_below (by rw [hwa]; exact blk_new w _) hab⟩
  have HS0 : Aside0 (v0.heap[w.heap.size + 1]? = some (.cells #[.string ⟨#[]⟩] 9 (0, 0))) := ⟨by rw [← za]; exact blk_below (by rw [hwb]; exact blk_new wa _) hb3⟩
  have HO0 : Aside0 (v0.heap[w.heap.size + 1 + 1]? = some (.cells #[.bool false] 4 (0, 0))) := ⟨by rw [← zb, hv0]; exact blk_new wb _⟩
  have HG0 := Aside0.mk (hg.below_ HB0.out)
  have n1 : w.heap.size + 1 ≠ w.heap.size + 1 + 1 := by omega
  have n2 : w.heap.size ≤ w.heap.size + 1 := by omega
  have n3 : w.heap.size ≤ w.heap.size + 1 + 1 := by omega
  have HW := Aside0.mk (show v0 = ((w.alloc (.cells #[.slice A1 g.terms.length c1, .slice A2 g.names.length c2, .slice A3 g.rules.length c3] 25 (0, 0))).alloc (.cells #[.string ⟨#[]⟩] 9 (0, 0))).alloc (.cells #[.bool false] 4 (0, 0)) by rw [hv0, hwb, hwa])
  subst ho
  clear hg hwa hwb hv0 za zb hb1 hb2 hb3 hab
  rcases ruleO_cases g i with h | ⟨hgd, k, rfl, hk⟩
  · rw [ruleO_none h]
    have HN := Aside0.mk h
    clear h
    go_enter_defers Try.func20, Try.ntmps20
    go_upto_region 2 with (fail)
    simp only [← HW.out]
    clear HW
    have d0 := (blk_cell HP0.out 0).trans rfl
    have d1 := (blk_cell HP0.out 1).trans rfl
    have d2 := (blk_cell HP0.out 2).trans rfl
    go_wp2_with (go_at_call 50; go_loud (refine (line_no g A1 A2 A3 c1 c2 c3 i _ HG0.out HN.out).mono ?_; rintro e w1 ⟨rfl, hb1⟩))
    have hS := blk_below HS0.out hb1
    have hO := blk_below HO0.out hb1
    have hB := below_then HB0.out HB0.out.size hb1
    refine leaves_cons (f := 53) (args := #[.pointer (some ⟨w.heap.size + 1, 0, none⟩), .pointer (some ⟨w.heap.size + 1 + 1, 0, none⟩)]) (by simp) (by simp [go_sem]) ?_
    refine (ruleRec_panicking _ _ 16 (by decide) _ _ _ _ hS hO n1).mono ?_
    rintro e u' w'' ⟨rfl, rfl, rfl⟩
    exact ⟨_, results_rule rfl rfl (blk_far (blk_set hS 0 _) n1 _) (blk_set (blk_far hO n1.symm _) 0 _), rfl, below_set (below_set hB n2 _ _) n3 _ _⟩
  · rw [ruleO_some hgd hk]
    obtain ⟨s, hs⟩ : ∃ s, lineF g (g.rules[k]'hk) = s := ⟨_, rfl⟩
    rw [hs]
    have HS := Aside0.mk hs
    have HGD := Aside0.mk hgd
    clear hs hgd
    go_enter_defers Try.func20, Try.ntmps20
    go_upto_region 2 with (fail)
    simp only [← HW.out]
    clear HW
    refine pl_start ?_
    refine pl_held (B := v0.heap.size) (v := v0) (Below.refl _ _) (fun hHeld => ?_)
    refine pp_ ?_ ?_ ?_ (y := by have d0 := (blk_cell (blk_below HP0.out hHeld) 0).trans rfl; have d1 := (blk_cell (blk_below HP0.out hHeld) 1).trans rfl; have d2 := (blk_cell (blk_below HP0.out hHeld) 2).trans rfl; go_simp; rfl)
    refine pp_ ?_ ?_ ?_
    refine goesCL_ (N := (some 9)) Try.func50 (by kernel_rfl) rfl (by rfl) rfl rfl (line_yes g A1 A2 A3 c1 c2 c3 k _ (HG0.out.below_ hHeld) HGD.out hk HS.out) (by simp [Act.eval]) ?_
    rintro e x2_2 ⟨rfl, hb2_2⟩
    refine ⟨_, rfl, ?_⟩
    simp only [Act.put, List.setIfInBounds_toArray, List.set_cons_zero, List.set_cons_succ]
    refine pl_held (B := v0.heap.size) (v := v0) (below_then hHeld hHeld.size hb2_2) (fun hHeld => ?_)
    have hS := blk_below HS0.out hHeld
    have hO := blk_below HO0.out hHeld
    have hB := below_then HB0.out HB0.out.size hHeld
    have hO1 := blk_far (p := ⟨w.heap.size + 1, 0, none⟩) hO n1.symm (.string s)
    have HSX := Aside0.mk hS
    have HOX := Aside0.mk hO
    have HBX := Aside0.mk hB
    have c1 := blk_cell hS 0
    have c2 := blk_cell hO1 0
    have f1 := blk_frozen hS 0
    have f2 := blk_frozen hO1 0
    simp only [List.getElem?_toArray, List.getElem?_cons_zero, List.getElem?_cons_succ] at c1 c2
    refine pl_skip (w1 := ?w97) (by rfl) rfl ?h97 ?_
    case h97 => (go_simp; rfl)
    refine pl_skip (w1 := ?w98) (by rfl) rfl ?h98 ?_
    case h98 => (go_simp; rfl)
    refine pl_nil ?_
    go_wp2
    refine leaves_cons (f := 53) (args := #[.pointer (some ⟨w.heap.size + 1, 0, none⟩), .pointer (some ⟨w.heap.size + 1 + 1, 0, none⟩)]) (by simp) (by simp [go_sem]) ?_
    refine (ruleRec_idle _ _ _).mono ?_
    rintro e u' w'' ⟨rfl, rfl, rfl⟩
    exact ⟨_, results_rule rfl rfl (blk_far (blk_set HSX.out 0 _) n1 _) (blk_set (blk_far HOX.out n1.symm _) 0 _), rfl, below_set (below_set HBX.out n2 _ _) n3 _ _⟩
end Go.Proofs.Ytdpdbgaoaibafaa

/- show: a grammar's text. -/
set_option linter.unusedVariables false
set_option linter.unusedSimpArgs false
namespace Go.Proofs.Ytdpdbgaoaibafaa
open Go.RowKit Go.Proofs.YtdpdbgaoaibafaaW.PrintWords Go.Proofs.YtdpdbgaoaibafaaW.PrintLast

def textO (g : Gram) : ByteArray × Int := if goodF g = true then (if 2000 < (textF g).size then (⟨#[]⟩, 14) else (textF g, 0)) else (⟨#[]⟩, 16)
theorem textS_tail {g : Gram} (S : ByteArray) (l : List Rule) : S.size ≤ (textS g S l).size := by
  induction l generalizing S with
  | nil => exact Nat.le_refl _
  | cons x l ih =>
    refine Nat.le_trans ?_ (ih (S ++ (lineF g x ++ ⟨#[32, 59, 10]⟩)))
    rw [size_app]; omega
set_option maxRecDepth 100000 in
set_option maxHeartbeats 8000000 in
theorem text_c (g : Gram) (A1 A2 A3 : Option Addr) (c1 c2 c3 : Nat) (w : World) (hg : RepG w g A1 A2 A3 c1 c2 c3) {s : ByteArray} {x : Int} (ho : textO g = (s, x)) :
    Calls Try.prog 18 #[.agg #[.slice A1 g.terms.length c1, .slice A2 g.names.length c2, .slice A3 g.rules.length c3]] w fun e w' => e = .returned (.tuple #[.string s, .int .i64 x]) ∧ Below w.heap.size w w' := by
  have hmf : ∀ (fn : Fn) (first cap : Array Value) (w : World), (Instr.makeFunc fn first cap).run Try.prog w = .ok (.func fn first cap) w := fun _ _ _ _ => rfl
  obtain ⟨wa, hwa⟩ : ∃ wa : World, wa = w.alloc (.cells #[.slice A1 g.terms.length c1, .slice A2 g.names.length c2, .slice A3 g.rules.length c3] 25 (0, 0)) := ⟨_, rfl⟩
  obtain ⟨wb, hwb⟩ : ∃ wb : World, wb = wa.alloc (.cells #[.string ⟨#[]⟩] 9 (0, 0)) := ⟨_, rfl⟩
  obtain ⟨v0, hv0⟩ : ∃ v0 : World, v0 = wb.alloc (.cells #[.int .i64 0] 29 (0, 0)) := ⟨_, rfl⟩
  have za : wa.heap.size = w.heap.size + 1 := by rw [hwa]; simp
  have zb : wb.heap.size = w.heap.size + 1 + 1 := by rw [hwb]; simp [za]
  have hb1 : Below w.heap.size w wa := by rw [hwa]; exact below_alloc (Below.refl _ _) _
  have hb2 : Below wa.heap.size wa wb := by rw [hwb]; exact below_alloc (Below.refl _ _) _
  have hb3 : Below wb.heap.size wb v0 := by rw [hv0]; exact below_alloc (Below.refl _ _) _
  have hab := below_then hb2 hb2.size hb3
  have HB0 : Aside0 (Below w.heap.size w v0) := ⟨below_then hb1 hb1.size hab⟩
  have HP0 : Aside0 (v0.heap[w.heap.size]? = some (.cells #[.slice A1 g.terms.length c1, .slice A2 g.names.length c2, .slice A3 g.rules.length c3] 25 (0, 0))) := ⟨blk_below (by rw [hwa]; exact blk_new w _) hab⟩
  have HS0 : Aside0 (v0.heap[w.heap.size + 1]? = some (.cells #[.string ⟨#[]⟩] 9 (0, 0))) := ⟨by rw [← za]; exact blk_below (by rw [hwb]; exact blk_new wa _) hb3⟩
  have HO0 : Aside0 (v0.heap[w.heap.size + 1 + 1]? = some (.cells #[.int .i64 0] 29 (0, 0))) := ⟨by rw [← zb, hv0]; exact blk_new wb _⟩
  have HG0 := Aside0.mk (hg.below_ HB0.out)
  have n1 : w.heap.size + 1 ≠ w.heap.size + 1 + 1 := by omega
  have n2 : w.heap.size ≤ w.heap.size + 1 := by omega
  have n3 : w.heap.size ≤ w.heap.size + 1 + 1 := by omega
  have HW := Aside0.mk (show v0 = ((w.alloc (.cells #[.slice A1 g.terms.length c1, .slice A2 g.names.length c2, .slice A3 g.rules.length c3] 25 (0, 0))).alloc (.cells #[.string ⟨#[]⟩] 9 (0, 0))).alloc (.cells #[.int .i64 0] 29 (0, 0)) by rw [hv0, hwb, hwa])
  have HO := Lib.hid ho
  have TH : ∀ (v : Int) (W : World), v ≠ 0 → s = ⟨#[]⟩ → x = v → Below v0.heap.size v0 W → CallsD Try.prog 46 #[.pointer (some ⟨w.heap.size + 1, 0, none⟩), .pointer (some ⟨w.heap.size + 1 + 1, 0, none⟩)] (.panicking [{ v := .iface 29 (.int .i64 v), recovered := false }]) W fun e u' w' =>
      e = .returned (.tuple #[]) ∧ u' = .panicking [{ v := .iface 29 (.int .i64 v), recovered := true }] ∧ w'.heap[w.heap.size + 1]? = some (.cells #[.string s] 9 (0, 0)) ∧ w'.heap[w.heap.size + 1 + 1]? = some (.cells #[.int .i64 x] 29 (0, 0)) ∧ Below w.heap.size w w' := by
    rintro v W hv rfl rfl hb
    have hS := blk_below HS0.out hb
    have hO := blk_below HO0.out hb
    refine (textRec_panicking _ _ x hv _ _ _ _ hS hO n1).mono ?_
    rintro e u' w'' ⟨rfl, rfl, rfl⟩
    exact ⟨rfl, rfl, blk_far (blk_set hS 0 _) n1 _, blk_set (blk_far hO n1.symm _) 0 _, below_set (below_set (below_then HB0.out HB0.out.size hb) n2 _ _) n3 _ _⟩
  have HTH := Aside0.mk TH
  clear hg hwa hwb hv0 za zb hb1 hb2 hb3 hab ho TH
  obtain ⟨b, hgd⟩ : ∃ b, goodF g = b := ⟨_, rfl⟩
  have HGD := Lib.hid hgd
  clear hgd
  go_enter_defers Try.func18, Try.ntmps18
  go_upto_region 2 with (fail)
  simp only [← HW.out]
  clear HW
  refine pl_start ?_
  refine pl_held (B := v0.heap.size) (v := v0) (Below.refl _ _) (fun hHeld => ?_)
  refine pp_ ?_ ?_ ?_ (y := by have d0 := (blk_cell (blk_below HP0.out hHeld) 0).trans rfl; have d1 := (blk_cell (blk_below HP0.out hHeld) 1).trans rfl; have d2 := (blk_cell (blk_below HP0.out hHeld) 2).trans rfl; go_simp; rfl)
  refine goesCL_ (N := (some 8)) Try.func48 (by kernel_rfl) rfl (by rfl) rfl rfl (good_v g A1 A2 A3 c1 c2 c3 _ (HG0.out.below_ hHeld) HGD.out) (by simp [Act.eval]) ?_
  rintro e x2_1 ⟨rfl, hb2_1⟩
  refine ⟨_, rfl, ?_⟩
  simp only [Act.put, List.setIfInBounds_toArray, List.set_cons_zero, List.set_cons_succ]
  refine pl_held (B := v0.heap.size) (v := v0) (below_then hHeld hHeld.size hb2_1) (fun hHeld => ?_)
  refine pp_ ?_ ?_ ?_
  refine pl_nil ?_
  have HX2 := Aside0.mk hHeld
  cases b
  · have ho := HO.out
    rw [textO, HGD.out, if_neg (by decide)] at ho
    injection ho with e1 e2
    have E1 := Lib.hid e1.symm
    have E2 := Lib.hid e2.symm
    clear e1 e2
    go_wp2
    refine leaves_cons (f := 46) (args := #[.pointer (some ⟨w.heap.size + 1, 0, none⟩), .pointer (some ⟨w.heap.size + 1 + 1, 0, none⟩)]) (by simp) (by simp [go_sem]) ?_
    refine (HTH.out 16 _ (by decide) E1.out E2.out HX2.out).mono ?_
    rintro e u' w'' ⟨rfl, rfl, hS, hO, hB⟩
    exact ⟨_, results_text rfl rfl hS hO, rfl, hB⟩
  · obtain ⟨q1, q2, q3, q4⟩ := goodF_small HGD.out
    go_upto_region 4 with (fail)
    refine pl_start ?_
    refine pl_held (B := x2_1.heap.size) (v := x2_1) (Below.refl _ _) (fun hHeld => ?_)
    refine pl_alloc (N := (some 4)) (v := ?v102) (o := ?o102) (by rfl) rfl ?h102 ?_
    case h102 => (go_simp; first | rfl | (constructor; rfl; rfl))
    intro x4_0 hb4_0 hx4_0 hs4_0 hq4_0
    simp only [Act.put, List.setIfInBounds_toArray, List.set_cons_zero, List.set_cons_succ]
    refine pl_held (B := x2_1.heap.size) (v := x2_1) (below_then hHeld hHeld.size hb4_0) (fun hHeld => ?_)
    refine pl_nil ?_
    have HB4 := Aside0.mk hHeld
    have HIB : Aside0 (Lib.IsBuilder 72 5 x2_1.heap.size x2_1.heap.size (Lib.strCells (textS g ⟨#[]⟩ (g.rules.take 0))) x4_0) := ⟨by rw [hq4_0.out]; exact Lib.fresh_isBuilder 72 5 x2_1⟩
    clear hx4_0 hs4_0 hq4_0
    go_upto_region 5 with (fail)
    refine pl_start ?_
    refine pl_held (B := v0.heap.size) (v := v0) (below_then HX2.out HX2.out.size HB4.out) (fun hHeld => ?_)
    refine pp_ ?_ ?_ ?_
    refine pp_ ?_ ?_ ?_ (y := by have d0 := (blk_cell (blk_below HP0.out hHeld) 0).trans rfl; have d1 := (blk_cell (blk_below HP0.out hHeld) 1).trans rfl; have d2 := (blk_cell (blk_below HP0.out hHeld) 2).trans rfl; go_simp; rfl)
    refine pp_ ?_ ?_ ?_
    refine pp_ ?_ ?_ ?_
    refine pl_nil ?_
    go_wp2
    go_loopw [14, 5] (fun a y wr => ∃ k : Nat, k ≤ g.rules.length ∧ a = .int .i64 k ∧ Aside0 (Below x2_1.heap.size x2_1 wr) ∧ Aside0 (Lib.IsBuilder 72 5 x2_1.heap.size x2_1.heap.size (Lib.strCells (textS g ⟨#[]⟩ (g.rules.take k))) wr)) (fun a _ _ => g.rules.length - (intOf a).toNat)
    case atStart => exact ⟨0, Nat.zero_le _, rfl, HB4, HIB⟩
    case round =>
      clear HIB HB4
      obtain ⟨k, hk, rfl, HB, HIB⟩ := hrel
      rename World => wi
      by_cases hlt : k < g.rules.length
      · have hsc := textS_succ (g := g) (acc := ⟨#[]⟩) hlt
        have hsz := textS_size HGD.out (g.rules.take k) (fun r hr => (good_left HGD.out (List.mem_of_mem_take hr)).2.1) ⟨#[]⟩
        have hls := lineF_size HGD.out (good_left HGD.out (List.getElem_mem hlt)).2.1
        obtain ⟨S, hS⟩ : ∃ S, textS g ⟨#[]⟩ (g.rules.take k) = S := ⟨_, rfl⟩
        obtain ⟨ln, hln⟩ : ∃ ln, lineF g (g.rules[k]'hlt) = ln := ⟨_, rfl⟩
        rw [hS, hln] at hsc
        rw [hS, List.length_take, show (⟨#[]⟩ : ByteArray).size = 0 from rfl] at hsz
        rw [hln] at hls
        rw [hS] at HIB
        have HSC := Lib.hid hsc
        have HLN := Aside0.mk hln
        have hs3 : (ln ++ ⟨#[32, 59, 10]⟩ : ByteArray).size ≤ 203 := by rw [size_app, show (⟨#[32, 59, 10]⟩ : ByteArray).size = 3 from rfl]; omega
        have hs4 : S.size ≤ 20000 := by omega
        clear hsc hS hln hsz
        have i1 : (k : Int) < (g.rules.length : Int) := by omega
        go_upto_region 8 with (fail)
        refine pl_start ?_
        refine pl_held (B := v0.heap.size) (v := v0) (below_then HX2.out HX2.out.size HB.out) (fun hHeld => ?_)
        refine pp_ ?_ ?_ ?_ (y := by have d0 := (blk_cell (blk_below HP0.out hHeld) 0).trans rfl; have d1 := (blk_cell (blk_below HP0.out hHeld) 1).trans rfl; have d2 := (blk_cell (blk_below HP0.out hHeld) 2).trans rfl; go_simp; rfl)
        refine pp_ ?_ ?_ ?_
        refine goesCL_ (N := (some 19)) Try.func50 (by kernel_rfl) rfl (by rfl) rfl rfl (line_yes g A1 A2 A3 c1 c2 c3 k _ (HG0.out.below_ hHeld) HGD.out hlt HLN.out) (by simp [Act.eval]) ?_
        rintro e x8_2 ⟨rfl, hb8_2⟩
        refine ⟨_, rfl, ?_⟩
        simp only [Act.put, List.setIfInBounds_toArray, List.set_cons_zero, List.set_cons_succ]
        refine pl_held (B := v0.heap.size) (v := v0) (below_then hHeld hHeld.size hb8_2) (fun hHeld => ?_)
        refine pp_ ?_ ?_ ?_ (y := by go_simp; refine if_neg ?_; omega)
        refine goesCL_ (N := some 21) Try.func49 (by kernel_rfl) rfl (by rfl) rfl rfl (builderWrite_c x2_1.heap.size x2_1.heap.size S (ln ++ ⟨#[32, 59, 10]⟩) _ (builder_below HIB.out hb8_2) (by omega) (Nat.le_trans HB.out.size hb8_2.size)) (by simp [Act.eval]) ?_
        rintro e x8_4 ⟨rfl, hib, hb8_4⟩
        refine ⟨_, rfl, ?_⟩
        simp only [Act.put, List.setIfInBounds_toArray, List.set_cons_zero, List.set_cons_succ]
        refine pl_nil ?_
        have HX8 := Aside0.mk ((below_then HB.out HB.out.size hb8_2).trans hb8_4)
        have HIB8 := Aside0.mk hib
        go_wp2
        go_roundw
        case rel => exact ⟨k + 1, by omega, by go_num, HX8, ⟨by rw [HSC.out]; exact HIB8.out⟩⟩
        case measure => simp [intOf]; omega
      · have hE : g.rules.take k = g.rules := List.take_of_length_le (by omega)
        rw [hE] at HIB
        have hT : textS g ⟨#[]⟩ g.rules = textF g := rfl
        rw [hT] at HIB
        clear hE hT
        have ho := HO.out
        rw [textO, HGD.out, if_pos rfl] at ho
        obtain ⟨S, hS⟩ : ∃ S, textF g = S := ⟨_, rfl⟩
        rw [hS] at HIB ho
        have hsz := textS_size HGD.out g.rules (fun r hr => (good_left HGD.out hr).2.1) ⟨#[]⟩
        have hsS : S.size ≤ 20000 := by
          rw [← hS]; unfold textF
          rw [show (⟨#[]⟩ : ByteArray).size = 0 from rfl] at hsz
          omega
        clear hS hsz
        by_cases hbig : 2000 < S.size
        · rw [if_pos hbig] at ho
          injection ho with e1 e2
          have E1 := Lib.hid e1.symm
          have E2 := Lib.hid e2.symm
          clear e1 e2
          go_wp2_with (go_at_call 51; go_loud (refine (builderLen_c _ _ _ _ HIB.out).mono ?_; rintro e w' ⟨rfl, rfl⟩))
          refine leaves_cons (f := 46) (args := #[.pointer (some ⟨w.heap.size + 1, 0, none⟩), .pointer (some ⟨w.heap.size + 1 + 1, 0, none⟩)]) (by simp) (by simp [go_sem]) ?_
          refine (HTH.out 14 _ (by decide) E1.out E2.out (below_then HX2.out HX2.out.size HB.out)).mono ?_
          rintro e u' w'' ⟨rfl, rfl, hS, hO, hB⟩
          exact ⟨_, results_text rfl rfl hS hO, rfl, hB⟩
        · rw [if_neg hbig] at ho
          injection ho with e1 e2
          subst e1 e2
          go_upto_region 12 with (go_at_call 51; go_loud (refine (builderLen_c _ _ _ _ HIB.out).mono ?_; rintro e w' ⟨rfl, rfl⟩))
          refine pl_start ?_
          refine pl_held (B := v0.heap.size) (v := v0) (below_then HX2.out HX2.out.size HB.out) (fun hHeld => ?_)
          refine goesCL_ (N := some 26) Try.func52 (by kernel_rfl) rfl (by rfl) rfl rfl (builderStr_c x2_1.heap.size x2_1.heap.size S _ HIB.out HB.out.size) (by simp [Act.eval]) ?_
          rintro e xs ⟨rfl, hbs⟩
          refine ⟨_, rfl, ?_⟩
          simp only [Act.put, List.setIfInBounds_toArray, List.set_cons_zero, List.set_cons_succ]
          have hX := below_then HX2.out HX2.out.size (HB.out.trans hbs)
          have hS := blk_below HS0.out hX
          have hO := blk_below HO0.out hX
          have hB := below_then HB0.out HB0.out.size hX
          have hO1 := blk_far (p := ⟨w.heap.size + 1, 0, none⟩) hO n1.symm (.string S)
          have HSX := Aside0.mk hS
          have HOX := Aside0.mk hO
          have HBX := Aside0.mk hB
          have c1 := blk_cell hS 0
          have c2 := blk_cell hO1 0
          have f1 := blk_frozen hS 0
          have f2 := blk_frozen hO1 0
          simp only [List.getElem?_toArray, List.getElem?_cons_zero, List.getElem?_cons_succ] at c1 c2
          refine pl_skip (w1 := ?w107) (by rfl) rfl ?h107 ?_
          case h107 => (go_simp; rfl)
          refine pl_skip (w1 := ?w108) (by rfl) rfl ?h108 ?_
          case h108 => (go_simp; rfl)
          refine pl_nil ?_
          go_wp2
          refine leaves_cons (f := 46) (args := #[.pointer (some ⟨w.heap.size + 1, 0, none⟩), .pointer (some ⟨w.heap.size + 1 + 1, 0, none⟩)]) (by simp) (by simp [go_sem]) ?_
          refine (textRec_idle _ _ _).mono ?_
          rintro e u' w'' ⟨rfl, rfl, rfl⟩
          exact ⟨_, results_text rfl rfl (blk_far (blk_set HSX.out 0 _) n1 _) (blk_set (blk_far HOX.out n1.symm _) 0 _), rfl, below_set (below_set HBX.out n2 _ _) n3 _ _⟩
end Go.Proofs.Ytdpdbgaoaibafaa

/- The document's answer on a grammar's text. -/
set_option linter.unusedVariables false
set_option linter.unusedSimpArgs false
namespace Go.Proofs.Ytdpdbgaoaibafaa
open Go.RowKit Go.Proofs.YtdpdbgaoaibafaaW.PrintWords Go.Proofs.YtdpdbgaoaibafaaW.PrintLast

theorem name1S_c (g : Gram) (A1 A2 A3 : Option Addr) (c1 c2 c3 : Nat) (sym : Int) (w : World) (hg : RepG w g A1 A2 A3 c1 c2 c3) (hsz : g.terms.length + g.names.length ≤ 4000000000000000) (hi : -9223372036854775808 ≤ sym ∧ sym ≤ 9223372036854775807) {s : ByteArray} (hs : nameF g sym = some s) :
    Calls Try.prog 54 #[.agg #[.slice A1 g.terms.length c1, .slice A2 g.names.length c2, .slice A3 g.rules.length c3], .int .i64 sym] w fun e w' => e = .returned (.agg #[.string s, .bool true]) ∧ Below w.heap.size w w' := by
  have := name1_c g A1 A2 A3 c1 c2 c3 sym w hg hsz hi
  rw [hs] at this
  exact this
theorem results_rule4 {tmps : Array Value} {W : World} {q : Nat} {s : ByteArray} {b : Bool} (t4 : tmps.getD 4 undef = .pointer (some ⟨q, 0, none⟩))
    (h : W.heap[q]? = some (.cells #[.string s, .bool b] 37 (0, 0))) :
    (results Try.f21 tmps).run Try.prog W = .ok (.agg #[.string s, .bool b]) W := by
  have d1 := blk_cell h 0
  have d4 := blk_cell h 1
  simp only [List.getElem?_toArray, List.getElem?_cons_zero, List.getElem?_cons_succ] at d1 d4
  simp only [Array.getD_eq_getD_getElem?] at t4
  simp [results, Try.results21, go_sem, d1, d4, t4]

set_option maxRecDepth 100000 in
set_option maxHeartbeats 8000000 in
theorem ruleR_c (g : Gram) (A1 A2 A3 : Option Addr) (c1 c2 c3 : Nat) (i : Int) (w : World) (hg : RepG w g A1 A2 A3 c1 c2 c3) (hz : Sized g) {o : Option ByteArray} (ho : ruleO g i = o) :
    Calls Try.prog 21 #[.agg #[.slice A1 g.terms.length c1, .slice A2 g.names.length c2, .slice A3 g.rules.length c3], .int .i64 i] w fun e w' => e = .returned (.agg #[.string (o.getD ⟨#[]⟩), .bool o.isSome]) ∧ Below w.heap.size w w' := by
  obtain ⟨wa, hwa⟩ : ∃ wa : World, wa = w.alloc (.cells #[.slice A1 g.terms.length c1, .slice A2 g.names.length c2, .slice A3 g.rules.length c3] 25 (0, 0)) := ⟨_, rfl⟩
  obtain ⟨v0, hv0⟩ : ∃ v0 : World, v0 = wa.alloc (.cells #[.string ⟨#[]⟩, .bool false] 37 (0, 0)) := ⟨_, rfl⟩
  have za : wa.heap.size = w.heap.size + 1 := by rw [hwa]; simp
  have hb1 : Below w.heap.size w wa := by rw [hwa]; exact below_alloc (Below.refl _ _) _
  have hb2 : Below wa.heap.size wa v0 := by rw [hv0]; exact below_alloc (Below.refl _ _) _
  have HB0 : Aside0 (Below w.heap.size w v0) := ⟨below_then hb1 hb1.size hb2⟩
  have HP0 : Aside0 (v0.heap[w.heap.size]? = some (.cells #[.slice A1 g.terms.length c1, .slice A2 g.names.length c2, .slice A3 g.rules.length c3] 25 (0, 0))) := ⟨blk_below (by rw [hwa]; exact blk_new w _) hb2⟩
  have HL0 : Aside0 (v0.heap[w.heap.size + 1]? = some (.cells #[.string ⟨#[]⟩, .bool false] 37 (0, 0))) := ⟨by rw [← za, hv0]; exact blk_new wa _⟩
  have HG0 := Aside0.mk (hg.below_ HB0.out)
  have n2 : w.heap.size ≤ w.heap.size + 1 := by omega
  have HW := Aside0.mk (show v0 = (w.alloc (.cells #[.slice A1 g.terms.length c1, .slice A2 g.names.length c2, .slice A3 g.rules.length c3] 25 (0, 0))).alloc (.cells #[.string ⟨#[]⟩, .bool false] 37 (0, 0)) by rw [hv0, hwa])
  have HZ := Aside0.mk hz
  subst ho
  clear hg hwa hv0 za hb1 hb2 hz
  rcases ruleO_cases g i with h | ⟨hgd, k, rfl, hk⟩
  · rw [ruleO_none h]
    go_enter Try.func21, Try.ntmps21
    go_upto_region 1 with (fail)
    simp only [← HW.out]
    clear HW
    obtain ⟨b, hb⟩ : ∃ b, goodF g = b := ⟨_, rfl⟩
    have HBG := Lib.hid hb
    clear hb
    cases b
    · refine pl_start ?_
      refine pl_held (B := v0.heap.size) (v := v0) (Below.refl _ _) (fun hHeld => ?_)
      refine pp_ ?_ ?_ ?_ (y := by have d0 := (blk_cell (blk_below HP0.out hHeld) 0).trans rfl; have d1 := (blk_cell (blk_below HP0.out hHeld) 1).trans rfl; have d2 := (blk_cell (blk_below HP0.out hHeld) 2).trans rfl; go_simp; rfl)
      refine goesCL_ (N := (some 10)) Try.func24 (by kernel_rfl) rfl (by rfl) rfl rfl (good1_v g A1 A2 A3 c1 c2 c3 _ (HG0.out.below_ hHeld) HZ.out HBG.out) (by simp [Act.eval]) ?_
      rintro e x1_1 ⟨rfl, hb1_1⟩
      refine ⟨_, rfl, ?_⟩
      simp only [Act.put, List.setIfInBounds_toArray, List.set_cons_zero, List.set_cons_succ]
      refine pl_held (B := v0.heap.size) (v := v0) (below_then hHeld hHeld.size hb1_1) (fun hHeld => ?_)
      refine pp_ ?_ ?_ ?_
      refine pp_ ?_ ?_ ?_
      refine pf_ ?_ ?_
      refine pf_ ?_ ?_
      refine pp_ ?_ ?_ ?_
      refine pp_ ?_ ?_ ?_
      refine pf_ ?_ ?_
      refine pf_ ?_ ?_
      refine pf_ ?_ ?_
      refine pf_ ?_ ?_
      refine pf_ ?_ ?_
      refine pp_ ?_ ?_ ?_
      refine pl_nil ?_
      have hL := blk_below HL0.out hHeld
      have HB := Aside0.mk (below_then HB0.out HB0.out.size hHeld)
      have d0 := blk_cell hL 0
      have d1 := blk_cell hL 1
      have f0 := blk_frozen hL 0
      have f1 := blk_frozen hL 1
      have HL := Aside0.mk hL
      simp only [List.getElem?_toArray, List.getElem?_cons_zero, List.getElem?_cons_succ] at d0 d1
      clear hHeld hL
      go_wp2
      exact bodyPost_ret (results_rule4 rfl (blk_set (blk_set HL.out 0 _) 1 _)) rfl ⟨rfl, below_set (below_set HB.out n2 _ _) n2 _ _⟩
    · by_cases h0 : i < 0
      · have d0 : decide (i < 0) = true := decide_eq_true h0
        refine pl_start ?_
        refine pl_held (B := v0.heap.size) (v := v0) (Below.refl _ _) (fun hHeld => ?_)
        refine pp_ ?_ ?_ ?_ (y := by have d0 := (blk_cell (blk_below HP0.out hHeld) 0).trans rfl; have d1 := (blk_cell (blk_below HP0.out hHeld) 1).trans rfl; have d2 := (blk_cell (blk_below HP0.out hHeld) 2).trans rfl; go_simp; rfl)
        refine goesCL_ (N := (some 10)) Try.func24 (by kernel_rfl) rfl (by rfl) rfl rfl (good1_v g A1 A2 A3 c1 c2 c3 _ (HG0.out.below_ hHeld) HZ.out HBG.out) (by simp [Act.eval]) ?_
        rintro e x1_1 ⟨rfl, hb1_1⟩
        refine ⟨_, rfl, ?_⟩
        simp only [Act.put, List.setIfInBounds_toArray, List.set_cons_zero, List.set_cons_succ]
        refine pl_held (B := v0.heap.size) (v := v0) (below_then hHeld hHeld.size hb1_1) (fun hHeld => ?_)
        refine pp_ ?_ ?_ ?_
        refine pp_ ?_ ?_ ?_
        refine pp_ ?_ ?_ ?_
        refine pp_ ?_ ?_ ?_
        refine pp_ ?_ ?_ ?_
        refine pp_ ?_ ?_ ?_
        refine pf_ ?_ ?_
        refine pf_ ?_ ?_
        refine pf_ ?_ ?_
        refine pf_ ?_ ?_
        refine pf_ ?_ ?_
        refine pp_ ?_ ?_ ?_
        refine pl_nil ?_
        have hL := blk_below HL0.out hHeld
        have HB := Aside0.mk (below_then HB0.out HB0.out.size hHeld)
        have d0 := blk_cell hL 0
        have d1 := blk_cell hL 1
        have f0 := blk_frozen hL 0
        have f1 := blk_frozen hL 1
        have HL := Aside0.mk hL
        simp only [List.getElem?_toArray, List.getElem?_cons_zero, List.getElem?_cons_succ] at d0 d1
        clear hHeld hL
        go_wp2
        exact bodyPost_ret (results_rule4 rfl (blk_set (blk_set HL.out 0 _) 1 _)) rfl ⟨rfl, below_set (below_set HB.out n2 _ _) n2 _ _⟩
      · have h1 : (g.rules.length : Int) ≤ i := by rcases h with h | h | h; (rw [HBG.out] at h; cases h); omega; exact h
        have d0 : decide (i < 0) = false := decide_eq_false h0
        have d1 : decide ((g.rules.length : Int) ≤ i) = true := decide_eq_true h1
        refine pl_start ?_
        refine pl_held (B := v0.heap.size) (v := v0) (Below.refl _ _) (fun hHeld => ?_)
        refine pp_ ?_ ?_ ?_ (y := by have d0 := (blk_cell (blk_below HP0.out hHeld) 0).trans rfl; have d1 := (blk_cell (blk_below HP0.out hHeld) 1).trans rfl; have d2 := (blk_cell (blk_below HP0.out hHeld) 2).trans rfl; go_simp; rfl)
        refine goesCL_ (N := (some 10)) Try.func24 (by kernel_rfl) rfl (by rfl) rfl rfl (good1_v g A1 A2 A3 c1 c2 c3 _ (HG0.out.below_ hHeld) HZ.out HBG.out) (by simp [Act.eval]) ?_
        rintro e x1_1 ⟨rfl, hb1_1⟩
        refine ⟨_, rfl, ?_⟩
        simp only [Act.put, List.setIfInBounds_toArray, List.set_cons_zero, List.set_cons_succ]
        refine pl_held (B := v0.heap.size) (v := v0) (below_then hHeld hHeld.size hb1_1) (fun hHeld => ?_)
        refine pp_ ?_ ?_ ?_
        refine pp_ ?_ ?_ ?_
        refine pp_ ?_ ?_ ?_
        refine pp_ ?_ ?_ ?_
        refine pp_ ?_ ?_ ?_
        refine pp_ ?_ ?_ ?_
        refine pp_ ?_ ?_ ?_
        refine pp_ ?_ ?_ ?_
        refine pp_ ?_ ?_ ?_ (y := by have d0 := (blk_cell (blk_below HP0.out hHeld) 0).trans rfl; have d1 := (blk_cell (blk_below HP0.out hHeld) 1).trans rfl; have d2 := (blk_cell (blk_below HP0.out hHeld) 2).trans rfl; go_simp; rfl)
        refine pp_ ?_ ?_ ?_
        refine pp_ ?_ ?_ ?_
        refine pp_ ?_ ?_ ?_
        refine pl_nil ?_
        have hL := blk_below HL0.out hHeld
        have HB := Aside0.mk (below_then HB0.out HB0.out.size hHeld)
        have d0 := blk_cell hL 0
        have d1 := blk_cell hL 1
        have f0 := blk_frozen hL 0
        have f1 := blk_frozen hL 1
        have HL := Aside0.mk hL
        simp only [List.getElem?_toArray, List.getElem?_cons_zero, List.getElem?_cons_succ] at d0 d1
        clear hHeld hL
        go_wp2
        exact bodyPost_ret (results_rule4 rfl (blk_set (blk_set HL.out 0 _) 1 _)) rfl ⟨rfl, below_set (below_set HB.out n2 _ _) n2 _ _⟩
  · rw [ruleO_some hgd hk]
    obtain ⟨q1, q2, q3, q4⟩ := goodF_small hgd
    obtain ⟨hl, h8, hx⟩ := good_left hgd (List.getElem_mem hk)
    obtain ⟨ad, Ar, cr, eA, p0, p1, hrc, hri⟩ := at_rule HG0.out.rules k hk
    obtain ⟨r, hr⟩ : ∃ r, r = g.rules[k]'hk := ⟨_, rfl⟩
    rw [← hr] at hl h8 hx p0 p1 hrc hri ⊢
    obtain ⟨rl, rr⟩ := r
    dsimp only at hl h8 hx p0 p1 hrc hri
    subst eA
    have P0 := Aside0.mk p0
    have P1 := Aside0.mk p1
    have HRI := Aside0.mk hri
    have HX := Aside0.mk hx
    have HGD := Aside0.mk hgd
    obtain ⟨nl, hnl⟩ := name_in (show 0 ≤ rl by omega) hl.2
    have HNL := Lib.hid hnl
    have hns := good_size hgd hnl
    have hln : lineF g ⟨rl, rr⟩ = rowS g (nl ++ ⟨#[32, 61]⟩) rr := by unfold lineF nameD; rw [hnl]; rfl
    rw [hln]
    have d0 : decide ((k : Int) < 0) = false := decide_eq_false (by omega)
    have d1 : decide ((g.rules.length : Int) ≤ (k : Int)) = false := decide_eq_false (by omega)
    have j1 : (0 : Int) ≤ (k : Int) := by omega
    have j2 : (k : Int) < (g.rules.length : Int) := by omega
    clear p0 p1 hri hx hr hnl hln hgd
    go_enter Try.func21, Try.ntmps21
    go_upto_region 1 with (fail)
    simp only [← HW.out]
    clear HW
    refine pl_start ?_
    refine pl_held (B := v0.heap.size) (v := v0) (Below.refl _ _) (fun hHeld => ?_)
    refine pp_ ?_ ?_ ?_ (y := by have d0 := (blk_cell (blk_below HP0.out hHeld) 0).trans rfl; have d1 := (blk_cell (blk_below HP0.out hHeld) 1).trans rfl; have d2 := (blk_cell (blk_below HP0.out hHeld) 2).trans rfl; go_simp; rfl)
    refine goesCL_ (N := (some 10)) Try.func24 (by kernel_rfl) rfl (by rfl) rfl rfl (good1_v g A1 A2 (some ad) c1 c2 c3 _ (HG0.out.below_ hHeld) HZ.out HGD.out) (by simp [Act.eval]) ?_
    rintro e x1_1 ⟨rfl, hb1_1⟩
    refine ⟨_, rfl, ?_⟩
    simp only [Act.put, List.setIfInBounds_toArray, List.set_cons_zero, List.set_cons_succ]
    refine pl_held (B := v0.heap.size) (v := v0) (below_then hHeld hHeld.size hb1_1) (fun hHeld => ?_)
    refine pp_ ?_ ?_ ?_
    refine pp_ ?_ ?_ ?_
    refine pp_ ?_ ?_ ?_
    refine pp_ ?_ ?_ ?_
    refine pp_ ?_ ?_ ?_
    refine pp_ ?_ ?_ ?_
    refine pp_ ?_ ?_ ?_
    refine pp_ ?_ ?_ ?_
    refine pp_ ?_ ?_ ?_ (y := by have d0 := (blk_cell (blk_below HP0.out hHeld) 0).trans rfl; have d1 := (blk_cell (blk_below HP0.out hHeld) 1).trans rfl; have d2 := (blk_cell (blk_below HP0.out hHeld) 2).trans rfl; go_simp; rfl)
    refine pp_ ?_ ?_ ?_
    refine pp_ ?_ ?_ ?_
    refine pp_ ?_ ?_ ?_
    refine pl_nil ?_
    have HX1 := Aside0.mk hHeld
    have HP1 := Aside0.mk (blk_below HP0.out hHeld)
    have P01 := Aside0.mk (cell_at hHeld P0.out)
    have P11 := Aside0.mk (cell_at hHeld P1.out)
    have HG1 := Aside0.mk (HG0.out.below_ hHeld)
    have HRI1 := Aside0.mk (Kd.C_below HRI.out hHeld)
    have HL1 := Aside0.mk (blk_below HL0.out hHeld)
    clear hHeld hb1_1
    go_upto_region 3 with (fail)
    refine start_ (n := 11) (S := fun w' => Below x1_1.heap.size x1_1 w') (ds := []) (lb 11 0x0) (by kernel_rfl) rfl (by kernel_rfl) (below_drew1 (Below.refl _ _)) (fun hHeld => ?_)
    refine pu_ ?_ ?_ 1 (some 25) (lb 11 0x2) ?_
    refine pu_ ?_ ?_ 3 (some 27) (lb 11 0xa) ?_
    refine ta_ ?_ ?_ 0 (some 24) (lb 11 0xb) hHeld ?_ (y := by rintro w' hS; have d0 := (blk_cell (blk_below HP1.out hS) 0).trans rfl; have d1 := (blk_cell (blk_below HP1.out hS) 1).trans rfl; have d2 := (blk_cell (blk_below HP1.out hS) 2).trans rfl; have d3 := cell_at hS P01.out; go_simp; with_reducible rfl)
    refine ta_ ?_ ?_ 2 (some 26) (lb 11 0xf) hHeld ?_ (y := by rintro w' hS; have d0 := (blk_cell (blk_below HP1.out hS) 0).trans rfl; have d1 := (blk_cell (blk_below HP1.out hS) 1).trans rfl; have d2 := (blk_cell (blk_below HP1.out hS) 2).trans rfl; have d3 := cell_at hS P01.out; go_simp; with_reducible rfl)
    refine pu_ ?_ ?_ 4 (some 28) (lb 11 0x1f) ?_
    refine pu_ ?_ ?_ 5 (some 29) (lb 11 0x3f) ?_
    refine ta_ ?_ ?_ 6 (some 30) (lb 11 0x7f) hHeld ?_ (y := by rintro w' hS; have d0 := (blk_cell (blk_below HP1.out hS) 0).trans rfl; have d1 := (blk_cell (blk_below HP1.out hS) 1).trans rfl; have d2 := (blk_cell (blk_below HP1.out hS) 2).trans rfl; have d3 := cell_at hS P01.out; go_simp; with_reducible rfl)
    refine on_ 7 (some 31) (lb 11 0xff) (fun K hK => ?_)
    (refine goesC_ Try.func54 (by kernel_rfl) rfl (by rfl) rfl rfl (name1S_c g A1 A2 (some ad) c1 c2 c3 rl _ (HG1.out.below_ hHeld) (by omega) (by omega) HNL.out) (by simp [Act.eval]) ?_; rintro e w9 ⟨rfl, hb9⟩; refine ⟨_, rfl, ?_⟩; have HQ9 := Aside0.mk (below_then hHeld hHeld.size hb9); clear hb9; refine hK.out _ _ HQ9.out (fun hHeld => ?_))
    clear hK K
    refine nm_ ?_ (some 31) ?_
    refine pu_ (.string nl) ?_ 8 (some 32) (lb 11 0x1ff) ?_ (hy := fun _ => by rfl)
    refine pu_ ?_ ?_ 9 (some 33) (lb 11 0x3ff) ?_ (hy := by intro w'; go_simp; refine if_neg ?_; omega)
    refine pu_ ?_ ?_ 10 (some 5) (lb 11 0x7ff) ?_
    refine done_ (by kernel_rfl) ?_
    have HX3 := Aside0.mk hHeld
    clear hHeld HQ9
    go_wp2
    go_loopw [6, 5] (fun a t wr => ∃ m : Nat, m ≤ rr.length ∧ a = .int .i64 m ∧ t = .string (rowS g (nl ++ ⟨#[32, 61]⟩) (rr.take m)) ∧ Aside0 (Below x1_1.heap.size x1_1 wr)) (fun a _ _ => rr.length - (intOf a).toNat)
    case atStart => exact ⟨0, Nat.zero_le _, rfl, rfl, HX3⟩
    case round =>
      clear HX3
      obtain ⟨m, hm, rfl, rfl, HB⟩ := hrel
      rename World => wi
      by_cases hlt : m < rr.length
      · have hsc := rowS_succ (g := g) (acc := nl ++ ⟨#[32, 61]⟩) hlt
        have hxk := HX.out _ (List.getElem_mem hlt)
        obtain ⟨ax, eAx, hc⟩ := at_int HRI1.out m hlt
        subst eAx
        obtain ⟨S, hS⟩ : ∃ S, rowS g (nl ++ ⟨#[32, 61]⟩) (rr.take m) = S := ⟨_, rfl⟩
        obtain ⟨x, hx⟩ : ∃ x, x = rr[m]'hlt := ⟨_, rfl⟩
        rw [← hx] at hsc hxk hc
        rw [hS] at hsc ⊢
        obtain ⟨sx, hsx⟩ : ∃ sx, symS g x = sx := ⟨_, rfl⟩
        rw [hsx] at hsc
        have HSC := Lib.hid hsc
        have HSX := Aside0.mk hsx
        have HC := Aside0.mk hc
        have hs1 := rowS_size HGD.out (rr.take m) (nl ++ ⟨#[32, 61]⟩)
        have hs2 := symS_size HGD.out x
        rw [hsx] at hs2
        rw [hS, size_app, List.length_take, show (⟨#[32, 61]⟩ : ByteArray).size = 2 from rfl] at hs1
        have hs3 : (⟨#[32]⟩ ++ sx : ByteArray).size ≤ 19 := by rw [size_app, show (⟨#[32]⟩ : ByteArray).size = 1 from rfl]; omega
        have hs4 : S.size ≤ 200 := by omega
        obtain ⟨nx, hnx⟩ := name_in hxk.1 hxk.2
        have HNX := Lib.hid hnx
        have hnz := good_size HGD.out hnx
        have h39 : (⟨#[39]⟩ ++ nx : ByteArray).size ≤ 17 := by rw [size_app, show (⟨#[39]⟩ : ByteArray).size = 1 from rfl]; omega
        have i0 : (0 : Int) ≤ (m : Int) := by omega
        have i1 : (m : Int) < (rr.length : Int) := by omega
        have dm : decide ((m : Int) < (rr.length : Int)) = true := decide_eq_true i1
        clear hsx hx hS hs1 hsc hc hnx
        go_upto_region 5 with (fail)
        refine pl_start ?_
        refine pl_held (B := x1_1.heap.size) (v := x1_1) (HB.out) (fun hHeld => ?_)
        refine pp_ ?_ ?_ ?_
        refine pp_ ?_ ?_ ?_
        refine pp_ ?_ ?_ ?_ (y := by have d0 := (blk_cell (blk_below HP1.out hHeld) 0).trans rfl; have d1 := (blk_cell (blk_below HP1.out hHeld) 1).trans rfl; have d2 := (blk_cell (blk_below HP1.out hHeld) 2).trans rfl; have d0 := cell_at hHeld P01.out; have d1 := cell_at hHeld P11.out; go_simp; rfl)
        refine pp_ ?_ ?_ ?_
        refine pp_ ?_ ?_ ?_
        refine pp_ ?_ ?_ ?_
        refine pp_ ?_ ?_ ?_ (y := by have d0 := (blk_cell (blk_below HP1.out hHeld) 0).trans rfl; have d1 := (blk_cell (blk_below HP1.out hHeld) 1).trans rfl; have d2 := (blk_cell (blk_below HP1.out hHeld) 2).trans rfl; have d0 := cell_at hHeld P01.out; have d1 := cell_at hHeld P11.out; go_simp; rfl)
        refine pp_ ?_ ?_ ?_
        refine pp_ ?_ ?_ ?_
        refine pl_nil ?_
        go_upto_region 7 with (fail)
        refine pl_start ?_
        refine pl_held (B := x1_1.heap.size) (v := x1_1) (HB.out) (fun hHeld => ?_)
        refine pp_ ?_ ?_ ?_
        refine pp_ ?_ ?_ ?_ (y := by have d0 := (blk_cell (blk_below HP1.out hHeld) 0).trans rfl; have d1 := (blk_cell (blk_below HP1.out hHeld) 1).trans rfl; have d2 := (blk_cell (blk_below HP1.out hHeld) 2).trans rfl; have d0 := cell_at hHeld P01.out; have d1 := cell_at hHeld P11.out; have d2 := cell_at hHeld HC.out; go_simp; rfl)
        refine pp_ ?_ ?_ ?_
        refine pp_ ?_ ?_ ?_
        refine pp_ ?_ ?_ ?_
        refine pp_ ?_ ?_ ?_ (y := by have d0 := (blk_cell (blk_below HP1.out hHeld) 0).trans rfl; have d1 := (blk_cell (blk_below HP1.out hHeld) 1).trans rfl; have d2 := (blk_cell (blk_below HP1.out hHeld) 2).trans rfl; have d0 := cell_at hHeld P01.out; have d1 := cell_at hHeld P11.out; have d2 := cell_at hHeld HC.out; go_simp; rfl)
        refine pp_ ?_ ?_ ?_
        refine pp_ ?_ ?_ ?_
        refine pp_ ?_ ?_ ?_ (y := by have d0 := (blk_cell (blk_below HP1.out hHeld) 0).trans rfl; have d1 := (blk_cell (blk_below HP1.out hHeld) 1).trans rfl; have d2 := (blk_cell (blk_below HP1.out hHeld) 2).trans rfl; have d0 := cell_at hHeld P01.out; have d1 := cell_at hHeld P11.out; have d2 := cell_at hHeld HC.out; go_simp; rfl)
        refine pp_ ?_ ?_ ?_
        refine pl_nil ?_
        go_upto_region 8 with (fail)
        refine pl_start ?_
        refine pl_held (B := x1_1.heap.size) (v := x1_1) (HB.out) (fun hHeld => ?_)
        refine pp_ ?_ ?_ ?_ (y := by have d0 := (blk_cell (blk_below HP1.out hHeld) 0).trans rfl; have d1 := (blk_cell (blk_below HP1.out hHeld) 1).trans rfl; have d2 := (blk_cell (blk_below HP1.out hHeld) 2).trans rfl; have d0 := cell_at hHeld P01.out; have d1 := cell_at hHeld P11.out; go_simp; rfl)
        refine pp_ ?_ ?_ ?_
        refine goesCL_ (N := (some 56)) Try.func54 (by kernel_rfl) rfl (by rfl) rfl rfl (name1S_c g A1 A2 (some ad) c1 c2 c3 x _ (HG1.out.below_ hHeld) (by omega) (by omega) HNX.out) (by simp [Act.eval]) ?_
        rintro e x8_2 ⟨rfl, hb8_2⟩
        refine ⟨_, rfl, ?_⟩
        simp only [Act.put, List.setIfInBounds_toArray, List.set_cons_zero, List.set_cons_succ]
        refine pl_held (B := x1_1.heap.size) (v := x1_1) (below_then hHeld hHeld.size hb8_2) (fun hHeld => ?_)
        refine pp_ (.string nx) ?_ ?_
        refine pp_ ?_ ?_ ?_
        refine pl_nil ?_
        have HX8 := Aside0.mk hHeld
        go_upto_region 9 with (fail)
        refine pl_start ?_
        refine pl_held (B := x1_1.heap.size) (v := x1_1) (HX8.out) (fun hHeld => ?_)
        refine pp_ ?_ ?_ ?_
        refine pp_ ?_ ?_ ?_
        refine pp_ ?_ ?_ ?_ (y := by have d0 := (blk_cell (blk_below HP1.out hHeld) 0).trans rfl; have d1 := (blk_cell (blk_below HP1.out hHeld) 1).trans rfl; have d2 := (blk_cell (blk_below HP1.out hHeld) 2).trans rfl; have d0 := cell_at hHeld P01.out; have d1 := cell_at hHeld P11.out; go_simp; rfl)
        refine pp_ ?_ ?_ ?_
        refine pp_ ?_ ?_ ?_
        refine pl_nil ?_
        by_cases ht : x < (g.terms.length : Int)
        · have hy := symS_t HNX.out (show termF g x = true by unfold termF; exact decide_eq_true ⟨hxk.1, ht⟩)
          rw [HSX.out] at hy
          have dt : decide (x < (g.terms.length : Int)) = true := decide_eq_true ht
          have hq : (⟨#[32]⟩ ++ (⟨#[39]⟩ ++ nx ++ ⟨#[39]⟩) : ByteArray).size ≤ 19 := by rw [← hy]; exact hs3
          have hq2 : (⟨#[39]⟩ ++ nx ++ ⟨#[39]⟩ : ByteArray).size ≤ 18 := by rw [← hy]; exact hs2
          have HY := Lib.hid hy
          clear hy
          go_upto_region 10 with (fail)
          refine pl_start ?_
          refine pp_ ?_ ?_ ?_
          refine pp_ ?_ ?_ ?_ (y := by go_simp; refine if_neg ?_; omega)
          refine pp_ ?_ ?_ ?_ (y := by go_simp; refine if_neg ?_; omega)
          refine pp_ ?_ ?_ ?_
          refine pl_nil ?_
          go_upto_region 11 with (fail)
          refine pl_start ?_
          refine pp_ ?_ ?_ ?_
          refine pp_ ?_ ?_ ?_
          refine pp_ ?_ ?_ ?_ (y := by go_simp; refine if_neg ?_; omega)
          refine pp_ ?_ ?_ ?_ (y := by go_simp; refine if_neg ?_; omega)
          refine pp_ ?_ ?_ ?_
          refine pl_nil ?_
          go_wp2
          go_roundw
          case rel => exact ⟨m + 1, by omega, by go_num, by rw [HSC.out, HY.out], HX8⟩
          case measure => simp [intOf]; omega
        · have hy := symS_n HNX.out (show termF g x = false by unfold termF; exact decide_eq_false (fun h => ht h.2))
          rw [HSX.out] at hy
          subst hy
          have dt : decide (x < (g.terms.length : Int)) = false := decide_eq_false ht
          go_upto_region 11 with (fail)
          refine pl_start ?_
          refine pp_ ?_ ?_ ?_
          refine pp_ ?_ ?_ ?_
          refine pp_ ?_ ?_ ?_ (y := by go_simp; refine if_neg ?_; omega)
          refine pp_ ?_ ?_ ?_ (y := by go_simp; refine if_neg ?_; omega)
          refine pp_ ?_ ?_ ?_
          refine pl_nil ?_
          go_wp2
          go_roundw
          case rel => exact ⟨m + 1, by omega, by go_num, by rw [HSC.out], HX8⟩
          case measure => simp [intOf]; omega
      · have dm : decide ((m : Int) < (rr.length : Int)) = false := decide_eq_false (by omega)
        have hE : rr.take m = rr := List.take_of_length_le (by omega)
        rw [hE]
        clear hE
        go_upto_region 5 with (fail)
        refine pl_start ?_
        refine pl_held (B := x1_1.heap.size) (v := x1_1) (HB.out) (fun hHeld => ?_)
        refine pp_ ?_ ?_ ?_
        refine pp_ ?_ ?_ ?_
        refine pp_ ?_ ?_ ?_ (y := by have d0 := (blk_cell (blk_below HP1.out hHeld) 0).trans rfl; have d1 := (blk_cell (blk_below HP1.out hHeld) 1).trans rfl; have d2 := (blk_cell (blk_below HP1.out hHeld) 2).trans rfl; have d0 := cell_at hHeld P01.out; have d1 := cell_at hHeld P11.out; go_simp; rfl)
        refine pp_ ?_ ?_ ?_
        refine pp_ ?_ ?_ ?_
        refine pp_ ?_ ?_ ?_
        refine pp_ ?_ ?_ ?_ (y := by have d0 := (blk_cell (blk_below HP1.out hHeld) 0).trans rfl; have d1 := (blk_cell (blk_below HP1.out hHeld) 1).trans rfl; have d2 := (blk_cell (blk_below HP1.out hHeld) 2).trans rfl; have d0 := cell_at hHeld P01.out; have d1 := cell_at hHeld P11.out; go_simp; rfl)
        refine pp_ ?_ ?_ ?_
        refine pp_ ?_ ?_ ?_
        refine pl_nil ?_
        have hL := blk_below HL1.out HB.out
        have HB2 := Aside0.mk (below_then HB0.out HB0.out.size (below_then HX1.out HX1.out.size HB.out))
        have e0 := blk_cell hL 0
        have e1 := blk_cell hL 1
        have f0 := blk_frozen hL 0
        have f1 := blk_frozen hL 1
        have HL := Aside0.mk hL
        simp only [List.getElem?_toArray, List.getElem?_cons_zero, List.getElem?_cons_succ] at e0 e1
        clear hHeld hL
        go_wp2
        exact bodyPost_ret (results_rule4 rfl (blk_set (blk_set HL.out 0 _) 1 _)) rfl ⟨rfl, below_set (below_set HB2.out n2 _ _) n2 _ _⟩

set_option maxRecDepth 100000 in
set_option maxHeartbeats 8000000 in
theorem textR_c (g : Gram) (A1 A2 A3 : Option Addr) (c1 c2 c3 : Nat) (w : World) (hg : RepG w g A1 A2 A3 c1 c2 c3) (hz : Sized g) {s : ByteArray} {x : Int} (ho : textO g = (s, x)) :
    Calls Try.prog 19 #[.agg #[.slice A1 g.terms.length c1, .slice A2 g.names.length c2, .slice A3 g.rules.length c3]] w fun e w' => e = .returned (.tuple #[.string s, .int .i64 x]) ∧ Below w.heap.size w w' := by
  obtain ⟨v0, hv0⟩ : ∃ v0 : World, v0 = w.alloc (.cells #[.slice A1 g.terms.length c1, .slice A2 g.names.length c2, .slice A3 g.rules.length c3] 25 (0, 0)) := ⟨_, rfl⟩
  have HB0 : Aside0 (Below w.heap.size w v0) := ⟨by rw [hv0]; exact below_alloc (Below.refl _ _) _⟩
  have HP0 : Aside0 (v0.heap[w.heap.size]? = some (.cells #[.slice A1 g.terms.length c1, .slice A2 g.names.length c2, .slice A3 g.rules.length c3] 25 (0, 0))) := ⟨by rw [hv0]; exact blk_new w _⟩
  have HG0 := Aside0.mk (hg.below_ HB0.out)
  have HZ := Aside0.mk hz
  have HO := Lib.hid ho
  obtain ⟨b, hb⟩ : ∃ b, goodF g = b := ⟨_, rfl⟩
  have HGD := Lib.hid hb
  clear hg hz ho hb
  go_enter Try.func19, Try.ntmps19
  go_upto_region 1 with (fail)
  simp only [← hv0]
  clear hv0
  refine pl_start ?_
  refine pl_held (B := v0.heap.size) (v := v0) (Below.refl _ _) (fun hHeld => ?_)
  refine pp_ ?_ ?_ ?_ (y := by have d0 := (blk_cell (blk_below HP0.out hHeld) 0).trans rfl; have d1 := (blk_cell (blk_below HP0.out hHeld) 1).trans rfl; have d2 := (blk_cell (blk_below HP0.out hHeld) 2).trans rfl; go_simp; rfl)
  refine goesCL_ (N := (some 7)) Try.func24 (by kernel_rfl) rfl (by rfl) rfl rfl (good1_v g A1 A2 A3 c1 c2 c3 _ (HG0.out.below_ hHeld) HZ.out HGD.out) (by simp [Act.eval]) ?_
  rintro e x1_1 ⟨rfl, hb1_1⟩
  refine ⟨_, rfl, ?_⟩
  simp only [Act.put, List.setIfInBounds_toArray, List.set_cons_zero, List.set_cons_succ]
  refine pl_held (B := v0.heap.size) (v := v0) (below_then hHeld hHeld.size hb1_1) (fun hHeld => ?_)
  refine pp_ ?_ ?_ ?_
  refine pl_nil ?_
  have HX1 := Aside0.mk hHeld
  cases b
  · have ho := HO.out
    rw [textO, HGD.out, if_neg (by decide)] at ho
    injection ho with e1 e2
    subst e1 e2
    go_wp2
    go_ret2
    exact ⟨rfl, below_then HB0.out HB0.out.size hHeld⟩
  · obtain ⟨q1, q2, q3, q4⟩ := goodF_small HGD.out
    go_wp2
    go_loopw [5, 4] (fun a t wr => ∃ k : Nat, k ≤ g.rules.length ∧ a = .int .i64 k ∧ t = .string (textS g ⟨#[]⟩ (g.rules.take k)) ∧ Aside0 (Below v0.heap.size v0 wr)) (fun a _ _ => g.rules.length - (intOf a).toNat)
    case atStart => exact ⟨0, Nat.zero_le _, rfl, rfl, HX1⟩
    case round =>
      clear HX1
      obtain ⟨k, hk, rfl, rfl, HB⟩ := hrel
      rename World => wi
      by_cases hlt : k < g.rules.length
      · have hsc := textS_succ (g := g) (acc := ⟨#[]⟩) hlt
        have hsz := textS_size HGD.out (g.rules.take k) (fun r hr => (good_left HGD.out (List.mem_of_mem_take hr)).2.1) ⟨#[]⟩
        have hls := lineF_size HGD.out (good_left HGD.out (List.getElem_mem hlt)).2.1
        have hro := ruleO_some HGD.out hlt
        obtain ⟨S, hS⟩ : ∃ S, textS g ⟨#[]⟩ (g.rules.take k) = S := ⟨_, rfl⟩
        obtain ⟨ln, hln⟩ : ∃ ln, lineF g (g.rules[k]'hlt) = ln := ⟨_, rfl⟩
        rw [hS, hln] at hsc
        rw [hS, List.length_take, show (⟨#[]⟩ : ByteArray).size = 0 from rfl] at hsz
        rw [hln] at hls hro
        rw [hS]
        have HSC := Lib.hid hsc
        have HRO := Lib.hid hro
        have hs3 : (ln ++ ⟨#[32, 59, 10]⟩ : ByteArray).size ≤ 203 := by rw [size_app, show (⟨#[32, 59, 10]⟩ : ByteArray).size = 3 from rfl]; omega
        have hs4 : S.size ≤ 20000 := by omega
        clear hsc hS hln hsz hro
        have dm : decide ((k : Int) < (g.rules.length : Int)) = true := decide_eq_true (by omega)
        go_upto_region 5 with (fail)
        refine pl_start ?_
        refine pl_held (B := v0.heap.size) (v := v0) (HB.out) (fun hHeld => ?_)
        refine pp_ ?_ ?_ ?_
        refine pp_ ?_ ?_ ?_
        refine pp_ ?_ ?_ ?_ (y := by have d0 := (blk_cell (blk_below HP0.out hHeld) 0).trans rfl; have d1 := (blk_cell (blk_below HP0.out hHeld) 1).trans rfl; have d2 := (blk_cell (blk_below HP0.out hHeld) 2).trans rfl; go_simp; rfl)
        refine pp_ ?_ ?_ ?_
        refine pp_ ?_ ?_ ?_
        refine pl_nil ?_
        go_upto_region 7 with (fail)
        refine pl_start ?_
        refine pl_held (B := v0.heap.size) (v := v0) (HB.out) (fun hHeld => ?_)
        refine pp_ ?_ ?_ ?_
        refine pp_ ?_ ?_ ?_ (y := by have d0 := (blk_cell (blk_below HP0.out hHeld) 0).trans rfl; have d1 := (blk_cell (blk_below HP0.out hHeld) 1).trans rfl; have d2 := (blk_cell (blk_below HP0.out hHeld) 2).trans rfl; go_simp; rfl)
        refine pp_ ?_ ?_ ?_
        refine goesCL_ (N := (some 19)) Try.func21 (by kernel_rfl) rfl (by rfl) rfl rfl (ruleR_c g A1 A2 A3 c1 c2 c3 (k : Int) _ (HG0.out.below_ hHeld) HZ.out HRO.out) (by simp [Act.eval]) ?_
        rintro e x7_3 ⟨rfl, hb7_3⟩
        refine ⟨_, rfl, ?_⟩
        simp only [Act.put, List.setIfInBounds_toArray, List.set_cons_zero, List.set_cons_succ]
        refine pl_held (B := v0.heap.size) (v := v0) (below_then hHeld hHeld.size hb7_3) (fun hHeld => ?_)
        refine pp_ (.string ln) ?_ ?_
        refine pp_ ?_ ?_ ?_ (y := by go_simp; refine if_neg ?_; omega)
        refine pp_ ?_ ?_ ?_ (y := by go_simp; refine if_neg ?_; omega)
        refine pp_ ?_ ?_ ?_
        refine pl_nil ?_
        have HX8 := Aside0.mk hHeld
        go_wp2
        go_roundw
        case rel => exact ⟨k + 1, by omega, by go_num, by rw [HSC.out], HX8⟩
        case measure => simp [intOf]; omega
      · have hE : g.rules.take k = g.rules := List.take_of_length_le (by omega)
        have hT : textS g ⟨#[]⟩ g.rules = textF g := rfl
        rw [hE, hT]
        clear hE hT
        have ho := HO.out
        rw [textO, HGD.out, if_pos rfl] at ho
        obtain ⟨S, hS⟩ : ∃ S, textF g = S := ⟨_, rfl⟩
        rw [hS] at ho ⊢
        clear hS
        have dm : decide ((k : Int) < (g.rules.length : Int)) = false := decide_eq_false (by omega)
        go_upto_region 5 with (fail)
        refine pl_start ?_
        refine pl_held (B := v0.heap.size) (v := v0) (HB.out) (fun hHeld => ?_)
        refine pp_ ?_ ?_ ?_
        refine pp_ ?_ ?_ ?_
        refine pp_ ?_ ?_ ?_ (y := by have d0 := (blk_cell (blk_below HP0.out hHeld) 0).trans rfl; have d1 := (blk_cell (blk_below HP0.out hHeld) 1).trans rfl; have d2 := (blk_cell (blk_below HP0.out hHeld) 2).trans rfl; go_simp; rfl)
        refine pp_ ?_ ?_ ?_
        refine pp_ ?_ ?_ ?_
        refine pl_nil ?_
        by_cases hbig : 2000 < S.size
        · rw [if_pos hbig] at ho
          injection ho with e1 e2
          subst e1 e2
          go_wp2
          go_ret2
          exact ⟨rfl, below_then HB0.out HB0.out.size HB.out⟩
        · rw [if_neg hbig] at ho
          injection ho with e1 e2
          subst e1 e2
          go_wp2
          go_ret2
          exact ⟨rfl, below_then HB0.out HB0.out.size HB.out⟩
end Go.Proofs.Ytdpdbgaoaibafaa

/- The wakes of law 04 answer true. -/
set_option linter.unusedVariables false
set_option linter.unusedSimpArgs false
namespace Go.Proofs.Ytdpdbgaoaibafaa
open Go.RowKit Go.Proofs.YtdpdbgaoaibafaaW.PrintWords Go.Proofs.YtdpdbgaoaibafaaW.PrintLast

def wake4S : ByteArray := ⟨#[83, 32, 61, 32, 39, 97, 39, 32, 83, 32, 124, 32, 59]⟩
def wake4G : Gram := ⟨[⟨#[97]⟩], [⟨#[83]⟩], [⟨1, [0, 1]⟩, ⟨1, []⟩]⟩
def zeroG : Gram := ⟨[], [], []⟩
theorem wake4_of : ofF wake4S = .ok wake4G := by kernel_rfl
theorem wake4_text : textO wake4G = (⟨#[83, 32, 61, 32, 39, 97, 39, 32, 83, 32, 59, 10, 83, 32, 61, 32, 59, 10]⟩, 0) := by kernel_rfl
theorem wake4_r0 : ruleO wake4G 0 = some ⟨#[83, 32, 61, 32, 39, 97, 39, 32, 83]⟩ := by kernel_rfl
theorem wake4_r2 : ruleO wake4G 2 = none := by kernel_rfl
theorem zero_text : textO zeroG = (⟨#[]⟩, 16) := by kernel_rfl
theorem zero_rep (w : World) : RepG w zeroG none none none 0 0 0 := ⟨C_none _ _, C_none _ _, C_none _ _, Nat.le_refl _, Nat.le_refl _, Nat.le_refl _⟩
theorem text_zero (w : World) : Calls Try.prog 18 #[.agg #[.slice none 0 0, .slice none 0 0, .slice none 0 0]] w fun e w' => e = .returned (.tuple #[.string ⟨#[]⟩, .int .i64 16]) ∧ Below w.heap.size w w' :=
  text_c zeroG none none none 0 0 0 w (zero_rep w) zero_text
set_option maxRecDepth 100000 in
set_option maxHeartbeats 8000000 in
theorem wakes04_c (w : World) : Calls Try.prog 16 #[] w fun e w' => e = .returned (.bool true) ∧ Below w.heap.size w w' := by
  obtain ⟨wg, hwg⟩ : ∃ g, g = wake4G := ⟨_, rfl⟩
  have HOF : Aside0 (ofF wake4S = .ok wg) := ⟨by rw [hwg]; exact wake4_of⟩
  have HT : Aside0 (textO wg = (⟨#[83, 32, 61, 32, 39, 97, 39, 32, 83, 32, 59, 10, 83, 32, 61, 32, 59, 10]⟩, 0)) := ⟨by rw [hwg]; exact wake4_text⟩
  have H0 : Aside0 (ruleO wg 0 = some ⟨#[83, 32, 61, 32, 39, 97, 39, 32, 83]⟩) := ⟨by rw [hwg]; exact wake4_r0⟩
  have H2 : Aside0 (ruleO wg 2 = none) := ⟨by rw [hwg]; exact wake4_r2⟩
  clear hwg
  go_enter Try.func16, Try.ntmps16
  go_upto_region 2 with (go_at_call 23; go_loud (refine (of_ok HOF.out w).mono ?_; rintro e w1 ⟨⟨A1, A2, A3, c1, c2, c3, rfl, hg1⟩, hb1⟩; have HB1 := Aside0.mk hb1; have HG1 := Aside0.mk hg1; clear hg1 hb1))
  obtain ⟨v, hv⟩ : ∃ v, v = (w1.alloc (.cells #[.slice A1 wg.terms.length c1, .slice A2 wg.names.length c2, .slice A3 wg.rules.length c3] 25 (0, 0))).alloc (.cells #[.int .i64 0, .int .i64 0] 42 (0, 0)) := ⟨_, rfl⟩
  have K1 : Aside0 (v.heap[w1.heap.size]? = some (.cells #[.slice A1 wg.terms.length c1, .slice A2 wg.names.length c2, .slice A3 wg.rules.length c3] 25 (0, 0))) := ⟨by rw [hv]; exact blk_alloc (blk_new w1 _) _⟩
  have K2 : Aside0 (v.heap[w1.heap.size + 1]? = some (.cells #[.int .i64 0, .int .i64 0] 42 (0, 0))) := ⟨by rw [hv]; exact blk_snd w1 _ _⟩
  have HG : Aside0 (RepG v wg A1 A2 A3 c1 c2 c3) := ⟨by rw [hv]; exact HG1.out.below_ (below_alloc (below_alloc (Below.refl _ _) _) _)⟩
  have HB : Aside0 (Below w.heap.size w v) := ⟨by rw [hv]; exact (HB1.out.alloc HB1.out.size _).alloc (by simp; have := HB1.out.size; omega) _⟩
  simp only [← hv]
  clear hv HG1 HB1
  refine pl_start ?_
  refine pl_held (B := v.heap.size) (v := v) (Below.refl _ _) (fun hHeld => ?_)
  refine pp_ ?_ ?_ ?_ (y := by have d0 := (blk_cell (blk_below K1.out hHeld) 0).trans rfl; have d1 := (blk_cell (blk_below K1.out hHeld) 1).trans rfl; have d2 := (blk_cell (blk_below K1.out hHeld) 2).trans rfl; go_simp; rfl)
  refine goesCL_ (N := (some 17)) Try.func18 (by kernel_rfl) rfl (by rfl) rfl rfl (text_c wg A1 A2 A3 c1 c2 c3 _ (HG.out.below_ hHeld) HT.out) (by simp [Act.eval]) ?_
  rintro e x2_1 ⟨rfl, hb2_1⟩
  refine ⟨_, rfl, ?_⟩
  simp only [Act.put, List.setIfInBounds_toArray, List.set_cons_zero, List.set_cons_succ]
  refine pl_held (B := v.heap.size) (v := v) (below_then hHeld hHeld.size hb2_1) (fun hHeld => ?_)
  refine pp_ ?_ ?_ ?_
  refine pp_ ?_ ?_ ?_
  refine pp_ ?_ ?_ ?_
  refine pp_ ?_ ?_ ?_
  refine pp_ ?_ ?_ ?_
  refine pl_nil ?_
  go_upto_region 3 with (fail)
  refine pl_start ?_
  refine pl_held (B := v.heap.size) (v := v) (hHeld) (fun hHeld => ?_)
  refine pp_ ?_ ?_ ?_ (y := by have d0 := (blk_cell (blk_below K1.out hHeld) 0).trans rfl; have d1 := (blk_cell (blk_below K1.out hHeld) 1).trans rfl; have d2 := (blk_cell (blk_below K1.out hHeld) 2).trans rfl; go_simp; rfl)
  refine goesCL_ (N := (some 22)) Try.func20 (by kernel_rfl) rfl (by rfl) rfl rfl (rule_c wg A1 A2 A3 c1 c2 c3 0 _ (HG.out.below_ hHeld) H0.out) (by simp [Act.eval]) ?_
  rintro e x3_1 ⟨rfl, hb3_1⟩
  refine ⟨_, rfl, ?_⟩
  simp only [Act.put, List.setIfInBounds_toArray, List.set_cons_zero, List.set_cons_succ]
  refine pl_held (B := v.heap.size) (v := v) (below_then hHeld hHeld.size hb3_1) (fun hHeld => ?_)
  refine pp_ ?_ ?_ ?_
  refine pp_ ?_ ?_ ?_
  refine pp_ ?_ ?_ ?_
  refine pp_ ?_ ?_ ?_
  refine pp_ ?_ ?_ ?_
  refine pl_nil ?_
  go_upto_region 4 with (fail)
  refine pl_start ?_
  refine pl_held (B := v.heap.size) (v := v) (hHeld) (fun hHeld => ?_)
  refine pp_ ?_ ?_ ?_ (y := by have d0 := (blk_cell (blk_below K1.out hHeld) 0).trans rfl; have d1 := (blk_cell (blk_below K1.out hHeld) 1).trans rfl; have d2 := (blk_cell (blk_below K1.out hHeld) 2).trans rfl; go_simp; rfl)
  refine goesCL_ (N := (some 27)) Try.func20 (by kernel_rfl) rfl (by rfl) rfl rfl (rule_c wg A1 A2 A3 c1 c2 c3 2 _ (HG.out.below_ hHeld) H2.out) (by simp [Act.eval]) ?_
  rintro e x4_1 ⟨rfl, hb4_1⟩
  refine ⟨_, rfl, ?_⟩
  simp only [Act.put, List.setIfInBounds_toArray, List.set_cons_zero, List.set_cons_succ]
  refine pl_held (B := v.heap.size) (v := v) (below_then hHeld hHeld.size hb4_1) (fun hHeld => ?_)
  refine pp_ ?_ ?_ ?_
  refine pp_ ?_ ?_ ?_
  refine pp_ ?_ ?_ ?_
  refine pp_ ?_ ?_ ?_
  refine pp_ ?_ ?_ ?_
  refine pl_nil ?_
  go_upto_region 5 with (fail)
  refine pl_start ?_
  refine pl_held (B := v.heap.size) (v := v) (hHeld) (fun hHeld => ?_)
  refine pp_ ?_ ?_ ?_
  refine goesCL_ (N := (some 32)) Try.func18 (by kernel_rfl) rfl (by rfl) rfl rfl (text_zero _) (by simp [Act.eval]) ?_
  rintro e x5_1 ⟨rfl, hb5_1⟩
  refine ⟨_, rfl, ?_⟩
  simp only [Act.put, List.setIfInBounds_toArray, List.set_cons_zero, List.set_cons_succ]
  refine pl_held (B := v.heap.size) (v := v) (below_then hHeld hHeld.size hb5_1) (fun hHeld => ?_)
  refine pp_ ?_ ?_ ?_
  refine pp_ ?_ ?_ ?_
  refine pp_ ?_ ?_ ?_
  refine pp_ ?_ ?_ ?_
  refine pp_ ?_ ?_ ?_
  refine pl_nil ?_
  go_upto_region 6 with (fail)
  have HB5 := Aside0.mk (below_then HB.out HB.out.size hHeld)
  refine pl_start ?_
  refine pp_ ?_ ?_ ?_
  refine pp_ ?_ ?_ ?_ (y := by have d0 := (blk_cell (blk_below K2.out hHeld) 0).trans rfl; have d1 := (blk_cell (blk_below K2.out hHeld) 1).trans rfl; go_simp; rfl)
  refine pp_ ?_ ?_ ?_
  refine pp_ ?_ ?_ ?_
  refine pp_ ?_ ?_ ?_
  refine pp_ ?_ ?_ ?_
  refine pp_ ?_ ?_ ?_
  refine pp_ ?_ ?_ ?_
  refine pp_ ?_ ?_ ?_
  refine pp_ ?_ ?_ ?_
  refine pp_ ?_ ?_ ?_
  refine pp_ ?_ ?_ ?_
  refine pp_ ?_ ?_ ?_
  refine pp_ ?_ ?_ ?_
  refine pp_ ?_ ?_ ?_
  refine pp_ ?_ ?_ ?_
  refine pp_ ?_ ?_ ?_
  refine pp_ ?_ ?_ ?_
  refine pp_ ?_ ?_ ?_
  refine pp_ ?_ ?_ ?_
  refine pp_ ?_ ?_ ?_
  refine pp_ ?_ ?_ ?_
  refine pp_ ?_ ?_ ?_
  refine pp_ ?_ ?_ ?_
  refine pp_ ?_ ?_ ?_
  refine pp_ ?_ ?_ ?_
  refine pp_ ?_ ?_ ?_
  refine pl_nil ?_
  go_wp2
  go_ret
  exact ⟨ret_bool rfl, HB5.out⟩
end Go.Proofs.Ytdpdbgaoaibafaa
