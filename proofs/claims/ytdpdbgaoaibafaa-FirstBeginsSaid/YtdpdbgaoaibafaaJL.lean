/- Texts K4, K5, K6, joined: contracts of functions of the program, and plain laws; each says what it proves. -/
import Derived.Test.YtdpdbgaoaibafaaJK
import Derived.Test.YtdpdbgaoaibafaaJN
/- The contracts of first's Sets and Of. -/
set_option linter.unusedVariables false
set_option linter.unusedSimpArgs false
namespace Go.Proofs.Ytdpdbgaoaibafaa
open Go.RowKit Go.Proofs.YtdpdbgaoaibafaaW.PrintWords Go.Proofs.YtdpdbgaoaibafaaW.PrintLast

abbrev kLL : Kd (List Int) := Kd.slice 3 kInt
theorem infoLL : (Try.prog.info? 46).map (fun i => (i.zero, i.size, i.bytes)) = some (some (.slice none 0 0), 1, 24) := by kernel_rfl
theorem M_ll {w : World} {base : Nat} {ok : Nat → Prop} {x : List Int} {u : Value} (h : kInt.R 3 w base ok u x) : kLL.M w base ok x [u] := ⟨u, rfl, h⟩
theorem app_ll {ops : Array Oper} {rest : List Oper} {o : Oper} {a : Act} {Q : Exit → Act → World → Prop} {w0 W : World} {base : Nat} {v u : Value} {s x : Operand} {xs : List (List Int)} {p : List Int} (hgd : o.guard = none) (ho : o.op = .call { callee := .builtin .append, args := #[s, x], argTypes := #[55, 55] })
    (HO : kLL.R 46 W base (fun _ => True) v xs) (HU : kInt.R 3 W base (fun q => some q ≠ v.ownBlock) u p) (HB : Below base w0 W) (hbase : base ≤ W.heap.size) (hl : xs.length + 1 ≤ 1000000000000) (hs : a.eval s = v) (hx : a.eval x = .slice (some ⟨W.heap.size, 0, none⟩) 1 1)
    (h : ∀ v1 w1, Appd kLL 46 w0 W base (fun _ => True) v (xs ++ [p]) v1 w1 → wpList Try.prog ops Q rest (a.put o.dst v1) w1) :
    wpList Try.prog ops Q (o :: rest) a (W.alloc (.cells #[u] 46)) :=
  Kd.R_append kLL base hgd s x 55 46 _ 24 ho Try.underlying55 infoLL rfl (by decide) (by decide) v xs p [u] (fun _ => True) (fun q => some q ≠ v.ownBlock) hs hx (M_ll HU) (fun _ h => ⟨trivial, h⟩) (fun _ _ => trivial) HO HB hbase (by omega) (fun v1 w1 h1 h2 h3 h4 => h v1 w1 ⟨h1, h2, h3, h4⟩)
def setsO (g : Gram) (L : List (List Int)) : List (List Int) := if goodF g = true then L else []
def SetsEnd (w : World) (L : List (List Int)) (e : Ending) (w' : World) : Prop := ∃ v, e = .returned v ∧ kLL.R 46 w' w.heap.size (fun _ => True) v L
theorem setsF_len (g : Gram) : (setsF g).length = nsym g := by simp [setsF, (firstF_sh g).1]
theorem setsF_take {g : Gram} {k : Nat} (h : k < nsym g) : (setsF g).take (k + 1) = (setsF g).take k ++ [membF (rowT (firstF g) (k : Int))] := by
  have h1 : k < (setsF g).length := by rw [setsF_len]; exact h
  have h2 : k < (firstF g).length := by rw [(firstF_sh g).1]; exact h
  rw [List.take_succ_eq_append_getElem h1, rowT_at h2]
  congr 2
  simp [setsF]
set_option maxRecDepth 100000 in
set_option maxHeartbeats 4000000 in
theorem sets_no (g : Gram) (A1 A2 A3 : Option Addr) (c1 c2 c3 : Nat) (w : World) (hg : RepG w g A1 A2 A3 c1 c2 c3) (hno : goodF g = false) :
    Calls Try.prog 31 #[.agg #[.slice A1 g.terms.length c1, .slice A2 g.names.length c2, .slice A3 g.rules.length c3]] w fun e w' => e = .returned (.slice none 0 0) ∧ Below w.heap.size w w' := by
  have HB := Aside0.mk ((Below.refl w.heap.size w).alloc (Nat.le_refl _) (.cells #[.slice A1 g.terms.length c1, .slice A2 g.names.length c2, .slice A3 g.rules.length c3] 25 (0, 0)))
  have HG := Aside0.mk (hg.below_ (below_alloc (Below.refl _ _) (.cells #[.slice A1 g.terms.length c1, .slice A2 g.names.length c2, .slice A3 g.rules.length c3] 25 (0, 0))))
  clear hg
  go_enter Try.func31, Try.ntmps31
  go_wp2_with (go_at_call 48; go_loud (refine (good_v g A1 A2 A3 c1 c2 c3 _ HG.out hno).mono ?_; rintro e w1 ⟨rfl, hb1⟩))
  go_ret
  exact ⟨rfl, below_then HB.out HB.out.size hb1⟩
set_option maxRecDepth 100000 in
set_option maxHeartbeats 4000000 in
theorem sets_yes (g : Gram) (A1 A2 A3 : Option Addr) (c1 c2 c3 : Nat) (w : World) (hg : RepG w g A1 A2 A3 c1 c2 c3) (hgd : goodF g = true) {n : Nat} (hn : nsym g = n) :
    Calls Try.prog 31 #[.agg #[.slice A1 g.terms.length c1, .slice A2 g.names.length c2, .slice A3 g.rules.length c3]] w fun e w' => SetsEnd w (setsF g) e w' ∧ Below w.heap.size w w' := by
  obtain ⟨q1, q2, q3, q4⟩ := goodF_small hgd
  have hn80 : n ≤ 80 := by rw [← hn]; unfold nsym; omega
  have HGD := Aside0.mk hgd
  have HN := Lib.hid hn
  obtain ⟨v0, hv0⟩ : ∃ v0 : World, v0 = w.alloc (.cells #[.slice A1 g.terms.length c1, .slice A2 g.names.length c2, .slice A3 g.rules.length c3] 25 (0, 0)) := ⟨_, rfl⟩
  have HB0 : Aside0 (Below w.heap.size w v0) := ⟨by rw [hv0]; exact below_alloc (Below.refl _ _) _⟩
  have HP0 : Aside0 (v0.heap[w.heap.size]? = some (.cells #[.slice A1 g.terms.length c1, .slice A2 g.names.length c2, .slice A3 g.rules.length c3] 25 (0, 0))) := ⟨by rw [hv0]; exact blk_new w _⟩
  have HG0 := Aside0.mk (hg.below_ HB0.out)
  clear hg hgd hn
  go_enter Try.func31, Try.ntmps31
  go_upto_region 1 with (fail)
  simp only [← hv0]
  clear hv0
  refine pl_start ?_
  refine pl_held (B := v0.heap.size) (v := v0) (Below.refl _ _) (fun hHeld => ?_)
  refine pp_ ?_ ?_ ?_ (y := by have d0 := (blk_cell (blk_below HP0.out hHeld) 0).trans rfl; have d1 := (blk_cell (blk_below HP0.out hHeld) 1).trans rfl; have d2 := (blk_cell (blk_below HP0.out hHeld) 2).trans rfl; go_simp; rfl)
  refine goesCL_ (N := (some 7)) Try.func48 (by kernel_rfl) rfl (by rfl) rfl rfl (good_v g A1 A2 A3 c1 c2 c3 _ (HG0.out.below_ hHeld) HGD.out) (by simp [Act.eval]) ?_
  rintro e x1_1 ⟨rfl, hb1_1⟩
  refine ⟨_, rfl, ?_⟩
  simp only [Act.put, List.setIfInBounds_toArray, List.set_cons_zero, List.set_cons_succ]
  refine pl_held (B := v0.heap.size) (v := v0) (below_then hHeld hHeld.size hb1_1) (fun hHeld => ?_)
  refine pp_ ?_ ?_ ?_
  refine pl_nil ?_
  have HX1 := Aside0.mk hHeld
  go_upto_region 4 with (fail)
  refine pl_start ?_
  refine pl_held (B := v0.heap.size) (v := v0) (HX1.out) (fun hHeld => ?_)
  refine pp_ ?_ ?_ ?_ (y := by have d0 := (blk_cell (blk_below HP0.out hHeld) 0).trans rfl; have d1 := (blk_cell (blk_below HP0.out hHeld) 1).trans rfl; have d2 := (blk_cell (blk_below HP0.out hHeld) 2).trans rfl; go_simp; rfl)
  refine goesCL_ (N := (some 10)) Try.func68 (by kernel_rfl) rfl (by rfl) rfl rfl (made_c g A1 A2 A3 c1 c2 c3 _ (HG0.out.below_ hHeld) HGD.out HN.out) (by simp [Act.eval]) ?_
  rintro e x4_1 ⟨⟨go, co, bs, bn, rfl, htt, hbl, hbn, hln⟩, hb4_1⟩
  refine ⟨_, rfl, ?_⟩
  simp only [Act.put, List.setIfInBounds_toArray, List.set_cons_zero, List.set_cons_succ]
  refine pl_held (B := v0.heap.size) (v := v0) (below_then hHeld hHeld.size hb4_1) (fun hHeld => ?_)
  refine pp_ (.slice (some ⟨go, 0, none⟩) n co) ?_ ?_
  refine pp_ ?_ ?_ ?_
  refine pp_ ?_ ?_ ?_
  refine pl_nil ?_
  have HTT := Aside0.mk htt
  have HBL := Aside0.mk hbl
  have HX4 := Aside0.mk hHeld
  have HV4 := Aside0.mk (below_then HB0.out HB0.out.size hHeld)
  clear htt hbl hbn hln hHeld hb4_1 hb1_1 HX1
  go_wp2
  go_loopw [13, 3] (fun i l wr => ∃ k : Nat, k ≤ n ∧ i = .int .i64 k ∧ Aside0 (kLL.R 46 wr x4_1.heap.size (fun _ => True) l ((setsF g).take k)) ∧ Aside0 (Below x4_1.heap.size x4_1 wr)) (fun i _ _ => n - (intOf i).toNat)
  case atStart => exact ⟨0, Nat.zero_le _, rfl, ⟨Kd.R_nil _ _ _ _ _⟩, ⟨Below.refl _ _⟩⟩
  case round =>
    obtain ⟨k, hk, rfl, HR, HB⟩ := hrel
    rename World => wi
    obtain ⟨Ar, cr, rfl⟩ := Kd.R_slice HR.out
    by_cases hlt : k < n
    · have hkb : k < bs.length := by rw [HBL.out]; exact hlt
      have HT := Lib.hid (setsF_take (g := g) (k := k) (by rw [HN.out]; exact hlt))
      have hpl : ((setsF g).take k).length ≤ 80 := by rw [List.length_take]; omega
      obtain ⟨P, hP⟩ : ∃ P, P = (setsF g).take k := ⟨_, rfl⟩
      rw [← hP] at HR HT hpl ⊢
      have HPL := Aside0.mk hpl
      clear hP hpl
      have HTi := Aside0.mk (HTT.out.below HB.out)
      have d1 := HTi.out.cell k hkb
      have HRW := Aside0.mk (HTi.out.row k hkb)
      have HRL := Aside0.mk (HTi.out.rlen hkb)
      obtain ⟨bk, hbk⟩ : ∃ bk, bk = bs[k]'hkb := ⟨_, rfl⟩
      rw [← hbk] at d1 HRW
      clear hbk hkb
      have i2 : (k : Int) < (n : Int) := by omega
      go_wp2_with (first | (have hx := HL1.out; at_builtin; go_loud (refine app_ll (w0 := x4_1) (base := x4_1.heap.size) (xs := P) (p := membF (rowT (firstF g) (k : Int))) rfl rfl HR1.out HL1.out HX5.out HX5.out.size (by have := HPL.out; omega) (by simp [Act.eval]) (by simp [Act.eval]) ?_; intro v2 w2 A2; obtain ⟨A', c', rfl⟩ := A2.shape; have HR2 := Aside0.mk A2.row; have HB2 := Aside0.mk A2.below; clear A2)) | (go_at_call 67; go_loud (refine (list_c bk g.terms.length _ _ HRW.out HRL.out (by omega)).mono ?_; rintro e w1 ⟨⟨v, rfl, hr⟩, hb1⟩; obtain ⟨Al, cl, rfl⟩ := Kd.R_slice hr; have HR1 := Aside0.mk (Kd.R_below HR.out hb1); have HL1 := Aside0.mk (Kd.R_mono (Kd.R_apartR (Kd.R_lower hr HB.out.size) HR1.out (by decide)) (fun _ h => h.2)); have HX5 := Aside0.mk (below_then HB.out HB.out.size hb1); clear hr hb1)))
      go_roundw
      case rel => exact ⟨k + 1, by omega, by go_num, by rw [HT.out]; exact HR2, HB2⟩
      case measure => simp [intOf]; omega
    · have hke : (setsF g).take k = setsF g := List.take_of_length_le (by rw [setsF_len, HN.out]; omega)
      rw [hke] at HR ⊢
      have HV := Aside0.mk (Kd.R_lower HR.out HV4.out.size)
      go_wp2
      go_ret
      exact ⟨⟨_, rfl, HV.out⟩, below_then HV4.out HV4.out.size HB.out⟩
end Go.Proofs.Ytdpdbgaoaibafaa

/- The contract of first's Of. -/
set_option linter.unusedVariables false
set_option linter.unusedSimpArgs false
namespace Go.Proofs.Ytdpdbgaoaibafaa
open Go.RowKit Go.Proofs.YtdpdbgaoaibafaaW.PrintWords Go.Proofs.YtdpdbgaoaibafaaW.PrintLast

def inF (g : Gram) (s : Int) : Bool := decide (0 ≤ s ∧ s < (nsym g : Int))
def okF (g : Gram) (l : List Int) : Bool := goodF g && l.all (inF g)
theorem name_isSome (g : Gram) (s : Int) : (nameF g s).isSome = inF g s := by
  rw [Bool.eq_iff_iff, inF, decide_eq_true_eq]
  unfold nameF nsym
  by_cases h0 : s < 0
  · rw [if_pos h0]; simp; omega
  · rw [if_neg h0]
    split
    · rw [List.getElem?_eq_getElem (by omega)]; simp; omega
    · by_cases h1 : s.toNat - g.terms.length < g.names.length
      · rw [List.getElem?_eq_getElem h1]; simp; omega
      · rw [List.getElem?_eq_none (by omega)]; simp; omega
theorem nameS_c (g : Gram) (A1 A2 A3 : Option Addr) (c1 c2 c3 : Nat) (sym : Int) (w : World) (hg : RepG w g A1 A2 A3 c1 c2 c3) (hsz : g.terms.length + g.names.length ≤ 4000000000000000) (hi : -9223372036854775808 ≤ sym ∧ sym ≤ 9223372036854775807) {s : ByteArray} (hs : nameF g sym = some s) :
    Calls Try.prog 25 #[.agg #[.slice A1 g.terms.length c1, .slice A2 g.names.length c2, .slice A3 g.rules.length c3], .int .i64 sym] w fun e w' => e = .returned (.tuple #[.string s, .bool true]) ∧ Below w.heap.size w w' := by
  have := name_c g A1 A2 A3 c1 c2 c3 sym w hg hsz hi
  rw [hs] at this
  exact this
theorem nameN_c (g : Gram) (A1 A2 A3 : Option Addr) (c1 c2 c3 : Nat) (sym : Int) (w : World) (hg : RepG w g A1 A2 A3 c1 c2 c3) (hsz : g.terms.length + g.names.length ≤ 4000000000000000) (hi : -9223372036854775808 ≤ sym ∧ sym ≤ 9223372036854775807) (hs : nameF g sym = none) :
    Calls Try.prog 25 #[.agg #[.slice A1 g.terms.length c1, .slice A2 g.names.length c2, .slice A3 g.rules.length c3], .int .i64 sym] w fun e w' => e = .returned (.tuple #[.string ⟨#[]⟩, .bool false]) ∧ Below w.heap.size w w' := by
  have := name_c g A1 A2 A3 c1 c2 c3 sym w hg hsz hi
  rw [hs] at this
  exact this
def OfFEnd (w : World) (L : List Int) (ok : Bool) (e : Ending) (w' : World) : Prop :=
  ∃ A c, e = .returned (.tuple #[.slice A (if ok = true then L else []).length c, .int .i64 (if ok = true then 0 else 1)]) ∧ kInt.R 3 w' w.heap.size (fun _ => True) (.slice A (if ok = true then L else []).length c) (if ok = true then L else [])
theorem OfFEnd.no (w w' : World) (L : List Int) : OfFEnd w L false (.returned (.tuple #[.slice none 0 0, .int .i64 1])) w' := ⟨none, 0, rfl, Kd.R_nil _ _ _ _ _⟩
set_option maxRecDepth 100000 in
set_option maxHeartbeats 4000000 in
theorem ofF_c (g : Gram) (A1 A2 A3 : Option Addr) (c1 c2 c3 : Nat) (B : Option Addr) (d : Nat) (l : List Int) (w : World) (hg : RepG w g A1 A2 A3 c1 c2 c3) (hs : kInt.C w B l.length l) (hb : ∀ x ∈ l, -9223372036854775808 ≤ x ∧ x ≤ 9223372036854775807) {ok : Bool} (hok : okF g l = ok) :
    Calls Try.prog 28 #[.agg #[.slice A1 g.terms.length c1, .slice A2 g.names.length c2, .slice A3 g.rules.length c3], .slice B l.length d] w fun e w' => OfFEnd w (membF (beginsF g l)) ok e w' ∧ Below w.heap.size w w' := by
  obtain ⟨v0, hv0⟩ : ∃ v0 : World, v0 = w.alloc (.cells #[.slice A1 g.terms.length c1, .slice A2 g.names.length c2, .slice A3 g.rules.length c3] 25 (0, 0)) := ⟨_, rfl⟩
  have HB0 : Aside0 (Below w.heap.size w v0) := ⟨by rw [hv0]; exact below_alloc (Below.refl _ _) _⟩
  have HP0 : Aside0 (v0.heap[w.heap.size]? = some (.cells #[.slice A1 g.terms.length c1, .slice A2 g.names.length c2, .slice A3 g.rules.length c3] 25 (0, 0))) := ⟨by rw [hv0]; exact blk_new w _⟩
  have HG0 := Aside0.mk (hg.below_ HB0.out)
  have HS0 := Aside0.mk (Kd.C_below hs HB0.out)
  have hlm := C_max hs
  have HBD := Aside0.mk hb
  have HOK := Lib.hid hok
  clear hg hs hb hok
  cases hgd : goodF g
  · have HE : Aside0 (ok = false) := ⟨by rw [← HOK.out, okF, hgd]; rfl⟩
    rw [HE.out]
    go_enter Try.func28, Try.ntmps28
    go_upto_region 1 with (fail)
    simp only [← hv0]
    clear hv0
    refine pl_start ?_
    refine pl_held (B := v0.heap.size) (v := v0) (Below.refl _ _) (fun hHeld => ?_)
    refine pp_ ?_ ?_ ?_ (y := by have d0 := (blk_cell (blk_below HP0.out hHeld) 0).trans rfl; have d1 := (blk_cell (blk_below HP0.out hHeld) 1).trans rfl; have d2 := (blk_cell (blk_below HP0.out hHeld) 2).trans rfl; go_simp; rfl)
    refine goesCL_ (N := (some 11)) Try.func48 (by kernel_rfl) rfl (by rfl) rfl rfl (good_v g A1 A2 A3 c1 c2 c3 _ (HG0.out.below_ hHeld) hgd) (by simp [Act.eval]) ?_
    rintro e x1_1 ⟨rfl, hb1_1⟩
    refine ⟨_, rfl, ?_⟩
    simp only [Act.put, List.setIfInBounds_toArray, List.set_cons_zero, List.set_cons_succ]
    refine pl_held (B := v0.heap.size) (v := v0) (below_then hHeld hHeld.size hb1_1) (fun hHeld => ?_)
    refine pp_ ?_ ?_ ?_
    refine pl_nil ?_
    go_wp2
    go_ret2
    exact ⟨OfFEnd.no _ _ _, below_then HB0.out HB0.out.size hHeld⟩
  obtain ⟨q1, q2, q3, q4⟩ := goodF_small hgd
  obtain ⟨n, hn⟩ : ∃ n, nsym g = n := ⟨_, rfl⟩
  have hn80 : n ≤ 80 := by rw [← hn]; unfold nsym; omega
  have HGD := Aside0.mk hgd
  have HN := Lib.hid hn
  clear hn
  go_enter Try.func28, Try.ntmps28
  go_upto_region 1 with (fail)
  simp only [← hv0]
  clear hv0
  refine pl_start ?_
  refine pl_held (B := v0.heap.size) (v := v0) (Below.refl _ _) (fun hHeld => ?_)
  refine pp_ ?_ ?_ ?_ (y := by have d0 := (blk_cell (blk_below HP0.out hHeld) 0).trans rfl; have d1 := (blk_cell (blk_below HP0.out hHeld) 1).trans rfl; have d2 := (blk_cell (blk_below HP0.out hHeld) 2).trans rfl; go_simp; rfl)
  refine goesCL_ (N := (some 11)) Try.func48 (by kernel_rfl) rfl (by rfl) rfl rfl (good_v g A1 A2 A3 c1 c2 c3 _ (HG0.out.below_ hHeld) HGD.out) (by simp [Act.eval]) ?_
  rintro e x1_1 ⟨rfl, hb1_1⟩
  refine ⟨_, rfl, ?_⟩
  simp only [Act.put, List.setIfInBounds_toArray, List.set_cons_zero, List.set_cons_succ]
  refine pl_held (B := v0.heap.size) (v := v0) (below_then hHeld hHeld.size hb1_1) (fun hHeld => ?_)
  refine pp_ ?_ ?_ ?_
  refine pl_nil ?_
  have HX1 := Aside0.mk hHeld
  clear hHeld hb1_1 hgd
  go_wp2
  go_loopw [15] (fun i wr => ∃ k : Nat, k ≤ l.length ∧ i = .int .i64 k ∧ Aside0 ((l.take k).all (inF g) = true) ∧ Aside0 (Below v0.heap.size v0 wr)) (fun i _ => l.length - (intOf i).toNat)
  case atStart => exact ⟨0, Nat.zero_le _, rfl, ⟨by simp⟩, HX1⟩
  case round =>
    clear HX1
    obtain ⟨k, hk, rfl, HA, HB⟩ := hrel
    rename World => wi
    by_cases hlt : k < l.length
    · obtain ⟨ad, ead, hy0⟩ := at_int HS0.out k hlt
      cases ead
      have hy := pw_cell_below HB.out hy0
      have HXB := Aside0.mk (HBD.out _ (List.getElem_mem hlt))
      have HTK := Lib.hid (List.take_succ_eq_append_getElem hlt)
      have HMEM := Aside0.mk (List.getElem_mem hlt)
      obtain ⟨x, hx⟩ : ∃ x, x = l[k]'hlt := ⟨_, rfl⟩
      rw [← hx] at hy HXB HTK HMEM
      clear hx hy0
      have i2 : (k : Int) < (l.length : Int) := by omega
      have HIS := Lib.hid (name_isSome g x)
      cases hnm : nameF g x with
      | none =>
        have HE : Aside0 (ok = false) := ⟨by
          have h1 := HIS.out
          rw [hnm] at h1
          rw [← HOK.out, okF, HGD.out, Bool.true_and, List.all_eq_false]
          exact ⟨x, HMEM.out, by rw [← h1]; simp⟩⟩
        have HNM := Lib.hid hnm
        clear hnm
        go_upto_region 6 with (fail)
        refine pl_start ?_
        refine pl_held (B := v0.heap.size) (v := v0) (HB.out) (fun hHeld => ?_)
        refine pp_ ?_ ?_ ?_ (y := by have d0 := (blk_cell (blk_below HP0.out hHeld) 0).trans rfl; have d1 := (blk_cell (blk_below HP0.out hHeld) 1).trans rfl; have d2 := (blk_cell (blk_below HP0.out hHeld) 2).trans rfl; go_simp; rfl)
        refine pp_ ?_ ?_ ?_
        refine goesCL_ (N := (some 22)) Try.func25 (by kernel_rfl) rfl (by rfl) rfl rfl (nameN_c g A1 A2 A3 c1 c2 c3 x _ (HG0.out.below_ hHeld) (by omega) HXB.out HNM.out) (by simp [Act.eval]) ?_
        rintro e x6_2 ⟨rfl, hb6_2⟩
        refine ⟨_, rfl, ?_⟩
        simp only [Act.put, List.setIfInBounds_toArray, List.set_cons_zero, List.set_cons_succ]
        refine pl_held (B := v0.heap.size) (v := v0) (below_then hHeld hHeld.size hb6_2) (fun hHeld => ?_)
        refine pp_ ?_ ?_ ?_
        refine pp_ ?_ ?_ ?_
        refine pp_ ?_ ?_ ?_
        refine pp_ ?_ ?_ ?_
        refine pp_ ?_ ?_ ?_
        refine pl_nil ?_
        go_wp2
        go_ret2
        rw [HE.out]
        exact ⟨OfFEnd.no _ _ _, below_then HB0.out HB0.out.size hHeld⟩
      | some s =>
        have HE : Aside0 ((l.take (k + 1)).all (inF g) = true) := ⟨by
          have h1 := HIS.out
          rw [hnm] at h1
          rw [HTK.out, List.all_append, HA.out]; simp [← h1]⟩
        have HNM := Lib.hid hnm
        clear hnm
        go_upto_region 6 with (fail)
        refine pl_start ?_
        refine pl_held (B := v0.heap.size) (v := v0) (HB.out) (fun hHeld => ?_)
        refine pp_ ?_ ?_ ?_ (y := by have d0 := (blk_cell (blk_below HP0.out hHeld) 0).trans rfl; have d1 := (blk_cell (blk_below HP0.out hHeld) 1).trans rfl; have d2 := (blk_cell (blk_below HP0.out hHeld) 2).trans rfl; go_simp; rfl)
        refine pp_ ?_ ?_ ?_
        refine goesCL_ (N := (some 22)) Try.func25 (by kernel_rfl) rfl (by rfl) rfl rfl (nameS_c g A1 A2 A3 c1 c2 c3 x _ (HG0.out.below_ hHeld) (by omega) HXB.out HNM.out) (by simp [Act.eval]) ?_
        rintro e x6_2 ⟨rfl, hb6_2⟩
        refine ⟨_, rfl, ?_⟩
        simp only [Act.put, List.setIfInBounds_toArray, List.set_cons_zero, List.set_cons_succ]
        refine pl_held (B := v0.heap.size) (v := v0) (below_then hHeld hHeld.size hb6_2) (fun hHeld => ?_)
        refine pp_ ?_ ?_ ?_
        refine pp_ ?_ ?_ ?_
        refine pp_ ?_ ?_ ?_
        refine pp_ ?_ ?_ ?_
        refine pp_ ?_ ?_ ?_
        refine pl_nil ?_
        have HX6 := Aside0.mk hHeld
        go_wp2
        go_roundw
        case rel => exact ⟨k + 1, by omega, by go_num, HE, HX6⟩
        case measure => simp [intOf]; omega
    · have HAL : Aside0 (l.all (inF g) = true) := ⟨by have := HA.out; rwa [List.take_of_length_le (by omega)] at this⟩
      have HE : Aside0 (ok = true) := ⟨by rw [← HOK.out, okF, HGD.out, HAL.out]; rfl⟩
      have HIN : Aside0 (∀ x ∈ l, 0 ≤ x ∧ x < (n : Int)) := ⟨fun x hx => by have := List.all_eq_true.1 HAL.out x hx; rw [inF, decide_eq_true_eq, HN.out] at this; exact this⟩
      have HFL : Aside0 ((beginsF g l).length = g.terms.length) := ⟨beginsF_len (fun x hx => by rw [HN.out]; exact HIN.out x hx)⟩
      have HNL : Aside0 ((nullF g).length = n) := ⟨by rw [nullF_len HGD.out, HN.out]⟩
      have HSL := Aside0.mk (Kd.C_below HS0.out HB.out)
      go_upto_region 10 with (fail)
      refine pl_start ?_
      refine pl_held (B := v0.heap.size) (v := v0) (HB.out) (fun hHeld => ?_)
      refine pp_ ?_ ?_ ?_ (y := by have d0 := (blk_cell (blk_below HP0.out hHeld) 0).trans rfl; have d1 := (blk_cell (blk_below HP0.out hHeld) 1).trans rfl; have d2 := (blk_cell (blk_below HP0.out hHeld) 2).trans rfl; go_simp; rfl)
      refine goesCL_ (N := (some 29)) Try.func68 (by kernel_rfl) rfl (by rfl) rfl rfl (made_c g A1 A2 A3 c1 c2 c3 _ (HG0.out.below_ hHeld) HGD.out HN.out) (by simp [Act.eval]) ?_
      rintro e x10_1 ⟨⟨go, co, bs, bn, rfl, htt, hbl, hbn, hln⟩, hb10_1⟩
      refine ⟨_, rfl, ?_⟩
      simp only [Act.put, List.setIfInBounds_toArray, List.set_cons_zero, List.set_cons_succ]
      have HTT := Aside0.mk htt
      have HBN := Aside0.mk hbn
      have HX10 := Aside0.mk hb10_1
      clear htt hbn
      refine pl_held (B := v0.heap.size) (v := v0) (below_then hHeld hHeld.size hb10_1) (fun hHeld => ?_)
      refine pp_ ?_ ?_ ?_
      refine goesCL_ (N := (some 31)) Try.func69 (by kernel_rfl) rfl (by rfl) rfl rfl (of1_c g.terms.length g.names.length g.rules.length n go co bn d A1 A2 A3 B c1 c2 c3 bs (firstF g) (nullF g) l _ _ HTT.out hbl HBN.out HNL.out (by omega) (by omega) (Kd.C_below HSL.out HX10.out) HIN.out) (by simp [Act.eval]) ?_
      rintro e x10_3 ⟨⟨bo, rfl, hbo, hbs⟩, hb10_3⟩
      refine ⟨_, rfl, ?_⟩
      simp only [Act.put, List.setIfInBounds_toArray, List.set_cons_zero, List.set_cons_succ]
      have HBO := Aside0.mk (show BB x10_3 bo (beginsF g l) from hbo)
      refine pl_held (B := v0.heap.size) (v := v0) (below_then hHeld hHeld.size hb10_3) (fun hHeld => ?_)
      refine goesCL_ (N := (some 32)) Try.func67 (by kernel_rfl) rfl (by rfl) rfl rfl (list_c bo g.terms.length (beginsF g l) _ HBO.out HFL.out (by omega)) (by simp [Act.eval]) ?_
      rintro e x10_4 ⟨⟨v, rfl, hr⟩, hb10_4⟩
      refine ⟨_, rfl, ?_⟩
      simp only [Act.put, List.setIfInBounds_toArray, List.set_cons_zero, List.set_cons_succ]
      obtain ⟨Al, cl, rfl⟩ := Kd.R_slice hr
      have HR := Aside0.mk hr
      have HW3 := Aside0.mk hHeld
      refine pl_held (B := v0.heap.size) (v := v0) (below_then hHeld hHeld.size hb10_4) (fun hHeld => ?_)
      refine pp_ ?_ ?_ ?_
      refine pp_ ?_ ?_ ?_
      refine pl_nil ?_
      go_wp2
      go_ret2
      have hv := Nat.le_trans HB0.out.size HW3.out.size
      refine ⟨?_, below_then HB0.out HB0.out.size hHeld⟩
      rw [HE.out]
      exact ⟨Al, cl, rfl, Kd.R_lower HR.out hv⟩
end Go.Proofs.Ytdpdbgaoaibafaa

/- The contract of the document's table of beginnings. -/
set_option linter.unusedVariables false
set_option linter.unusedSimpArgs false
namespace Go.Proofs.Ytdpdbgaoaibafaa
open Go.RowKit Go.Proofs.YtdpdbgaoaibafaaW.PrintWords Go.Proofs.YtdpdbgaoaibafaaW.PrintLast

/-! ### a table made at once, its rows laid into it -/
structure TQ (W : World) (lo g n m : Nat) (bs : List Nat) (M : Tab) : Prop where
  tt : TT W lo g bs m M
  blk : ∃ cs : Array Value, W.heap[g]? = some (.cells cs 60 (0, 0)) ∧ cs.size = n
section
variable {W W' : World} {lo g n m : Nat} {bs : List Nat} {M : Tab}
theorem TQ.below (h : TQ W lo g n m bs M) (hb : Below W.heap.size W W') : TQ W' lo g n m bs M :=
  ⟨h.tt.below hb, let ⟨cs, h1, h2⟩ := h.blk; ⟨cs, blk_below h1 hb, h2⟩⟩
theorem TQ.set (h : TQ W lo g n m bs M) {i : Nat} (hi : i < bs.length) (j : Nat) (v : Bool) : TQ (W.setCell ⟨bs[i], j, none⟩ (.bool v)) lo g n m bs (setRow M (i : Int) ((rowT M (i : Int)).set j v)) :=
  ⟨h.tt.set hi j v, let ⟨cs, h1, h2⟩ := h.blk; ⟨cs, blk_far h1 (fun e => h.tt.out (by have e' : g = bs[i] := e; rw [e']; exact List.getElem_mem hi)) _, h2⟩⟩
theorem TQ.free (h : TQ W lo g n m bs M) {i : Nat} (hi : i < n) : (∃ z, W.cell? ⟨g, i, none⟩ = some z) ∧ W.frozen? ⟨g, i, none⟩ = false := by
  obtain ⟨cs, h1, h2⟩ := h.blk
  exact ⟨⟨_, (blk_cell h1 i).trans (Array.getElem?_eq_getElem (by omega))⟩, blk_frozen h1 i⟩
theorem rows_new (v : World) (n m : Nat) : TQ (v.alloc (.cells (madeCells #[.slice none 0 0] n) 60)) v.heap.size v.heap.size n m [] (initT 0 m) :=
  ⟨⟨fun i hi => by simp at hi, fun i hi => by simp at hi, List.nodup_nil, by simp, ⟨rfl, fun r hr => by cases hr⟩, Nat.le_refl _, fun b hb => by cases hb⟩, ⟨_, blk_new v _, by simp [madeCells]⟩⟩
theorem TQ.grow (h : TQ W lo g n m bs M) {k : Nat} (hk : bs.length = k) (hn : k < n) (hl : lo ≤ W.heap.size) :
    TQ ((W.alloc (.cells (madeCells #[.bool false] m) 4)).setCell ⟨g, k, none⟩ (.slice (some ⟨W.heap.size, 0, none⟩) m m)) lo g n m (bs ++ [W.heap.size]) (M ++ [List.replicate m false]) := by
  subst hk
  obtain ⟨cs, h1, h2⟩ := h.blk
  have hb1 := below_alloc (Below.refl W.heap.size W) (.cells (madeCells #[.bool false] m) 4)
  have h3 := blk_below h1 hb1
  have hgl := blk_lt h1
  have hlt : ∀ b ∈ bs, b < W.heap.size := fun b hb => by
    obtain ⟨i, hi, rfl⟩ := List.getElem_of_mem hb
    exact blk_lt (h.tt.row i hi)
  have h4 := blk_set h3 bs.length (.slice (some ⟨W.heap.size, 0, none⟩) m m)
  refine ⟨⟨fun i hi => ?_, fun i hi => ?_, ?_, ?_, ⟨by simp [h.tt.sh.1], fun r hr => ?_⟩, h.tt.lo1, fun b hb => ?_⟩, ⟨_, h4, by simp [h2]⟩⟩
  · by_cases hib : i < bs.length
    · have h5 := pw_cell_below hb1 (h.tt.cell i hib)
      rw [blk_cell h3 i] at h5
      rw [blk_cell h4 i, Array.getElem?_setIfInBounds_ne (by omega), h5]
      simp [List.getElem_append_left hib]
    · have hie : i = bs.length := by simp at hi; omega
      subst hie
      rw [blk_cell h4 bs.length, Array.getElem?_setIfInBounds_self_of_lt (by omega)]
      simp
  · by_cases hib : i < bs.length
    · have hM : i < M.length := by rw [h.tt.sh.1]; exact hib
      have e : rowT (M ++ [List.replicate m false]) (i : Int) = rowT M (i : Int) := by
        rw [rowT_at (by simp; omega), rowT_at hM, List.getElem_append_left hM]
      rw [e]
      have hr := (h.tt.row i hib).below hb1
      have := blk_ne h3 hr (by decide)
      have h6 := BB.far hr (p := ⟨g, bs.length, none⟩) (Ne.symm this) (.slice (some ⟨W.heap.size, 0, none⟩) m m)
      simpa [List.getElem_append_left hib] using h6
    · have hie : i = bs.length := by simp at hi; omega
      subst hie
      have e : rowT (M ++ [List.replicate m false]) (bs.length : Int) = List.replicate m false := by
        rw [rowT_at (by simp [h.tt.sh.1]), List.getElem_append_right (by rw [h.tt.sh.1]; exact Nat.le_refl _)]
        simp
      rw [e]
      have h6 := BB.far (BB.new W m) (p := ⟨g, bs.length, none⟩) (by show W.heap.size ≠ g; omega) (.slice (some ⟨W.heap.size, 0, none⟩) m m)
      simpa using h6
  · refine List.nodup_append.2 ⟨h.tt.nodup, by simp, fun a ha b hb => ?_⟩
    have := hlt a ha
    have e := List.mem_singleton.1 hb
    omega
  · intro hb
    rcases List.mem_append.1 hb with hb | hb
    · exact h.tt.out hb
    · have e := List.mem_singleton.1 hb
      omega
  · rcases List.mem_append.1 hr with hr | hr
    · exact h.tt.sh.2 r hr
    · rw [List.mem_singleton.1 hr]; simp
  · rcases List.mem_append.1 hb with hb | hb
    · exact h.tt.lo2 b hb
    · rw [List.mem_singleton.1 hb]; exact hl
end
theorem ofR_n (g : Gram) (A1 A2 A3 : Option Addr) (c1 c2 c3 : Nat) (w : World) (hg : RepG w g A1 A2 A3 c1 c2 c3) (hz : Sized g) (hgd : goodF g = true) {n : Nat} (hn : nsym g = n) :
    Calls Try.prog 71 #[.agg #[.slice A1 g.terms.length c1, .slice A2 g.names.length c2, .slice A3 g.rules.length c3]] w fun e w' => (∃ b, e = .returned (.slice (some ⟨b, 0, none⟩) n n) ∧ BB w' b (nullF g) ∧ w.heap.size ≤ b) ∧ Below w.heap.size w w' := by
  have := ofR_yes g A1 A2 A3 c1 c2 c3 w hg hz hgd
  unfold OfNEnd at this
  rw [nullF_len hgd, hn] at this
  exact this
/-- A round under way: M0 at its beginning, M now, c: has something come? -/
structure RI (v W : World) (lo g : Nat) (gr : Gram) (bs : List Nat) (M0 M : Tab) (c : Bool) (C : Prop) : Prop where
  tt : TT W lo g bs gr.terms.length M
  pf : PF gr M
  below : Below lo v W
  le : cntT M0 + (if c = true then 1 else 0) ≤ cntT M
  same : c = false → M = M0 ∧ C
section
variable {v W W' : World} {lo g : Nat} {gr : Gram} {bs : List Nat} {M0 M : Tab} {c : Bool} {C C' : Prop}
theorem RI.below_ (h : RI v W lo g gr bs M0 M c C) (hb : Below W.heap.size W W') (hl : lo ≤ W.heap.size) : RI v W' lo g gr bs M0 M c C :=
  ⟨h.tt.below hb, h.pf, below_then h.below hl hb, h.le, h.same⟩
theorem RI.imp (h : RI v W lo g gr bs M0 M c C) (k : M = M0 → C → C') : RI v W lo g gr bs M0 M c C' := ⟨h.tt, h.pf, h.below, h.le, fun e => ⟨(h.same e).1, k (h.same e).1 (h.same e).2⟩⟩
/-- One cell more is set. -/
theorem RI.set (h : RI v W lo g gr bs M0 M c C) (hg : goodF gr = true) {x : Rule} (hx : x ∈ gr.rules) {lf : Nat} (hlf : x.left = (lf : Int)) (hl : lf < bs.length) {s : Int} {t : Nat} (hs : s ∈ heads (nullF gr) x.right) (ht : getT M s (t : Int) = true) (hn : getT M x.left (t : Int) = false) :
    RI v (W.setCell ⟨bs[lf], t, none⟩ (.bool true)) lo g gr bs M0 (setRow M x.left (setB (rowT M x.left) (t : Int))) true C' := by
  have h1 := h.tt.set hl t true
  have h2 := h.pf.setT hg hx hs ht
  rw [hlf] at h2 hn ⊢
  have htl : t < gr.terms.length := by have := (h.pf.sh.dom ht).2.2; omega
  have hM : lf < M.length := by have := h.tt.sh.1; omega
  refine ⟨by simpa [setB] using h1, h2, below_set h.below (h.tt.lo2 _ (List.getElem_mem hl)) _ _, ?_, fun e => by cases e⟩
  have h3 := cntT_set hM (setB (rowT M (lf : Int)) (t : Int))
  have h4 := cnt_set (m := rowT M (lf : Int)) (i := (t : Int)) (by omega) (by rw [h.tt.rlen hl]; omega) hn
  rw [rowT_at hM] at h3 h4 ⊢
  have h5 := h.le
  simp only [setRow, Int.toNat_natCast, if_true]
  split at h5 <;> omega
end
theorem heads_take {nu : List Bool} {l : List Int} {k : Nat} (h : allF nu (l.take k) = true) (hk : k < l.length) : heads nu l = l.take k ++ (l[k] :: (if getB nu l[k] = true then heads nu (l.drop (k + 1)) else [])) := by
  have e : l = l.take k ++ l.drop k := (List.take_append_drop k l).symm
  have e2 : l.drop k = l[k] :: l.drop (k + 1) := List.drop_eq_getElem_cons hk
  have hall : ∀ {m : List Int}, allF nu m = true → heads nu m = m := by
    intro m
    induction m with
    | nil => intro _; rfl
    | cons a m ih =>
      intro ha
      have ha' : getB nu a = true ∧ allF nu m = true := by simpa [allF] using ha
      rw [heads, if_pos ha'.1, ih ha'.2]
  conv => lhs; rw [e]
  rw [heads_append, if_pos h, hall h, e2, heads]
theorem heads_whole {nu : List Bool} {l : List Int} (h : allF nu l = true) : heads nu l = l := by
  induction l with
  | nil => rfl
  | cons a m ih =>
    have ha' : getB nu a = true ∧ allF nu m = true := by simpa [allF] using h
    rw [heads, if_pos ha'.1, ih ha'.2]
theorem heads_mem {nu : List Bool} {l : List Int} {k : Nat} (h : allF nu (l.take k) = true) (hk : k < l.length) : l[k] ∈ heads nu l := by
  rw [heads_take h hk]
  exact List.mem_append_right _ List.mem_cons_self
theorem heads_cut {nu : List Bool} {l : List Int} {k : Nat} (h : allF nu (l.take k) = true) (hk : k < l.length) (hn : getB nu l[k] = false) : heads nu l = l.take (k + 1) := by
  rw [heads_take h hk, if_neg (by rw [hn]; decide), List.take_succ_eq_append_getElem hk]
def ClR (g : Gram) (M : Tab) (l : List Rule) : Prop := ∀ x ∈ l, ∀ y ∈ heads (nullF g) x.right, ∀ t, getT M y t = true → getT M x.left t = true
def ClK (M : Tab) (lf : Int) (l : List Int) : Prop := ∀ y ∈ l, ∀ t, getT M y t = true → getT M lf t = true
def ClT (M : Tab) (lf y : Int) (k : Nat) : Prop := ∀ t : Nat, t < k → getT M y (t : Int) = true → getT M lf (t : Int) = true
theorem ClR.snoc {g : Gram} {M : Tab} {l : List Rule} {x : Rule} (h : ClR g M l) (k : ClK M x.left (heads (nullF g) x.right)) : ClR g M (l ++ [x]) := by
  intro y hy
  rcases List.mem_append.1 hy with hy | hy
  · exact h y hy
  · rw [List.mem_singleton.1 hy]; exact k
theorem ClK.snoc {M : Tab} {lf y : Int} {l : List Int} {n m : Nat} (hs : ShT n m M) (h : ClK M lf l) (k : ClT M lf y m) : ClK M lf (l ++ [y]) := by
  intro z hz
  rcases List.mem_append.1 hz with hz | hz
  · exact h z hz
  · rw [List.mem_singleton.1 hz]
    intro t ht
    have := (hs.dom ht).2
    obtain ⟨a, rfl⟩ := Int.eq_ofNat_of_zero_le this.1
    exact k a (by omega) ht
theorem ClT.next {M : Tab} {lf y : Int} {k : Nat} (h : ClT M lf y k) (hk : getT M y (k : Int) = true → getT M lf (k : Int) = true) : ClT M lf y (k + 1) := by
  intro t ht
  by_cases e : t = k
  · subst e; exact hk
  · exact h t (by omega)
theorem last_at {bs : List Nat} {b k : Nat} (h : bs.length = k) (hk : k < (bs ++ [b]).length) : (bs ++ [b])[k]'hk = b := by
  subst h
  simp
def TabEnd (w w' : World) (g : Gram) (n : Nat) (e : Ending) : Prop := ∃ go bs, e = .returned (.slice (some ⟨go, 0, none⟩) n n) ∧ TT w' w.heap.size go bs g.terms.length (firstF g) ∧ bs.length = n
set_option maxRecDepth 100000 in
set_option maxHeartbeats 8000000 in
theorem tableR_c (g : Gram) (A1 A2 A3 : Option Addr) (c1 c2 c3 : Nat) (w : World) (hg : RepG w g A1 A2 A3 c1 c2 c3) (hz : Sized g) (hgd : goodF g = true) {n : Nat} (hn : nsym g = n) :
    Calls Try.prog 70 #[.agg #[.slice A1 g.terms.length c1, .slice A2 g.names.length c2, .slice A3 g.rules.length c3]] w fun e w' => TabEnd w w' g n e ∧ Below w.heap.size w w' := by
  obtain ⟨q1, q2, q3, q4⟩ := goodF_small hgd
  have hn80 : n ≤ 80 := by rw [← hn]; unfold nsym; omega
  have HGD := Aside0.mk hgd
  have HZ := Aside0.mk hz
  have HN := Lib.hid hn
  obtain ⟨v0, hv0⟩ : ∃ v0 : World, v0 = w.alloc (.cells #[.slice A1 g.terms.length c1, .slice A2 g.names.length c2, .slice A3 g.rules.length c3] 25 (0, 0)) := ⟨_, rfl⟩
  have HB0 : Aside0 (Below w.heap.size w v0) := ⟨by rw [hv0]; exact below_alloc (Below.refl _ _) _⟩
  have HP0 : Aside0 (v0.heap[w.heap.size]? = some (.cells #[.slice A1 g.terms.length c1, .slice A2 g.names.length c2, .slice A3 g.rules.length c3] 25 (0, 0))) := ⟨by rw [hv0]; exact blk_new w _⟩
  have HG0 := Aside0.mk (hg.below_ HB0.out)
  have hmf := print_make_of (P := Try.prog) 60 4 (.bool false) 1 Try.underlying60 (by kernel_rfl) rfl (by decide) g.terms.length (by omega)
  have hmr := print_make_of (P := Try.prog) 101 60 (.slice none 0 0) 24 Try.underlying101 (by kernel_rfl) rfl (by decide) n (by omega)
  have e1 : IntKind.i64.wrap ((g.terms.length : Int) + (g.names.length : Int)) = (n : Int) := by rw [IntWalk.i64_in _ (by omega), ← hn]; unfold nsym; omega
  clear hg hgd hz hn
  go_enter Try.func70, Try.ntmps70
  go_upto_region 1 with (fail)
  simp only [← hv0]
  clear hv0
  have a1 := (blk_cell HP0.out 0).trans rfl
  have a2 := (blk_cell HP0.out 1).trans rfl
  go_upto_region 2 with (fail)
  clear a1 a2 e1
  refine pl_start ?_
  refine pl_held (B := v0.heap.size) (v := v0) (Below.refl _ _) (fun hHeld => ?_)
  refine pp_ ?_ ?_ ?_ (y := by have d0 := (blk_cell (blk_below HP0.out hHeld) 0).trans rfl; have d1 := (blk_cell (blk_below HP0.out hHeld) 1).trans rfl; have d2 := (blk_cell (blk_below HP0.out hHeld) 2).trans rfl; go_simp; rfl)
  refine goesCL_ (N := (some 20)) Try.func71 (by kernel_rfl) rfl (by rfl) rfl rfl (ofR_n g A1 A2 A3 c1 c2 c3 _ (HG0.out.below_ hHeld) HZ.out HGD.out HN.out) (by simp [Act.eval]) ?_
  rintro e x2_1 ⟨⟨bn, rfl, hbn, hln⟩, hb2_1⟩
  refine ⟨_, rfl, ?_⟩
  simp only [Act.put, List.setIfInBounds_toArray, List.set_cons_zero, List.set_cons_succ]
  refine pl_held (B := v0.heap.size) (v := v0) (below_then hHeld hHeld.size hb2_1) (fun hHeld => ?_)
  refine pp_ ?_ ?_ ?_
  refine pl_nil ?_
  have HNU := Aside0.mk hbn
  have HX2 := Aside0.mk hHeld
  have HP2 := Aside0.mk (blk_below HP0.out hHeld)
  have HG2 := Aside0.mk (HG0.out.below_ hHeld)
  have HTQ := Aside0.mk (rows_new x2_1 n g.terms.length)
  have HBQ := Aside0.mk (below_alloc (Below.refl x2_1.heap.size x2_1) (.cells (madeCells #[.slice none 0 0] n) 60))
  clear hbn hln hHeld hb2_1
  rename World => v2
  go_wp2
  clear hmr
  go_loopw [6] (fun i wr => ∃ (s : Nat) (bs : List Nat), s ≤ n ∧ i = .int .i64 s ∧ Aside0 (bs.length = s) ∧ Aside0 (TQ wr v2.heap.size v2.heap.size n g.terms.length bs (initT s g.terms.length)) ∧ Aside0 (Below v2.heap.size v2 wr)) (fun i _ => n - (intOf i).toNat)
  case atStart => exact ⟨0, _, Nat.zero_le _, rfl, ⟨rfl⟩, HTQ, HBQ⟩
  case round =>
    clear HTQ HBQ
    obtain ⟨s, bs, hs, rfl, HBL, HTQ, HBQ⟩ := hrel
    rename World => wi
    by_cases hlt : s < n
    · have KG := Aside0.mk (blk_below HP2.out HBQ.out)
      have a1 := (blk_cell (blk_below KG.out (below_alloc (Below.refl _ _) (.cells (madeCells #[.bool false] g.terms.length) 4))) 0).trans rfl
      have a0 := (blk_cell KG.out 0).trans rfl
      obtain ⟨⟨z, hz⟩, fz⟩ := (HTQ.out.below (below_alloc (Below.refl wi.heap.size wi) (.cells (madeCells #[.bool false] g.terms.length) 4))).free hlt
      have HTG := Aside0.mk (HTQ.out.grow HBL.out hlt HBQ.out.size)
      have HBG := Aside0.mk (below_set (HBQ.out.alloc HBQ.out.size (.cells (madeCells #[.bool false] g.terms.length) 4)) (Nat.le_refl _) s (.slice (some ⟨wi.heap.size, 0, none⟩) g.terms.length g.terms.length))
      have i2 : (s : Int) < (n : Int) := by omega
      go_upto_region 8 with (fail)
      generalize (wi.alloc (.cells (madeCells #[.bool false] g.terms.length) 4)).setCell ⟨v2.heap.size, s, none⟩ (.slice (some ⟨wi.heap.size, 0, none⟩) g.terms.length g.terms.length) = W5 at HTG HBG ⊢
      clear a0 a1 hz fz HTQ HBQ KG
      have a0 := (blk_cell (blk_below HP2.out HBG.out) 0).trans rfl
      by_cases hst : s < g.terms.length
      · have hkl : s < (bs ++ [wi.heap.size]).length := by have := HBL.out; simp; omega
        have d1 := HTG.out.tt.cell s hkl
        have hrow := HTG.out.tt.row s hkl
        have HPT := Aside0.mk (HTG.out.set hkl s true)
        have HLE := HTG.out.tt.lo2 _ (List.getElem_mem hkl)
        rw [initT_put hst, last_at HBL.out] at HPT
        rw [last_at HBL.out] at d1 hrow HLE
        have HBP := Aside0.mk (below_set HBG.out HLE s (.bool true))
        obtain ⟨z, hz⟩ : ∃ z, W5.cell? ⟨wi.heap.size, s, none⟩ = some (.bool z) := ⟨_, hrow.cell (by rw [HTG.out.tt.rlen hkl]; exact hst)⟩
        have fz := hrow.fz s
        have i3 : (s : Int) < (g.terms.length : Int) := by omega
        clear hrow HLE hkl
        go_wp2
        go_roundw
        case rel => exact ⟨s + 1, _, by omega, by go_num, ⟨by have := HBL.out; simp; omega⟩, HPT, HBP⟩
        case measure => simp [intOf]; omega
      · have HMN : Aside0 (initT s g.terms.length ++ [List.replicate g.terms.length false] = initT (s + 1) g.terms.length) := ⟨initT_no (by omega)⟩
        have i3 : ¬ (s : Int) < (g.terms.length : Int) := by omega
        rw [HMN.out] at HTG
        go_wp2
        go_roundw
        case rel => exact ⟨s + 1, _, by omega, by go_num, ⟨by have := HBL.out; simp; omega⟩, HTG, HBG⟩
        case measure => simp [intOf]; omega
    · obtain rfl : n = s := by omega
      have HT0 := Aside0.mk HTQ.out.tt
      have HPF0 : Aside0 (PF g (initT n g.terms.length)) := ⟨by have := PF.start (g := g); rwa [HN.out] at this⟩
      clear HTQ hlt hs
      go_wp2
      go_loopw [7] (fun cv wr => ∃ (M : Tab) (c : Bool), cv = .bool c ∧ Aside0 (TT wr v2.heap.size v2.heap.size bs g.terms.length M) ∧ Aside0 (PF g M) ∧ Aside0 (Below v2.heap.size v2 wr) ∧ Aside0 (c = false → ClR g M g.rules)) (fun cv wr => 2 * (n * g.terms.length - cntVs wr bs) + (if isTV cv = true then 1 else 0))
      case atStart => exact ⟨_, true, rfl, HT0, HPF0, HBQ, ⟨fun h => by cases h⟩⟩
      case round =>
        clear HT0 HPF0 HBQ
        obtain ⟨M, c, rfl, HT, HPF, HB, HCL⟩ := hrel
        rename World => wo
        cases c
        · have HFM : Aside0 (M = firstF g) := ⟨PF.fin HPF.out (HCL.out rfl)⟩
          have HV2 := Aside0.mk (below_then HB0.out HB0.out.size HX2.out)
          go_wp2
          go_ret
          exact ⟨⟨_, bs, rfl, by rw [← HFM.out]; exact HT.out.lower HV2.out.size, HBL.out⟩, below_then HV2.out HV2.out.size HB.out⟩
        · have HR0 : Aside0 (RI v2 wo v2.heap.size v2.heap.size g bs M M false (ClR g M (g.rules.take 0))) := ⟨⟨HT.out, HPF.out, HB.out, by simp, fun _ => ⟨rfl, fun x hx => by simp at hx⟩⟩⟩
          have HMO : Aside0 (cntVs wo bs = cntT M) := ⟨HT.out.cntVs⟩
          clear HCL
          go_wp2
          go_loopw [8, 7] (fun iv cv wr => ∃ (j : Nat) (M' : Tab) (c : Bool), j ≤ g.rules.length ∧ iv = .int .i64 j ∧ cv = .bool c ∧ Aside0 (RI v2 wr v2.heap.size v2.heap.size g bs M M' c (ClR g M (g.rules.take j)))) (fun iv _ _ => g.rules.length - (intOf iv).toNat)
          case atStart => exact ⟨0, M, false, Nat.zero_le _, rfl, rfl, HR0⟩
          case round =>
            clear HR0 HT HPF HB
            obtain ⟨j, M', c, hj, rfl, rfl, HR⟩ := hrel
            rename World => wi2
            by_cases hjl : j < g.rules.length
            · have KG := Aside0.mk (blk_below HP2.out HR.out.below)
              have a2 := (blk_cell KG.out 2).trans rfl
              obtain ⟨ad, B1, d1, ead, hx0, hy0, hd1, hC1⟩ := at_rule HG2.out.rules j hjl
              cases ead
              have hx := pw_cell_below HR.out.below hx0
              have hy := pw_cell_below HR.out.below hy0
              clear hx0 hy0
              have hmem := goodF_mem HGD.out (g.rules[j]'hjl) (List.getElem_mem _)
              have HTK := Lib.hid (List.take_succ_eq_append_getElem hjl)
              have HXM := Aside0.mk (List.getElem_mem hjl)
              obtain ⟨x, hx1⟩ : ∃ x, x = g.rules[j]'hjl := ⟨_, rfl⟩
              rw [← hx1] at hx hy hd1 hC1 hmem HTK HXM
              clear hx1
              obtain ⟨lf, hlf⟩ := Int.eq_ofNat_of_zero_le (by omega : 0 ≤ x.left)
              have l3 : lf < n := by have := hmem.2.1; rw [HN.out] at this; omega
              have i3 : (lf : Int) < (n : Int) := by omega
              have hlb : lf < bs.length := by have := HBL.out; omega
              have HLF := Lib.hid hlf
              have HLB := Aside0.mk hlb
              have HXS : Aside0 (∀ y ∈ x.right, 0 ≤ y ∧ y < (n : Int)) := ⟨fun y hy => by have := hmem.2.2.2 y hy; rw [HN.out] at this; exact this⟩
              rw [hlf] at hx
              have i1 : (0 : Int) ≤ (j : Int) := by omega
              have i2 : (j : Int) < (g.rules.length : Int) := by omega
              have HC2 := Aside0.mk hC1
              have KB := Aside0.mk (blk_new wi2 (.cells #[.int .i64 lf, .slice B1 x.right.length d1] 48 (0, 0)))
              have HR1 : Aside0 (RI v2 (wi2.alloc (.cells #[.int .i64 lf, .slice B1 x.right.length d1] 48 (0, 0))) v2.heap.size v2.heap.size g bs M M' c (ClR g M (g.rules.take j) ∧ ClK M x.left (x.right.take 0))) := ⟨(HR.out.below_ (below_alloc (Below.refl _ _) _) HR.out.below.size).imp (fun _ h => ⟨h, fun y hy => by simp at hy⟩)⟩
              obtain ⟨q, hq⟩ : ∃ q, q = wi2.heap.size := ⟨_, rfl⟩
              have hr8 := hmem.2.2.1
              clear hmem hd1 hC1 hlf
              go_upto_region 17 with (fail)
              generalize wi2.alloc (.cells #[.int .i64 lf, .slice B1 x.right.length d1] 48 (0, 0)) = W5 at KB HR1 ⊢
              rw [← hq] at KB ⊢
              clear hq hx hy a2 KG HR
              go_wp2
              go_loopw [10, 7] (fun kv cv wr => ∃ (k : Nat) (M' : Tab) (c : Bool), k ≤ x.right.length ∧ kv = .int .i64 k ∧ cv = .bool c ∧ Aside0 (allF (nullF g) (x.right.take k) = true) ∧ Aside0 (wr.heap[q]? = some (.cells #[.int .i64 lf, .slice B1 x.right.length d1] 48 (0, 0))) ∧ Aside0 (RI v2 wr v2.heap.size v2.heap.size g bs M M' c (ClR g M (g.rules.take j) ∧ ClK M x.left (x.right.take k)))) (fun kv _ _ => x.right.length - (intOf kv).toNat)
              case atStart => exact ⟨0, M', c, Nat.zero_le _, rfl, rfl, ⟨by simp [allF]⟩, KB, HR1⟩
              case round =>
                clear KB HR1
                obtain ⟨k, M', c, hk, rfl, rfl, HAL, KB, HR⟩ := hrel
                rename World => wk
                by_cases hkl : k < x.right.length
                · obtain ⟨ar, ear, hy0⟩ := at_int HC2.out k hkl
                  cases ear
                  have hin := HXS.out _ (List.getElem_mem hkl)
                  have HHM := Aside0.mk (heads_mem HAL.out hkl)
                  have HTR := Lib.hid (List.take_succ_eq_append_getElem hkl)
                  have HCT := Aside0.mk (fun hn => heads_cut HAL.out hkl hn)
                  have HAT := Lib.hid (allF_take (m := nullF g) hkl)
                  obtain ⟨y, hy1⟩ : ∃ y, y = x.right[k]'hkl := ⟨_, rfl⟩
                  rw [← hy1] at hy0 hin HHM HTR HCT HAT
                  clear hy1
                  obtain ⟨ys, rfl⟩ := Int.eq_ofNat_of_zero_le hin.1
                  have hyn : ys < n := by omega
                  have hyb : ys < bs.length := by have := HBL.out; omega
                  have HYB := Aside0.mk hyb
                  have i4 : (ys : Int) < (n : Int) := by omega
                  have i5 : (k : Int) < (x.right.length : Int) := by omega
                  have HY0 := Aside0.mk hy0
                  have HR2 : Aside0 (RI v2 wk v2.heap.size v2.heap.size g bs M M' c ((ClR g M (g.rules.take j) ∧ ClK M x.left (x.right.take k)) ∧ ClT M x.left (ys : Int) 0)) := ⟨HR.out.imp (fun _ h => ⟨h, fun t ht => by omega⟩)⟩
                  clear hin hy0 HR
                  have b1 := (blk_cell KB.out 1).trans rfl
                  go_wp2
                  clear b1
                  go_loopw [11, 7] (fun tv cv wr => ∃ (t : Nat) (M' : Tab) (c : Bool), t ≤ g.terms.length ∧ tv = .int .i64 t ∧ cv = .bool c ∧ Aside0 (wr.heap[q]? = some (.cells #[.int .i64 lf, .slice (some ar) x.right.length d1] 48 (0, 0))) ∧ Aside0 (RI v2 wr v2.heap.size v2.heap.size g bs M M' c ((ClR g M (g.rules.take j) ∧ ClK M x.left (x.right.take k)) ∧ ClT M x.left (ys : Int) t))) (fun tv _ _ => g.terms.length - (intOf tv).toNat)
                  case atStart => exact ⟨0, M', c, Nat.zero_le _, rfl, rfl, KB, HR2⟩
                  case round =>
                    clear KB HR2
                    obtain ⟨t, M', c, ht, rfl, rfl, KB, HR⟩ := hrel
                    rename World => wt
                    have a0 := (blk_cell (blk_below HP2.out HR.out.below) 0).trans rfl
                    by_cases htl : t < g.terms.length
                    · have i6 : (t : Int) < (g.terms.length : Int) := by omega
                      have b0 := (blk_cell KB.out 0).trans rfl
                      have b1 := (blk_cell KB.out 1).trans rfl
                      have hy := pw_cell_below HR.out.below HY0.out
                      have d1 := HR.out.tt.cell ys HYB.out
                      have d2 := HR.out.tt.cell lf HLB.out
                      have HRX := Aside0.mk (HR.out.tt.row ys HYB.out)
                      have HRL := Aside0.mk (HR.out.tt.row lf HLB.out)
                      have HLX := Aside0.mk (HR.out.tt.rlen HYB.out)
                      have HLL := Aside0.mk (HR.out.tt.rlen HLB.out)
                      have HSET := Aside0.mk (fun h1 h2 => HR.out.set (C' := (ClR g M (g.rules.take j) ∧ ClK M x.left (x.right.take k)) ∧ ClT M x.left (ys : Int) (t + 1)) HGD.out HXM.out HLF.out HLB.out (t := t) HHM.out h1 h2)
                      have HKB := Aside0.mk (fun (z : Nat) (hz : z ∈ bs) (u : Value) => blk_far KB.out (p := ⟨z, t, none⟩) (by obtain ⟨i, hi, e⟩ := List.getElem_of_mem hz; rw [← e]; exact blk_ne KB.out (HR.out.tt.row i hi) (by decide)) u)
                      have HLM := Aside0.mk (List.getElem_mem HLB.out)
                      obtain ⟨bx, hbx⟩ : ∃ bx, bx = bs[ys]'HYB.out := ⟨_, rfl⟩
                      obtain ⟨bl, hbl⟩ : ∃ bl, bl = bs[lf]'HLB.out := ⟨_, rfl⟩
                      rw [← hbx] at d1 HRX
                      rw [← hbl] at d2 HRL HSET HLM
                      clear hbx hbl
                      obtain ⟨gx, hgx⟩ : ∃ c, getB (rowT M' (ys : Int)) (t : Int) = c := ⟨_, rfl⟩
                      obtain ⟨gl, hgl⟩ : ∃ c, getB (rowT M' (lf : Int)) (t : Int) = c := ⟨_, rfl⟩
                      have z1 := HRX.out.cell' (i := t) (by rw [HLX.out]; exact htl) hgx
                      have z2 := HRL.out.cell' (i := t) (by rw [HLL.out]; exact htl) hgl
                      have fz := HRL.out.fz t
                      have HGX : Aside0 (getT M' (ys : Int) (t : Int) = gx) := ⟨hgx⟩
                      have HGL : Aside0 (getT M' x.left (t : Int) = gl) := ⟨by rw [HLF.out]; exact hgl⟩
                      clear hgx hgl
                      cases gx
                      · have HR3 := Aside0.mk (HR.out.imp (C' := (ClR g M (g.rules.take j) ∧ ClK M x.left (x.right.take k)) ∧ ClT M x.left (ys : Int) (t + 1)) (fun e h => ⟨h.1, h.2.next (fun h2 => by rw [← e, HGX.out] at h2; cases h2)⟩))
                        go_wp2
                        go_roundw
                        case rel => exact ⟨t + 1, M', c, by omega, by go_num, rfl, KB, HR3⟩
                        case measure => simp [intOf]; omega
                      · cases gl
                        · have HR3 := Aside0.mk (HSET.out HGX.out HGL.out)
                          have KB3 := Aside0.mk (HKB.out bl HLM.out (.bool true))
                          go_wp2
                          go_roundw
                          case rel => exact ⟨t + 1, _, true, by omega, by go_num, rfl, KB3, HR3⟩
                          case measure => simp [intOf]; omega
                        · have HR3 := Aside0.mk (HR.out.imp (C' := (ClR g M (g.rules.take j) ∧ ClK M x.left (x.right.take k)) ∧ ClT M x.left (ys : Int) (t + 1)) (fun e h => ⟨h.1, h.2.next (fun _ => by rw [← e]; exact HGL.out)⟩))
                          go_wp2
                          go_roundw
                          case rel => exact ⟨t + 1, M', c, by omega, by go_num, rfl, KB, HR3⟩
                          case measure => simp [intOf]; omega
                    · have hte : t = g.terms.length := by omega
                      have HR3 := Aside0.mk (HR.out.imp (C' := ClR g M (g.rules.take j) ∧ ClK M x.left (x.right.take (k + 1))) (fun e h => ⟨h.1.1, by rw [HTR.out]; exact h.1.2.snoc (by rw [← e]; exact HR.out.pf.sh) (by rw [← hte]; exact h.2)⟩))
                      have HNB := Aside0.mk (HNU.out.below HR.out.below)
                      obtain ⟨vb, hvb⟩ : ∃ c, getB (nullF g) (ys : Int) = c := ⟨_, rfl⟩
                      have z4 := HNB.out.cell' (i := ys) (by rw [nullF_len HGD.out, HN.out]; exact hyn) hvb
                      have b1 := (blk_cell KB.out 1).trans rfl
                      have hy := pw_cell_below HR.out.below HY0.out
                      have HVB := Lib.hid hvb
                      clear hvb
                      cases vb
                      · have HR4 := Aside0.mk (HR3.out.imp (C' := ClR g M (g.rules.take (j + 1))) (fun e h => by rw [HTK.out]; exact h.1.snoc (by rw [HCT.out HVB.out]; exact h.2)))
                        go_wp2
                        go_roundw
                        case rel => exact ⟨j + 1, M', c, by omega, by go_num, rfl, HR4⟩
                        case measure => simp [intOf]; omega
                      · have HAL2 : Aside0 (allF (nullF g) (x.right.take (k + 1)) = true) := ⟨by rw [HAT.out, HAL.out, HVB.out]; rfl⟩
                        go_wp2
                        go_roundw
                        case rel => exact ⟨k + 1, M', c, by omega, by go_num, rfl, HAL2, KB, HR3⟩
                        case measure => simp [intOf]; omega
                · have hke : x.right.take k = x.right := List.take_of_length_le (by omega)
                  have HR4 := Aside0.mk (HR.out.imp (C' := ClR g M (g.rules.take (j + 1))) (fun e h => by rw [HTK.out]; exact h.1.snoc (by have h2 := HAL.out; rw [hke] at h2; rw [heads_whole h2, ← hke]; exact h.2)))
                  have b1 := (blk_cell KB.out 1).trans rfl
                  clear hke
                  go_wp2
                  go_roundw
                  case rel => exact ⟨j + 1, M', c, by omega, by go_num, rfl, HR4⟩
                  case measure => simp [intOf]; omega
            · have hje : g.rules.take j = g.rules := List.take_of_length_le (by omega)
              have a2 := (blk_cell (blk_below HP2.out HR.out.below) 2).trans rfl
              have HC2 : Aside0 (c = false → ClR g M' g.rules) := ⟨fun h => by obtain ⟨e, k⟩ := HR.out.same h; rw [hje] at k; rw [e]; exact k⟩
              have hmeas : 2 * (n * g.terms.length - cntVs wi2 bs) + (if isTV (.bool c) = true then 1 else 0) < 2 * (n * g.terms.length - cntVs wo bs) + (if isTV (.bool true) = true then 1 else 0) := by
                have e1 := HMO.out
                have e2 := HR.out.tt.cntVs
                have e3 := cntT_le HR.out.tt.sh
                have e4 := HR.out.le
                rw [HBL.out] at e3
                cases c <;> simp [isTV] at e4 ⊢ <;> omega
              have HM9 := Aside0.mk hmeas
              have HTT9 := Aside0.mk HR.out.tt
              have HPF9 := Aside0.mk HR.out.pf
              have HBB9 := Aside0.mk HR.out.below
              clear hmeas hje
              go_wp2
              go_roundw
              case rel => exact ⟨M', c, rfl, HTT9, HPF9, HBB9, HC2⟩
              case measure => exact HM9.out
end Go.Proofs.Ytdpdbgaoaibafaa
