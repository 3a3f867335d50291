/- Texts U1, U2, U3, U4, U5, U6, U7, P12, V0, joined: contracts of functions of the program, and plain laws; each says what it proves. -/
import Derived.Test.YtmkgcjhimajgiaaJB
import Derived.Conc.SmallLaws
import Derived.Test.YtmkgcjhimajgiaaJC
import Derived.Test.YtmkgcjhimajgiaaJA
import Derived.Test.YtmkgcjhimajgiaaJD
import Derived.Deep.Cut
import Derived.Test.YtmkgcjhimajgiaaJE
/- Rows of truth values in memory; the contracts of the questions whether all symbols of a row are so. -/
set_option linter.unusedVariables false
set_option linter.unusedSimpArgs false
namespace Go.Proofs.Ytmkgcjhimajgiaa
open Go.RowKit Go.Proofs.YtmkgcjhimajgiaaW.PrintWords

/-! ### a block of truth values -/
def BB (W : World) (b : Nat) (m : List Bool) : Prop := W.heap[b]? = some (.cells (m.map Value.bool).toArray 4 (0, 0))
section
variable {W W1 : World} {b : Nat} {m : List Bool}
theorem BB.cell (h : BB W b m) {i : Nat} (hi : i < m.length) : W.cell? ⟨b, i, none⟩ = some (.bool m[i]) := by
  refine (blk_cell h i).trans ?_
  simp [hi]
theorem BB.cell' (h : BB W b m) {i : Nat} {v : Bool} (hi : i < m.length) (hv : getB m (i : Int) = v) : W.cell? ⟨b, i, none⟩ = some (.bool v) := by
  rw [h.cell hi, ← getB_at hi, hv]
theorem BB.set (h : BB W b m) (i : Nat) (v : Bool) : BB (W.setCell ⟨b, i, none⟩ (.bool v)) b (m.set i v) := by
  have := blk_set h i (.bool v)
  unfold BB
  rw [this]
  simp [List.setIfInBounds_toArray, List.map_set]
theorem BB.fz (h : BB W b m) (i : Nat) : W.frozen? ⟨b, i, none⟩ = false := blk_frozen h i
theorem BB.below (h : BB W b m) (hb : Below W.heap.size W W1) : BB W1 b m := blk_below h hb
theorem BB.alloc (h : BB W b m) (o : Obj) : BB (W.alloc o) b m := blk_alloc h o
theorem BB.far (h : BB W b m) {p : Addr} (hp : b ≠ p.block) (u : Value) : BB (W.setCell p u) b m := blk_far h hp u
theorem BB.C (h : BB W b m) (hm : m.length ≤ 9223372036854775807) : Kd.bool.C W (some ⟨b, 0, none⟩) m.length m := by
  refine ⟨rfl, hm, fun _ => ⟨⟨b, 0, none⟩, rfl, fun j p hj => ?_⟩⟩
  obtain ⟨hjl, rfl⟩ := List.getElem?_eq_some_iff.1 hj
  refine ⟨[.bool m[j]], rfl, rfl, fun i u hu => ?_⟩
  cases i with
  | zero =>
    cases hu
    have e : (⟨b, 0, none⟩ : Addr).add (j * 1 + 0) = ⟨b, j, none⟩ := by
      unfold Addr.add
      simp
      intro hj0
      exact hj0.symm
    exact (congrArg W.cell? e).trans (h.cell hjl)
  | succ i => cases hu
theorem BB.new (W : World) (n : Nat) : BB (W.alloc (.cells (madeCells #[.bool false] n) 4)) W.heap.size (List.replicate n false) := by
  refine (blk_new W _).trans ?_
  rw [show madeCells #[.bool false] n = ((List.replicate n false).map Value.bool).toArray from ?_]
  refine Array.ext (by simp [madeCells]) (fun i h1 h2 => ?_)
  simp [madeCells, Nat.mod_one]
end

/-! ### all of a row -/
theorem allF_take {m : List Bool} {l : List Int} {k : Nat} (h : k < l.length) : allF m (l.take (k + 1)) = (allF m (l.take k) && getB m (l[k]'h)) := by
  rw [allF, List.take_succ_eq_append_getElem h, List.all_append]; simp [allF]
theorem allF_no {m : List Bool} {l : List Int} {k : Nat} (h : k < l.length) (hg : getB m (l[k]'h) = false) : allF m l = false := by
  rw [allF, List.all_eq_false]
  exact ⟨_, List.getElem_mem h, by rw [hg]; decide⟩
set_option maxRecDepth 100000 in
set_option maxHeartbeats 2000000 in
theorem allN_c (A B : Option Addr) (c d : Nat) (m : List Bool) (l : List Int) (w : World) (hr : Kd.bool.C w A m.length m) (hs : kInt.C w B l.length l) :
    Calls Try.prog 58 #[.slice A m.length c, .slice B l.length d] w fun e w' => e = .returned (.bool (allF m l)) ∧ w = w' := by
  have hm := C_max hr
  have hm2 := C_max hs
  have HR := Aside0.mk hr
  have HS := Aside0.mk hs
  clear hr hs
  go_enter Try.func58, Try.ntmps58
  go_wp2
  go_loop [9] (fun i => ∃ k : Nat, k ≤ l.length ∧ i = .int .i64 k ∧ Aside0 (allF m (l.take k) = true)) (fun i => l.length - (intOf i).toNat)
  case atStart => exact ⟨0, Nat.zero_le _, rfl, ⟨by simp [allF]⟩⟩
  case round =>
    obtain ⟨k, hk, rfl, HI⟩ := hrel
    by_cases hlt : k < l.length
    · obtain ⟨bd, ebd, hy⟩ := at_int HS.out k hlt
      cases ebd
      have i1 : (0 : Int) ≤ (k : Int) := by omega
      have i2 : (k : Int) < (l.length : Int) := by omega
      have HN := Aside0.mk (fun hg => allF_no (m := m) hlt hg)
      have HT := Lib.hid (allF_take (m := m) hlt)
      obtain ⟨x, hx⟩ : ∃ x, x = l[k]'hlt := ⟨_, rfl⟩
      rw [← hx] at hy HN HT
      clear hx
      by_cases h0 : x < 0
      · have HE : Aside0 (allF m l = false) := ⟨HN.out (getB_out (Or.inl h0))⟩
        go_wp2
        go_ret
        exact ⟨ret_bool HE.out.symm, rfl⟩
      · obtain ⟨j, rfl⟩ := Int.eq_ofNat_of_zero_le (by omega : 0 ≤ x)
        have j1 : (0 : Int) ≤ (j : Int) := by omega
        by_cases h1 : (m.length : Int) ≤ (j : Int)
        · have HE : Aside0 (allF m l = false) := ⟨HN.out (getB_out (Or.inr h1))⟩
          go_wp2
          go_ret
          exact ⟨ret_bool HE.out.symm, rfl⟩
        · have hj : j < m.length := by omega
          have j2 : (j : Int) < (m.length : Int) := by omega
          obtain ⟨ad, ead, hz⟩ := at_bool HR.out j hj
          cases ead
          cases hb : m[j]'hj
          · have HE : Aside0 (allF m l = false) := ⟨HN.out (by rw [getB_at hj, hb])⟩
            rw [hb] at hz
            clear hb
            go_wp2
            go_ret
            exact ⟨ret_bool HE.out.symm, rfl⟩
          · have HE : Aside0 (allF m (l.take (k + 1)) = true) := ⟨by rw [HT.out, HI.out, getB_at hj, hb]; rfl⟩
            rw [hb] at hz
            clear hb
            go_wp2
            go_round
            case rel => exact ⟨k + 1, by omega, by go_num, HE⟩
            case measure => simp [intOf]; omega
    · have HE : Aside0 (allF m l = true) := ⟨by have := HI.out; rwa [List.take_of_length_le (by omega)] at this⟩
      go_wp2
      go_ret
      exact ⟨ret_bool HE.out.symm, rfl⟩
theorem allN_n (A B : Option Addr) (c d n : Nat) (m : List Bool) (l : List Int) (w : World) (hn : m.length = n) (hr : Kd.bool.C w A n m) (hs : kInt.C w B l.length l) :
    Calls Try.prog 58 #[.slice A n c, .slice B l.length d] w fun e w' => e = .returned (.bool (allF m l)) ∧ w = w' := by
  subst hn
  exact allN_c A B c d m l w hr hs
theorem BB.C' {W : World} {b n : Nat} {m : List Bool} (h : BB W b m) (hn : m.length = n) (hm : n ≤ 9223372036854775807) : Kd.bool.C W (some ⟨b, 0, none⟩) n m := by
  subst hn
  exact h.C hm
end Go.Proofs.Ytmkgcjhimajgiaa

/- The contract of the program's answer which symbols may be nothing. -/
set_option linter.unusedVariables false
set_option linter.unusedSimpArgs false
namespace Go.Proofs.Ytmkgcjhimajgiaa
open Go.RowKit Go.Proofs.YtmkgcjhimajgiaaW.PrintWords Go.Conc

/-! ### the plain law -/
def nsym (g : Gram) : Nat := g.terms.length + g.names.length
def hornN (g : Gram) : Horn := g.rules.map fun r => (r.right, r.left)
def noneI : Int → Prop := fun _ => False
def nullF (g : Gram) : List Bool := iter (roundF (hornN g)) (nsym g) (List.replicate (nsym g) false)
theorem goodF_mem {g : Gram} (h : goodF g = true) : ∀ r ∈ g.rules, (g.terms.length : Int) ≤ r.left ∧ r.left < (nsym g : Int) ∧ r.right.length ≤ 8 ∧ ∀ s ∈ r.right, 0 ≤ s ∧ s < (nsym g : Int) := by
  unfold goodF ruledF at h
  simp only [Bool.and_eq_true] at h
  intro r hr
  have := rulF_mem h.1.1.2.2 r hr
  exact ⟨by omega, by unfold nsym; omega, this.2.2.1, fun s hs => by have := this.2.2.2 s hs; unfold nsym; omega⟩
theorem goodF_small {g : Gram} (h : goodF g = true) : g.terms.length ≤ 40 ∧ 1 ≤ g.names.length ∧ g.names.length ≤ 40 ∧ g.rules.length ≤ 60 := by
  unfold goodF ruledF at h
  simp only [Bool.and_eq_true, decide_eq_true_eq] at h
  have h1 := small_names h.1.1.1.1
  have h2 := small_terms h.1.1.1.2
  omega
theorem hornN_in {g : Gram} (h : goodF g = true) : InR (nsym g) (hornN g) := by
  intro x hx
  obtain ⟨r, hr, rfl⟩ := List.mem_map.1 hx
  have := goodF_mem h r hr
  exact ⟨by show (0:Int) ≤ r.left; omega, this.2.1⟩
theorem nullF_is {g : Gram} (h : goodF g = true) : IsDer (hornN g) noneI (nsym g) (nullF g) :=
  rounds_is (hornN_in h) (by simp) (fun s => by rw [getB_replicate]; simp [noneI])
theorem roundF_append (R S : Horn) (m : List Bool) : roundF (R ++ S) m = roundF S (roundF R m) := by
  induction R generalizing m with
  | nil => rfl
  | cons x R ih => exact ih _
theorem roundF_take {R : Horn} {m : List Bool} {j : Nat} (h : j < R.length) : roundF (R.take (j + 1)) m = (if allF (roundF (R.take j) m) (R[j]'h).1 = true then setB (roundF (R.take j) m) (R[j]'h).2 else roundF (R.take j) m) := by
  rw [List.take_succ_eq_append_getElem h, roundF_append]
  rfl
theorem setB_self {m : List Bool} {i : Int} (h : getB m i = true) : setB m i = m := by
  have hi := getB_in h
  obtain ⟨k, rfl⟩ := Int.eq_ofNat_of_zero_le hi.1
  have hk : k < m.length := by omega
  rw [getB_at hk] at h
  unfold setB
  rw [Int.toNat_natCast, ← h]
  exact List.set_getElem_self hk
theorem round_stand {n : Nat} {R : Horn} {m : List Bool} (hR : InR n R) (hl : m.length = n) (h : cnt (roundF R m) ≤ cnt m) : roundF R m = m := ((roundF_le hR hl).cnt_eq h).symm
/-- What stands still, and has been led to, is what is led to. -/
theorem stand_is {n : Nat} {R : Horn} {I : Int → Prop} {m : List Bool} (hR : InR n R) (hl : m.length = n) (hs : Sound R I m) (hI : ∀ s, I s → getB m s = true) (hf : roundF R m = m) : IsDer R I n m :=
  IsDer.mk' hl hs ⟨hI, roundF_fix hR hl hf⟩

/-! ### a channel -/
def CH (W : World) (c cap k r : Nat) : Prop := ∃ buf s, W.heap[c]? = some (.chan cap buf false s r false) ∧ buf.size = k
def rcvd (W : World) (c : Nat) : Nat := match W.heap[c]? with | some (.chan _ _ _ _ r _) => r | _ => 0
theorem CH.rcvd {W : World} {c cap k r : Nat} (h : CH W c cap k r) : rcvd W c = r := by
  obtain ⟨buf, s, h, _⟩ := h
  unfold Go.Proofs.Ytmkgcjhimajgiaa.rcvd
  rw [h]
theorem heap_below {W W1 : World} {c : Nat} {o : Obj} (h : W.heap[c]? = some o) (hb : Below W.heap.size W W1) : W1.heap[c]? = some o := by
  have hc : c < W.heap.size := (Array.getElem?_eq_some_iff.1 h).1
  rw [hb.block c hc]; exact h
theorem CH.below {W W1 : World} {c cap k r : Nat} (h : CH W c cap k r) (hb : Below W.heap.size W W1) : CH W1 c cap k r := by
  obtain ⟨buf, s, h, hk⟩ := h
  exact ⟨buf, s, heap_below h hb, hk⟩
theorem heap_far {W : World} {c : Nat} {p : Addr} {o : Obj} (h : W.heap[c]? = some o) (hp : c ≠ p.block) (u : Value) : (W.setCell p u).heap[c]? = some o := (Below.heap_setCell W p u c hp).trans h
theorem CH.far {W : World} {c cap k r : Nat} (h : CH W c cap k r) {p : Addr} (hp : c ≠ p.block) (u : Value) : CH (W.setCell p u) c cap k r := by
  obtain ⟨buf, s, h, hk⟩ := h
  exact ⟨buf, s, heap_far h hp u, hk⟩
theorem chan_far {W : World} {c c' cap : Nat} {buf : Array Value} {cl tm : Bool} {s r : Nat} {o : Obj} (h : W.heap[c']? = some o) (hc : c ≠ c') : (W.setChan c cap buf cl s r tm).heap[c']? = some o := by
  rw [← h]
  simp [World.setChan, Array.getElem?_setIfInBounds_ne hc]
theorem blk_snd (w : World) (o o' : Obj) : ((w.alloc o).alloc o').heap[w.heap.size + 1]? = some o' := by
  have h := blk_new (w.alloc o) o'
  rw [show (w.alloc o).heap.size = w.heap.size + 1 by simp] at h
  exact h
theorem mk_chan (n : Nat) (h : n ≤ 1000000) : ∀ W : World, (Instr.makeChan 114 (.int .i64 (n : Int))).run Try.prog W = .ok (.chan (some W.heap.size)) (W.alloc (.chan n #[] false 0 0 false)) := by
  intro W
  have h0 : (Try.prog.info? 3).map (·.bytes) = some 8 := by kernel_rfl
  obtain ⟨i, hi, hb⟩ := Option.map_eq_some_iff.1 h0
  exact run_makeChan (P := Try.prog) (w := W) Try.underlying114 hi .i64 n (by omega) (by rw [hb]; omega)
theorem CH.new (W : World) (n : Nat) : CH (W.alloc (.chan n #[] false 0 0 false)) W.heap.size n 0 0 := ⟨#[], 0, blk_new W _, rfl⟩
end Go.Proofs.Ytmkgcjhimajgiaa

/- The contract of the program's answer which symbols may be nothing: walked. -/
set_option linter.unusedVariables false
set_option linter.unusedSimpArgs false
namespace Go.Proofs.Ytmkgcjhimajgiaa
open Go.RowKit Go.Proofs.YtmkgcjhimajgiaaW.PrintWords Go.Conc

set_option maxRecDepth 100000 in
set_option maxHeartbeats 2000000 in
theorem ofN_no (g : Gram) (A1 A2 A3 : Option Addr) (c1 c2 c3 : Nat) (w : World) (hg : RepG w g A1 A2 A3 c1 c2 c3) (hno : goodF g = false) :
    Calls Try.prog 31 #[.agg #[.slice A1 g.terms.length c1, .slice A2 g.names.length c2, .slice A3 g.rules.length c3]] w fun e w' => e = .returned (.slice none 0 0) ∧ Below w.heap.size w w' := by
  have HB := Aside0.mk ((Below.refl w.heap.size w).alloc (Nat.le_refl _) (.cells #[.slice A1 g.terms.length c1, .slice A2 g.names.length c2, .slice A3 g.rules.length c3] 25 (0, 0)))
  have HG := Aside0.mk (hg.below_ (below_alloc (Below.refl _ _) (.cells #[.slice A1 g.terms.length c1, .slice A2 g.names.length c2, .slice A3 g.rules.length c3] 25 (0, 0))))
  clear hg
  go_enter Try.func31, Try.ntmps31
  go_wp2_with (go_at_call 44; go_loud (refine (good_c g A1 A2 A3 c1 c2 c3 _ HG.out).mono ?_; rw [hno]; rintro e w1 ⟨rfl, hb1⟩))
  go_ret
  exact ⟨rfl, below_then HB.out HB.out.size hb1⟩
def OfNEnd (w : World) (m : List Bool) (e : Ending) (w' : World) : Prop := ∃ b, e = .returned (.slice (some ⟨b, 0, none⟩) m.length m.length) ∧ BB w' b m ∧ w.heap.size ≤ b
/-- The state of nullable.Of: what is set, what lies in the channel, what was taken. -/
structure NS (w W : World) (b n : Nat) (g : Gram) (A1 A2 A3 : Option Addr) (c1 c2 c3 : Nat) (m : List Bool) (k r : Nat) : Prop where
  bb : BB W b m
  ch : CH W (b + 1) n k r
  box : W.heap[w.heap.size]? = some (.cells #[.slice A1 g.terms.length c1, .slice A2 g.names.length c2, .slice A3 g.rules.length c3] 25 (0, 0))
  below : Below w.heap.size w W
  size : w.heap.size < b
  len : m.length = n
  cnt : k + r = cnt m
  sound : Sound (hornN g) noneI m
theorem NS.below_ {w W W1 : World} {b n : Nat} {g : Gram} {A1 A2 A3 : Option Addr} {c1 c2 c3 : Nat} {m : List Bool} {k r : Nat} (h : NS w W b n g A1 A2 A3 c1 c2 c3 m k r) (hb : Below W.heap.size W W1) : NS w W1 b n g A1 A2 A3 c1 c2 c3 m k r :=
  ⟨h.bb.below hb, h.ch.below hb, blk_below h.box hb, below_then h.below h.below.size hb, h.size, h.len, h.cnt, h.sound⟩
theorem NS.sent {w W : World} {b n : Nat} {g : Gram} {A1 A2 A3 : Option Addr} {c1 c2 c3 : Nat} {m : List Bool} {k r s s' : Nat} {buf : Array Value} (h : NS w W b n g A1 A2 A3 c1 c2 c3 m k r) (hch : W.heap[b + 1]? = some (.chan n buf false s r false)) (hbk : buf.size = k) (lf : Nat) (hl : lf < n) (hg : getB m (lf : Int) = false) (hs : Sound (hornN g) noneI (setB m (lf : Int))) (o : Obj) (v : Value) :
    NS w (((W.setCell ⟨b, lf, none⟩ (.bool true)).alloc o).setChan (b + 1) n (buf.push v) false s' r false) b n g A1 A2 A3 c1 c2 c3 (setB m (lf : Int)) (k + 1) r := by
  have hb1 : b + 1 < W.heap.size := (Array.getElem?_eq_some_iff.1 hch).1
  have h2 := h.size
  refine ⟨chan_far ((h.bb.set lf true).alloc o) (by omega), ⟨buf.push v, s', heap_setChan _ _ _ _ _ _ _ _ (by simp [World.setCell]; omega), by simp [hbk]⟩, chan_far (blk_alloc (blk_far h.box (by show _ ≠ b; omega) _) o) (by omega), below_setChan ((below_set h.below (by omega) _ _).alloc (by simp [World.setCell]; omega) o) (by omega) _ _ _ _ _ _, h.size, by rw [setB_len]; exact h.len, ?_, hs⟩
  rw [cnt_set (by omega) (by rw [h.len]; omega) hg, ← h.cnt]
  omega
theorem NS.took {w W : World} {b n : Nat} {g : Gram} {A1 A2 A3 : Option Addr} {c1 c2 c3 : Nat} {m : List Bool} {k r s : Nat} {buf : Array Value} (h : NS w W b n g A1 A2 A3 c1 c2 c3 m k r) (hch : W.heap[b + 1]? = some (.chan n buf false s r false)) (hbk : buf.size = k) (h0 : 0 < k) :
    NS w (W.setChan (b + 1) n (buf.extract 1 buf.size) false s (r + 1) false) b n g A1 A2 A3 c1 c2 c3 m (k - 1) (r + 1) := by
  have hb1 : b + 1 < W.heap.size := (Array.getElem?_eq_some_iff.1 hch).1
  have h2 := h.size
  exact ⟨chan_far h.bb (by omega), ⟨_, s, heap_setChan _ _ _ _ _ _ _ _ hb1, by simp [hbk]⟩, chan_far h.box (by omega), below_setChan h.below (by omega) _ _ _ _ _ _, h.size, h.len, by have := h.cnt; omega, h.sound⟩
def NOut (w : World) (b n : Nat) (g : Gram) (A1 A2 A3 : Option Addr) (c1 c2 c3 : Nat) (a : Act) (W : World) : Prop :=
  ∃ u0 u5 u6 u7 u8 u9 u10 u11 u12 u13 u14 u15 u16 u17 u18 u19 u20 u21 u22 u23 u24 u25 u26 u27 u28 u29 u30 u31 u32 u33 u34 u35 u36 u37 u38 u39 u40 u41 u42 u43 u44 u45 u46 u47 u48 u49 u50 u51 u52 m k r, a = { tmps := (List.toArray (u0 :: .pointer (some ⟨w.heap.size, 0, none⟩) :: .slice none 0 0 :: .slice (some ⟨b, 0, none⟩) n n :: .chan (some (b + 1)) :: u5 :: u6 :: u7 :: u8 :: u9 :: u10 :: u11 :: u12 :: u13 :: u14 :: u15 :: u16 :: u17 :: u18 :: u19 :: u20 :: u21 :: u22 :: u23 :: u24 :: u25 :: u26 :: u27 :: u28 :: u29 :: u30 :: u31 :: u32 :: u33 :: u34 :: u35 :: u36 :: u37 :: u38 :: u39 :: u40 :: u41 :: u42 :: u43 :: u44 :: u45 :: u46 :: u47 :: u48 :: u49 :: u50 :: u51 :: u52 :: [])), defers := [] } ∧ NS w W b n g A1 A2 A3 c1 c2 c3 m k r
def NIn (w : World) (b n : Nat) (g : Gram) (A1 A2 A3 : Option Addr) (c1 c2 c3 : Nat) (m : List Bool) (r : Nat) (a : Act) (W : World) : Prop :=
  ∃ (u0 u5 u6 u7 u8 u9 u10 u11 u12 u13 u14 u15 u16 u17 u18 u19 u20 u21 u25 u26 u27 u28 u29 u30 u31 u32 u33 u34 u35 u36 u37 u38 u39 u40 u41 u42 u43 u44 u45 u46 u47 u48 u49 u50 u51 u52 : Value) (j k' : Nat), a = { tmps := (List.toArray (u0 :: .pointer (some ⟨w.heap.size, 0, none⟩) :: .slice none 0 0 :: .slice (some ⟨b, 0, none⟩) n n :: .chan (some (b + 1)) :: u5 :: u6 :: u7 :: u8 :: u9 :: u10 :: u11 :: u12 :: u13 :: u14 :: u15 :: u16 :: u17 :: u18 :: u19 :: u20 :: u21 :: .slice A3 g.rules.length c3 :: .int .i64 g.rules.length :: .int .i64 j :: u25 :: u26 :: u27 :: u28 :: u29 :: u30 :: u31 :: u32 :: u33 :: u34 :: u35 :: u36 :: u37 :: u38 :: u39 :: u40 :: u41 :: u42 :: u43 :: u44 :: u45 :: u46 :: u47 :: u48 :: u49 :: u50 :: u51 :: u52 :: [])), defers := [] } ∧ j ≤ g.rules.length ∧ NS w W b n g A1 A2 A3 c1 c2 c3 (roundF ((hornN g).take j) m) k' r
set_option maxRecDepth 100000 in
set_option maxHeartbeats 4000000 in
theorem ofN_yes (g : Gram) (A1 A2 A3 : Option Addr) (c1 c2 c3 : Nat) (w : World) (hg : RepG w g A1 A2 A3 c1 c2 c3) (hgd : goodF g = true) :
    Calls Try.prog 31 #[.agg #[.slice A1 g.terms.length c1, .slice A2 g.names.length c2, .slice A3 g.rules.length c3]] w fun e w' => OfNEnd w (nullF g) e w' ∧ Below w.heap.size w w' := by
  obtain ⟨q1, q2, q3, q4⟩ := goodF_small hgd
  have HGD := Aside0.mk hgd
  have HB := Aside0.mk ((Below.refl w.heap.size w).alloc (Nat.le_refl _) (.cells #[.slice A1 g.terms.length c1, .slice A2 g.names.length c2, .slice A3 g.rules.length c3] 25 (0, 0)))
  have HG0 := Aside0.mk hg
  have HP0 := Aside0.mk (blk_new w (.cells #[.slice A1 g.terms.length c1, .slice A2 g.names.length c2, .slice A3 g.rules.length c3] 25 (0, 0)))
  have HG := Aside0.mk (hg.below_ (below_alloc (Below.refl _ _) (.cells #[.slice A1 g.terms.length c1, .slice A2 g.names.length c2, .slice A3 g.rules.length c3] 25 (0, 0))))
  have HM := Aside0.mk (print_make_of (P := Try.prog) 57 4 (.bool false) 1 Try.underlying57 (by kernel_rfl) rfl (by decide) (nsym g) (by unfold nsym; omega))
  clear hg hgd
  refine calls_of_wpN Try.func31 rfl ?_
  simp only [Try.ntmps31, List.size_toArray, List.length_cons, List.length_nil, Nat.reduceAdd, Nat.reduceSub, Array.replicate_succ, Array.replicate_zero, List.push_toArray, List.append_toArray, List.nil_append, List.cons_append]
  refine wpN_seq_k (fun K hK => ?_)
  go_wp2
  refine wpN_seq_k (fun K hK => ?_)
  go_wp2_with (go_at_call 44; go_loud (refine (good_c g A1 A2 A3 c1 c2 c3 _ HG.out).mono ?_; rw [HGD.out]; rintro e w1 ⟨rfl, hb1⟩))
  have HP1 := Aside0.mk (blk_below HP0.out hb1)
  have HB1 := Aside0.mk (below_then HB.out HB.out.size hb1)
  have hsz : w.heap.size < w1.heap.size := by have := hb1.size; simp at this; omega
  clear hb1
  obtain ⟨n, hn⟩ : ∃ n, n = nsym g := ⟨_, rfl⟩
  have hn80 : n ≤ 80 := by rw [hn]; unfold nsym; omega
  have e1 : IntKind.i64.wrap ((g.terms.length : Int) + (g.names.length : Int)) = (n : Int) := by rw [IntWalk.i64_in _ (by omega), hn]; unfold nsym; omega
  have hmk := HM.out
  rw [← hn] at hmk
  have HN := Lib.hid hn
  clear hn
  have a1 := blk_cell HP1.out 0
  have a2 := blk_cell HP1.out 1
  have a3 := blk_cell HP1.out 2
  simp only [List.getElem?_toArray, List.getElem?_cons_zero, List.getElem?_cons_succ] at a1 a2 a3
  refine wpN_seq_k (fun K hK => ?_)
  go_wp2
  have hmc := mk_chan n (by omega)
  clear e1 hmk
  refine wpN_seq_k (fun K hK => ?_)
  go_wp2
  clear hmc a1 a2 a3
  have HS0 : Aside0 (NS w ((w1.alloc (.cells (madeCells #[.bool false] n) 4)).alloc (.chan n #[] false 0 0 false)) w1.heap.size n g A1 A2 A3 c1 c2 c3 (List.replicate n false) 0 0) :=
    ⟨⟨(BB.new w1 n).alloc _, by have := CH.new (w1.alloc (.cells (madeCells #[.bool false] n) 4)) n; simpa using this, blk_alloc (blk_alloc HP1.out _) _, (HB1.out.alloc HB1.out.size _).alloc (by simp; have := HB1.out.size; omega) _, hsz, by simp, by rw [cnt_replicate], fun s hs => by rw [getB_replicate] at hs; cases hs⟩⟩
  obtain ⟨b, hb⟩ : ∃ b, b = w1.heap.size := ⟨_, rfl⟩
  have hbs : (w1.alloc (.cells (madeCells #[.bool false] n) 4)).heap.size = b + 1 := by rw [hb]; simp
  simp only [World.size_alloc] at *
  rw [← hb] at HS0 ⊢
  refine wpN_block ?_
  refine wpN_loop (NOut w b n g A1 A2 A3 c1 c2 c3) (fun a W => n - rcvd W (b + 1)) ?_ ?_
  · exact ⟨_, _, _, _, _, _, _, _, _, _, _, _, _, _, _, _, _, _, _, _, _, _, _, _, _, _, _, _, _, _, _, _, _, _, _, _, _, _, _, _, _, _, _, _, _, _, _, _, _, _, _, _, rfl, HS0.out⟩
  clear HS0 hbs hb HP1 HB1 hsz
  clear w1
  rintro _ W ⟨u0, u5, u6, u7, u8, u9, u10, u11, u12, u13, u14, u15, u16, u17, u18, u19, u20, u21, u22, u23, u24, u25, u26, u27, u28, u29, u30, u31, u32, u33, u34, u35, u36, u37, u38, u39, u40, u41, u42, u43, u44, u45, u46, u47, u48, u49, u50, u51, u52, m, k, r, rfl, hs⟩ K hK
  have HS := Aside0.mk hs
  clear hs
  have a3 := blk_cell HS.out.box 2
  simp only [List.getElem?_toArray, List.getElem?_cons_zero, List.getElem?_cons_succ] at a3
  refine wpN_block ?_
  refine wpN_seq_n (fun K1 hK1 => ?_)
  refine wpN_seq_k (fun K2 hK2 => ?_)
  go_wp2
  refine wpN_block ?_
  refine wpN_loop (NIn w b n g A1 A2 A3 c1 c2 c3 m r) (fun a W => g.rules.length - (intOf (a.tmps.getD 24 undef)).toNat) ?_ ?_
  · exact ⟨_, _, _, _, _, _, _, _, _, _, _, _, _, _, _, _, _, _, _, _, _, _, _, _, _, _, _, _, _, _, _, _, _, _, _, _, _, _, _, _, _, _, _, _, _, _, 0, k, rfl, Nat.zero_le _, HS.out⟩
  clear a3
  rintro _ W1 ⟨u0, u5, u6, u7, u8, u9, u10, u11, u12, u13, u14, u15, u16, u17, u18, u19, u20, u21, u25, u26, u27, u28, u29, u30, u31, u32, u33, u34, u35, u36, u37, u38, u39, u40, u41, u42, u43, u44, u45, u46, u47, u48, u49, u50, u51, u52, j, k', rfl, hj, hs1⟩ K2 hK2
  have HS1 := Aside0.mk hs1
  clear hs1
  by_cases hlt : j < g.rules.length
  · obtain ⟨ad, B1, d1, ead, hx0, hy0, hd1, hC1⟩ := at_rule HG0.out.rules j hlt
    cases ead
    have hx := pw_cell_below HS1.out.below hx0
    have hy := pw_cell_below HS1.out.below hy0
    clear hx0 hy0
    have hmem := goodF_mem HGD.out (g.rules[j]'hlt) (List.getElem_mem _)
    have HT := Lib.hid (roundF_take (R := hornN g) (m := m) (j := j) (by simpa [hornN] using hlt))
    obtain ⟨x, hx1⟩ : ∃ x, x = g.rules[j]'hlt := ⟨_, rfl⟩
    have hxh : (hornN g)[j]'(by simpa [hornN] using hlt) = (x.right, x.left) := by rw [hx1]; simp [hornN]
    rw [hxh] at HT
    rw [← hx1] at hx hy hd1 hC1 hmem
    have HX := Lib.hid hx1
    clear hx1 hxh
    obtain ⟨lf, hlf⟩ := Int.eq_ofNat_of_zero_le (by omega : 0 ≤ x.left)
    have l1 : (0 : Int) ≤ (lf : Int) := by omega
    have l2 : (lf : Int) < (n : Int) := by rw [HN.out]; omega
    have l3 : lf < n := by omega
    rw [hlf] at hx HT hmem
    have HXS := Aside0.mk hmem.2.2.2
    clear hmem
    obtain ⟨m1, hm1⟩ : ∃ m1, m1 = roundF ((hornN g).take j) m := ⟨_, rfl⟩
    rw [← hm1] at HS1 HT
    have HM1 := Lib.hid hm1
    clear hm1
    have i1 : (0 : Int) ≤ (j : Int) := by omega
    have i2 : (j : Int) < (g.rules.length : Int) := by omega
    have HS2 := Aside0.mk (HS1.out.below_ (below_alloc (Below.refl _ _) (.cells #[.int .i64 lf, .slice B1 x.right.length d1] 46 (0, 0))))
    have HC2 := Aside0.mk (Kd.C_below hC1 HS2.out.below)
    have HD1 := Aside0.mk hd1
    clear hd1 hC1
    cases hgl : getB m1 (lf : Int)
    · have hz := HS2.out.bb.cell' (by rw [HS2.out.len]; exact l3) hgl
      cases hal : allF m1 x.right
      · have HE : Aside0 (roundF ((hornN g).take (j + 1)) m = m1) := ⟨by rw [HT.out, if_neg (by rw [hal]; decide)]⟩
        clear hgl
        refine wpN_of_wp ?_
        go_wp2_with (go_at_call 58; go_loud (refine (allN_n _ _ _ _ n m1 x.right _ HS2.out.len (HS2.out.bb.C' HS2.out.len (by omega)) HC2.out).mono ?_; rw [hal]; rintro e w9 ⟨rfl, rfl⟩))
        exact ⟨⟨_, _, _, _, _, _, _, _, _, _, _, _, _, _, _, _, _, _, _, _, _, _, _, _, _, _, _, _, _, _, _, _, _, _, _, _, _, _, _, _, _, _, _, _, _, _, j + 1, k', rfl, by omega, by rw [HE.out]; exact HS2.out⟩, by simp [intOf]; omega⟩
      · have HE : Aside0 (roundF ((hornN g).take (j + 1)) m = setB m1 (lf : Int)) := ⟨by rw [HT.out, if_pos hal]⟩
        have HSO : Aside0 (Sound (hornN g) noneI (setB m1 (lf : Int))) := ⟨HS2.out.sound.set (b := x.right) (List.mem_map.2 ⟨x, HX.out ▸ List.getElem_mem _, by rw [hlf]⟩) hal ⟨l1, by rw [HS2.out.len]; exact l2⟩⟩
        have fz := HS2.out.bb.fz lf
        have hbW : b < W1.heap.size := (Array.getElem?_eq_some_iff.1 HS1.out.bb).1
        have hcW : b + 1 < W1.heap.size := by obtain ⟨_, _, h, _⟩ := HS1.out.ch; exact (Array.getElem?_eq_some_iff.1 h).1
        have hz2 : ((W1.alloc (.cells #[.int .i64 lf, .slice B1 x.right.length d1] 46 (0, 0))).setCell ⟨b, lf, none⟩ (.bool true)).cell? ⟨W1.heap.size, 0, none⟩ = some (.int .i64 lf) := by
          rw [cell_far (by show W1.heap.size ≠ b; omega)]
          exact (blk_cell (blk_new W1 (.cells #[.int .i64 lf, .slice B1 x.right.length d1] 46 (0, 0))) 0).trans rfl
        have HCT := Aside0.mk (cnt_set l1 (by rw [HS2.out.len]; exact l2) hgl)
        have HGL := Lib.hid hgl
        clear hgl
        refine wpN_seq_k (fun K3 hK3 => ?_)
        go_wp2
        refine wpN_seq_k (fun K3 hK3 => ?_)
        go_wp2
        refine wpN_seq_n (fun K3 hK3 => ?_)
        refine wpN_block ?_
        refine wpN_seq_k (fun K4 hK4 => ?_)
        go_wp2
        refine wpN_seq_k (fun K4 hK4 => ?_)
        go_wp2_with (go_at_call 58; go_loud (refine (allN_n _ _ _ _ n m1 x.right _ HS2.out.len (HS2.out.bb.C' HS2.out.len (by omega)) HC2.out).mono ?_; rw [hal]; rintro e w9 ⟨rfl, rfl⟩))
        refine wpN_cond (t := true) rfl ?_
        simp only [if_true]
        refine wpN_seq_k (fun K4 hK4 => ?_)
        go_wp2
        refine wpN_region ?_
        show inN _ _ [0, 1, 2, 3] _ _ _
        refine inN_value (o := ?o1) (v := ?v1) (w' := ?w1) (by simp only [List.getElem?_toArray, List.getElem?_cons_zero, List.getElem?_cons_succ]; rfl) (by rfl) ?h1 ?_
        case h1 => (go_simp; first | rfl | (constructor; rfl; rfl))
        simp only [Act.put, List.setIfInBounds_toArray, List.set_cons_zero, List.set_cons_succ]
        refine inN_value (o := ?o2) (v := ?v2) (w' := ?w2) (by simp only [List.getElem?_toArray, List.getElem?_cons_zero, List.getElem?_cons_succ]; rfl) (by rfl) ?h2 ?_
        case h2 => (go_simp; first | rfl | (constructor; rfl; rfl))
        simp only [Act.put, List.setIfInBounds_toArray, List.set_cons_zero, List.set_cons_succ]
        refine inN_value (o := ?o3) (v := ?v3) (w' := ?w3) (by simp only [List.getElem?_toArray, List.getElem?_cons_zero, List.getElem?_cons_succ]; rfl) (by rfl) ?h3 ?_
        case h3 => (go_simp; first | rfl | (constructor; rfl; rfl))
        simp only [Act.put, List.setIfInBounds_toArray, List.set_cons_zero, List.set_cons_succ]
        obtain ⟨buf, s, hch, hbk⟩ := HS1.out.ch
        have hroom : buf.size < n := by have := HS2.out.cnt; have := HCT.out; have h3 := cnt_le (setB m1 (lf : Int)); rw [setB_len, HS2.out.len] at h3; omega
        refine inN_send (c := b + 1) (cap := n) (buf := buf) (s := s) (r := r) (tm := false) (o := ?o4) (v := ?v4) (z' := ?z4) (w₁ := ?w4) (by simp only [List.getElem?_toArray, List.getElem?_cons_zero, List.getElem?_cons_succ]; rfl) (by rfl) ?h4 ?c4 hroom ?_
        case h4 => (go_simp; first | rfl | (constructor; rfl; rfl))
        case c4 => exact heap_below (heap_far hch (by simp) _) (below_alloc (Below.refl _ _) _)
        simp only [Act.put, List.setIfInBounds_toArray, List.set_cons_zero, List.set_cons_succ]
        refine inN_nil ?_
        simp only [Exit.inBlock, Exit.then]
        refine hK3 _ _ ?_
        refine wpN_of_wp ?_
        have HS3 := Aside0.mk (HS1.out.sent (s' := s + 1) hch hbk lf l3 HGL.out HSO.out (.cells #[.int .i64 lf, .slice B1 x.right.length d1] 46 (0, 0)) (.int .i64 (lf : Int)))
        clear hch hbk hroom hz hz2 fz hx hy
        go_wp2
        exact ⟨⟨_, _, _, _, _, _, _, _, _, _, _, _, _, _, _, _, _, _, _, _, _, _, _, _, _, _, _, _, _, _, _, _, _, _, _, _, _, _, _, _, _, _, _, _, _, _, j + 1, k' + 1, rfl, by omega, by rw [HE.out]; exact HS3.out⟩, by simp [intOf]; omega⟩
    · have hz := HS2.out.bb.cell' (by rw [HS2.out.len]; exact l3) hgl
      have HE : Aside0 (roundF ((hornN g).take (j + 1)) m = m1) := ⟨by rw [HT.out]; split; exact setB_self hgl; rfl⟩
      clear hgl
      refine wpN_of_wp ?_
      go_wp2
      exact ⟨⟨_, _, _, _, _, _, _, _, _, _, _, _, _, _, _, _, _, _, _, _, _, _, _, _, _, _, _, _, _, _, _, _, _, _, _, _, _, _, _, _, _, _, _, _, _, _, j + 1, k', rfl, by omega, by rw [HE.out]; exact HS2.out⟩, by simp [intOf]; omega⟩
  · obtain ⟨m2, hm2⟩ : ∃ m2, m2 = roundF (hornN g) m := ⟨_, rfl⟩
    have HS2 : Aside0 (NS w W1 b n g A1 A2 A3 c1 c2 c3 m2 k' r) := ⟨by have := HS1.out; rw [List.take_of_length_le (by simp [hornN]; omega), ← hm2] at this; exact this⟩
    have HM2 := Lib.hid hm2
    clear HS1 hm2
    refine wpN_of_wp ?_
    go_wp2
    refine wpN_seq_k (fun K3 hK3 => ?_)
    go_wp2
    refine wpN_seq_n (fun K3 hK3 => ?_)
    refine wpN_region ?_
    show inN _ _ [0, 1, 2] _ _ _
    obtain ⟨buf, s, hch, hbk⟩ := HS2.out.ch
    have HBK := Lib.hid hbk
    clear hbk
    by_cases h0 : 0 < k'
    · refine inN_take (c := b + 1) (cap := n) (buf := buf) (s := s) (r := r) (tm := false) (closed := false) (o := ?o5) (z := ?z5) (w₁ := ?w5) (by simp only [List.getElem?_toArray, List.getElem?_cons_zero, List.getElem?_cons_succ]; rfl) (by rfl) ?h5 ?c5 (by have := HBK.out; omega) ?_
      case h5 => (go_simp; first | rfl | (constructor; rfl; rfl))
      case c5 => exact hch
      simp only [Act.put, List.setIfInBounds_toArray, List.set_cons_zero, List.set_cons_succ]
      refine inN_value (o := ?o6) (v := ?v6) (w' := ?w6) (by simp only [List.getElem?_toArray, List.getElem?_cons_zero, List.getElem?_cons_succ]; rfl) (by rfl) ?h6 ?_
      case h6 => (go_simp; first | rfl | (constructor; rfl; rfl))
      simp only [Act.put, List.setIfInBounds_toArray, List.set_cons_zero, List.set_cons_succ]
      refine inN_value (o := ?o7) (v := ?v7) (w' := ?w7) (by simp only [List.getElem?_toArray, List.getElem?_cons_zero, List.getElem?_cons_succ]; rfl) (by rfl) ?h7 ?_
      case h7 => (go_simp; first | rfl | (constructor; rfl; rfl))
      simp only [Act.put, List.setIfInBounds_toArray, List.set_cons_zero, List.set_cons_succ]
      refine inN_nil ?_
      simp only [Exit.inBlock, Exit.then]
      refine hK3 _ _ ?_
      refine wpN_of_wp ?_
      have HS3 := Aside0.mk (HS2.out.took hch HBK.out h0)
      have hr1 : r < n := by have h1 := HS2.out.cnt; have h3 := cnt_le m2; rw [HS2.out.len] at h3; omega
      have HLT : Aside0 (n - rcvd (W1.setChan (b + 1) n (buf.extract 1 buf.size) false s (r + 1) false) (b + 1) < n - rcvd W (b + 1)) := ⟨by rw [HS3.out.ch.rcvd, HS.out.ch.rcvd]; omega⟩
      clear hch
      go_wp2
      refine ⟨⟨_, _, _, _, _, _, _, _, _, _, _, _, _, _, _, _, _, _, _, _, _, _, _, _, _, _, _, _, _, _, _, _, _, _, _, _, _, _, _, _, _, _, _, _, _, _, _, _, _, m2, k' - 1, r + 1, rfl, HS3.out⟩, ?_⟩
      exact HLT.out
    · obtain rfl : k' = 0 := by omega
      have hb0 : buf = #[] := Array.eq_empty_of_size_eq_zero HBK.out
      rw [hb0] at hch
      refine inN_default (c := b + 1) (cap := n) (s := s) (r := r) (tm := false) (o := ?o8) (z := ?z8) (w₁ := ?w8) (by simp only [List.getElem?_toArray, List.getElem?_cons_zero, List.getElem?_cons_succ]; rfl) (by rfl) ?h8 ?c8 ?_
      case h8 => (go_simp; first | rfl | (constructor; rfl; rfl))
      case c8 => exact hch
      simp only [Act.put, List.setIfInBounds_toArray, List.set_cons_zero, List.set_cons_succ]
      refine inN_value (o := ?o9) (v := ?v9) (w' := ?w9) (by simp only [List.getElem?_toArray, List.getElem?_cons_zero, List.getElem?_cons_succ]; rfl) (by rfl) ?h9 ?_
      case h9 => (go_simp; first | rfl | (constructor; rfl; rfl))
      simp only [Act.put, List.setIfInBounds_toArray, List.set_cons_zero, List.set_cons_succ]
      refine inN_value (o := ?o10) (v := ?v10) (w' := ?w10) (by simp only [List.getElem?_toArray, List.getElem?_cons_zero, List.getElem?_cons_succ]; rfl) (by rfl) ?h10 ?_
      case h10 => (go_simp; first | rfl | (constructor; rfl; rfl))
      simp only [Act.put, List.setIfInBounds_toArray, List.set_cons_zero, List.set_cons_succ]
      refine inN_nil ?_
      simp only [Exit.inBlock, Exit.then]
      refine hK3 _ _ ?_
      refine wpN_of_wp ?_
      have hst : roundF (hornN g) m = m := round_stand (hornN_in HGD.out) (by rw [HS.out.len, HN.out]) (by have h1 := HS2.out.cnt; have h2 := HS.out.cnt; rw [HM2.out] at h1; omega)
      have hm : m2 = nullF g := by
        rw [HM2.out, hst]
        exact (stand_is (hornN_in HGD.out) (by rw [HS.out.len, HN.out]) HS.out.sound (fun s h => h.elim) hst).unique (nullF_is HGD.out)
      have hln : n = (nullF g).length := by rw [← hm]; exact HS2.out.len.symm
      have HE : Aside0 (OfNEnd w (nullF g) (.returned (.slice (some ⟨b, 0, none⟩) n n)) W1) := ⟨⟨b, by rw [← hln], by rw [← hm]; exact HS2.out.bb, by have := HS2.out.size; omega⟩⟩
      clear hst hm hln hch hb0
      go_wp2
      go_ret
      exact ⟨HE.out, HS2.out.below⟩
end Go.Proofs.Ytmkgcjhimajgiaa

/- The contracts of the questions whether a row, or a rule's right side, may be nothing. -/
set_option linter.unusedVariables false
set_option linter.unusedSimpArgs false
namespace Go.Proofs.Ytmkgcjhimajgiaa
open Go.RowKit Go.Proofs.YtmkgcjhimajgiaaW.PrintWords Go.Proofs.YtmkgcjhimajgiaaW.PrintLast

def allB (g : Gram) (l : List Int) : Bool := goodF g && allF (nullF g) l
def ruleB (g : Gram) (i : Int) : Bool := decide (0 ≤ i) && decide (i < g.rules.length) && allB g (g.rules.getD i.toNat default).right
def nullO (g : Gram) : List Bool := if goodF g = true then nullF g else []
theorem nullF_len {g : Gram} (h : goodF g = true) : (nullF g).length = nsym g := (nullF_is h).1
end Go.Proofs.Ytmkgcjhimajgiaa

/- The contracts of the document's answers which symbols may be nothing. -/
set_option linter.unusedVariables false
set_option linter.unusedSimpArgs false
namespace Go.Proofs.Ytmkgcjhimajgiaa
open Go.RowKit Go.Proofs.YtmkgcjhimajgiaaW.PrintWords Go.Proofs.YtmkgcjhimajgiaaW.PrintLast

/-- A grammar's box, and a row of truth values behind it. -/
structure RS (w W : World) (b n : Nat) (g : Gram) (A1 A2 A3 : Option Addr) (c1 c2 c3 : Nat) (m : List Bool) : Prop where
  bb : BB W b m
  box : W.heap[w.heap.size]? = some (.cells #[.slice A1 g.terms.length c1, .slice A2 g.names.length c2, .slice A3 g.rules.length c3] 25 (0, 0))
  below : Below w.heap.size w W
  size : w.heap.size < b
  len : m.length = n
theorem RS.below_ {w W W1 : World} {b n : Nat} {g : Gram} {A1 A2 A3 : Option Addr} {c1 c2 c3 : Nat} {m : List Bool} (h : RS w W b n g A1 A2 A3 c1 c2 c3 m) (hb : Below W.heap.size W W1) : RS w W1 b n g A1 A2 A3 c1 c2 c3 m :=
  ⟨h.bb.below hb, blk_below h.box hb, below_then h.below h.below.size hb, h.size, h.len⟩
theorem RS.set {w W : World} {b n : Nat} {g : Gram} {A1 A2 A3 : Option Addr} {c1 c2 c3 : Nat} {m : List Bool} (h : RS w W b n g A1 A2 A3 c1 c2 c3 m) (i : Nat) : RS w (W.setCell ⟨b, i, none⟩ (.bool true)) b n g A1 A2 A3 c1 c2 c3 (setB m (i : Int)) :=
  ⟨h.bb.set i true, blk_far h.box (by have := h.size; show _ ≠ b; omega) _, below_set h.below (by have := h.size; omega) _ _, h.size, by rw [setB_len]; exact h.len⟩
theorem RS.new {w w1 : World} {n : Nat} {g : Gram} {A1 A2 A3 : Option Addr} {c1 c2 c3 : Nat} (hb : Below w.heap.size w w1) (hp : w1.heap[w.heap.size]? = some (.cells #[.slice A1 g.terms.length c1, .slice A2 g.names.length c2, .slice A3 g.rules.length c3] 25 (0, 0))) (hs : w.heap.size < w1.heap.size) :
    RS w (w1.alloc (.cells (madeCells #[.bool false] n) 4)) w1.heap.size n g A1 A2 A3 c1 c2 c3 (List.replicate n false) :=
  ⟨BB.new w1 n, blk_alloc hp _, hb.alloc hb.size _, hs, by simp⟩
end Go.Proofs.Ytmkgcjhimajgiaa

/- The contracts of the document's answers whether a row, or a rule's right side, may be nothing. -/
set_option linter.unusedVariables false
set_option linter.unusedSimpArgs false
namespace Go.Proofs.Ytmkgcjhimajgiaa
open Go.RowKit Go.Proofs.YtmkgcjhimajgiaaW.PrintWords Go.Proofs.YtmkgcjhimajgiaaW.PrintLast

theorem good_v (g : Gram) (A1 A2 A3 : Option Addr) (c1 c2 c3 : Nat) (w : World) (hg : RepG w g A1 A2 A3 c1 c2 c3) {v : Bool} (hv : goodF g = v) :
    Calls Try.prog 44 #[.agg #[.slice A1 g.terms.length c1, .slice A2 g.names.length c2, .slice A3 g.rules.length c3]] w fun e w' => e = .returned (.bool v) ∧ Below w.heap.size w w' := by
  subst hv; exact good_c g A1 A2 A3 c1 c2 c3 w hg
theorem good1_v (g : Gram) (A1 A2 A3 : Option Addr) (c1 c2 c3 : Nat) (w : World) (hg : RepG w g A1 A2 A3 c1 c2 c3) (hz : Sized g) {v : Bool} (hv : goodF g = v) :
    Calls Try.prog 28 #[.agg #[.slice A1 g.terms.length c1, .slice A2 g.names.length c2, .slice A3 g.rules.length c3]] w fun e w' => e = .returned (.bool v) ∧ Below w.heap.size w w' := by
  subst hv; exact good1_c g A1 A2 A3 c1 c2 c3 w hg hz
def ruleR (g : Gram) (i : Int) : Bool := goodF g && ruleB g i
end Go.Proofs.Ytmkgcjhimajgiaa

/- The wakes of law 06 answer true. -/
set_option linter.unusedVariables false
set_option linter.unusedSimpArgs false
namespace Go.Proofs.Ytmkgcjhimajgiaa
open Go.RowKit Go.Proofs.YtmkgcjhimajgiaaW.PrintWords Go.Proofs.YtmkgcjhimajgiaaW.PrintLast

theorem ints_C {W : World} {b : Nat} {xs : List Int} (h : W.heap[b]? = some (.cells (xs.map (Value.int .i64)).toArray 3 (0, 0))) (hm : xs.length ≤ 9223372036854775807) : kInt.C W (some ⟨b, 0, none⟩) xs.length xs := by
  refine ⟨rfl, hm, fun _ => ⟨⟨b, 0, none⟩, rfl, fun j p hj => ?_⟩⟩
  obtain ⟨hjl, rfl⟩ := List.getElem?_eq_some_iff.1 hj
  refine ⟨[.int .i64 xs[j]], rfl, rfl, fun i u hu => ?_⟩
  cases i with
  | zero =>
    cases hu
    have e : (⟨b, 0, none⟩ : Addr).add (j * 1 + 0) = ⟨b, j, none⟩ := by
      unfold Addr.add
      simp
      intro hj0
      exact hj0.symm
    refine (congrArg W.cell? e).trans ((blk_cell h j).trans ?_)
    simp [hjl]
  | succ i => cases hu
theorem C_none {α : Type} (d : Kd α) (w : World) : d.C w none 0 [] := ⟨rfl, by omega, fun h => by omega⟩
/-- A text that is read. -/
theorem of_ok {s : ByteArray} {g : Gram} (h : ofF s = .ok g) (w : World) : Calls Try.prog 43 #[.string s] w fun e w' => (∃ A1 A2 A3 c1 c2 c3, e = .returned (.tuple #[.agg #[.slice A1 g.terms.length c1, .slice A2 g.names.length c2, .slice A3 g.rules.length c3], .agg #[.int .i64 0, .int .i64 0]]) ∧ RepG w' g A1 A2 A3 c1 c2 c3) ∧ Below w.heap.size w w' := by
  refine (of_c s w).mono ?_
  rw [h]
  rintro e w1 ⟨he, hb1⟩
  exact ⟨he, hb1⟩
end Go.Proofs.Ytmkgcjhimajgiaa

/- Rounds by what the round ahead has: as many as there are nonterminals. -/
set_option linter.unusedVariables false
set_option linter.unusedSimpArgs false
namespace Go.Proofs.Ytmkgcjhimajgiaa

def jacG (m : List Bool) : Horn → List Bool → List Bool
  | [], a => a
  | x :: R, a => jacG m R (if allF m x.1 = true then setB a x.2 else a)
def jac (R : Horn) (m : List Bool) : List Bool := jacG m R m
theorem jacG_append (m : List Bool) (R S : Horn) (a : List Bool) : jacG m (R ++ S) a = jacG m S (jacG m R a) := by
  induction R generalizing a with
  | nil => rfl
  | cons x R ih => exact ih _
theorem jacG_take {m : List Bool} {R : Horn} {a : List Bool} {j : Nat} (h : j < R.length) : jacG m (R.take (j + 1)) a = (if allF m (R[j]'h).1 = true then setB (jacG m (R.take j) a) (R[j]'h).2 else jacG m (R.take j) a) := by
  rw [List.take_succ_eq_append_getElem h, jacG_append]
  rfl
theorem jacG_len (m : List Bool) : ∀ (R : Horn) (a : List Bool), (jacG m R a).length = a.length
  | [], a => rfl
  | x :: R, a => by
    rw [jacG, jacG_len m R]
    split
    · exact setB_len _ _
    · rfl
theorem jacG_le {n : Nat} (m : List Bool) : ∀ {R : Horn} {a : List Bool}, InR n R → a.length = n → LeB a (jacG m R a)
  | [], a, _, _ => LeB.refl a
  | x :: R, a, hR, hl => by
    rw [jacG]
    have hx := hR x List.mem_cons_self
    split
    · exact (LeB.set a hx.1 (by omega)).trans (jacG_le m (fun y hy => hR y (List.mem_cons_of_mem _ hy)) (by rw [setB_len]; exact hl))
    · exact jacG_le m (fun y hy => hR y (List.mem_cons_of_mem _ hy)) hl
theorem jacG_has {n : Nat} (m : List Bool) : ∀ {R : Horn} {a : List Bool}, InR n R → a.length = n → ∀ x ∈ R, allF m x.1 = true → getB (jacG m R a) x.2 = true
  | [], a, _, _ => fun x hx => by cases hx
  | x :: R, a, hR, hl => by
    intro y hy hya
    rw [jacG]
    have hx := hR x List.mem_cons_self
    have hR' : InR n R := fun y hy => hR y (List.mem_cons_of_mem _ hy)
    rcases List.mem_cons.1 hy with rfl | hy
    · rw [if_pos hya]
      exact (jacG_le m hR' (by rw [setB_len]; exact hl)).2 _ (by rw [getB_set hx.1 (by omega)]; simp)
    · split
      · exact jacG_has m hR' (by rw [setB_len]; exact hl) y hy hya
      · exact jacG_has m hR' hl y hy hya
theorem jacG_sound {n : Nat} {R0 : Horn} {I : Int → Prop} {m : List Bool} (hm : Sound R0 I m) : ∀ {R : Horn} {a : List Bool}, (∀ x ∈ R, x ∈ R0) → InR n R → a.length = n → Sound R0 I a → Sound R0 I (jacG m R a)
  | [], a, _, _, _, h => h
  | x :: R, a, hs, hR, hl, h => by
    rw [jacG]
    have hx := hR x List.mem_cons_self
    split
    · rename_i ha
      refine jacG_sound hm (fun y hy => hs y (List.mem_cons_of_mem _ hy)) (fun y hy => hR y (List.mem_cons_of_mem _ hy)) (by rw [setB_len]; exact hl) ?_
      intro j hj
      rw [getB_set hx.1 (by omega), Bool.or_eq_true] at hj
      rcases hj with hj | hj
      · rw [of_decide_eq_true hj]
        rw [allF, List.all_eq_true] at ha
        exact .step (hs x List.mem_cons_self) (fun z hz => hm z (ha z hz))
      · exact h j hj
    · exact jacG_sound hm (fun y hy => hs y (List.mem_cons_of_mem _ hy)) (fun y hy => hR y (List.mem_cons_of_mem _ hy)) hl h
/-- A row that has none of its first T. -/
theorem cnt_top : ∀ {T : Nat} {m : List Bool}, (∀ i : Nat, i < T → getB m (i : Int) = false) → cnt m ≤ m.length - T
  | 0, m, _ => by have := cnt_le m; omega
  | T + 1, [], _ => by simp [cnt]
  | T + 1, a :: m, h => by
    have h0 := h 0 (by omega)
    rw [getB_nat] at h0
    have ha : a = false := h0
    have h1 := cnt_top (T := T) (m := m) (fun i hi => by have := h (i + 1) (by omega); rw [getB_nat, List.getD_cons_succ] at this; rw [getB_nat]; exact this)
    subst ha
    have : cnt (false :: m) = cnt m := by simp [cnt]
    rw [this, List.length_cons]
    omega
theorem der_not_term {g : Gram} (h : goodF g = true) {s : Int} (d : Der (hornN g) noneI s) : (g.terms.length : Int) ≤ s := by
  cases d with
  | init h => exact h.elim
  | step hm _ =>
    obtain ⟨r, hr, he⟩ := List.mem_map.1 hm
    injection he with _ he
    rw [← he]
    exact (goodF_mem h r hr).1
theorem jac_null {g : Gram} (h : goodF g = true) : iter (jac (hornN g)) g.names.length (List.replicate (nsym g) false) = nullF g := by
  have hlen : ∀ k, (iter (jac (hornN g)) k (List.replicate (nsym g) false)).length = nsym g := by
    intro k
    induction k with
    | zero => simp [iter]
    | succ k ih => rw [iter_succ, jac, jacG_len]; exact ih
  have hso : ∀ k, Sound (hornN g) noneI (iter (jac (hornN g)) k (List.replicate (nsym g) false)) := by
    intro k
    induction k with
    | zero => exact fun s hs => by rw [iter, getB_replicate] at hs; cases hs
    | succ k ih => rw [iter_succ]; exact jacG_sound ih (fun _ h => h) (hornN_in h) (hlen k) ih
  have hfix := iter_fix (f := jac (hornN g)) (K := g.names.length) (m := List.replicate (nsym g) false) (fun k => jacG_le _ (hornN_in h) (hlen k)) (fun k => by
    have := cnt_top (T := g.terms.length) (m := iter (jac (hornN g)) k (List.replicate (nsym g) false)) (fun i hi => by
      cases hb : getB (iter (jac (hornN g)) k (List.replicate (nsym g) false)) (i : Int) with
      | false => rfl
      | true => have := der_not_term h (hso k _ hb); omega)
    rw [hlen k] at this
    rw [cnt_replicate]
    have hns : nsym g = g.terms.length + g.names.length := rfl
    omega)
  refine (IsDer.mk' (hlen _) (hso _) ⟨fun s hs => hs.elim, fun x hx ha => ?_⟩).unique (nullF_is h)
  rw [← hfix]
  exact jacG_has _ (hornN_in h) (hlen _) x hx ha
end Go.Proofs.Ytmkgcjhimajgiaa

/- Small things that several laws want (in a seat without law 06): the nullable symbols of any grammar, lists compared. -/
set_option linter.unusedVariables false
set_option linter.unusedSimpArgs false
namespace Go.Proofs.Ytmkgcjhimajgiaa
open Go.RowKit Go.Proofs.YtmkgcjhimajgiaaW.PrintWords Go.Proofs.YtmkgcjhimajgiaaW.PrintLast

/-- Either answer, good grammar or not. -/
def OfAny (w : World) (l : List Bool) (e : Ending) (w' : World) : Prop := ∃ A c, e = .returned (.slice A l.length c) ∧ Kd.bool.C w' A l.length l
theorem ofN_any (g : Gram) (A1 A2 A3 : Option Addr) (c1 c2 c3 : Nat) (w : World) (hg : RepG w g A1 A2 A3 c1 c2 c3) : Calls Try.prog 31 #[.agg #[.slice A1 g.terms.length c1, .slice A2 g.names.length c2, .slice A3 g.rules.length c3]] w fun e w' => OfAny w (nullO g) e w' ∧ Below w.heap.size w w' := by
  cases h : goodF g
  · have hn : nullO g = [] := by unfold nullO; rw [h]; rfl
    rw [hn]
    exact (ofN_no g A1 A2 A3 c1 c2 c3 w hg h).mono fun e w' ⟨he, hb⟩ => ⟨⟨none, 0, he, C_none _ _⟩, hb⟩
  · have hn : nullO g = nullF g := by unfold nullO; rw [h]; rfl
    rw [hn]
    have hl := nullF_len h
    have q := goodF_small h
    exact (ofN_yes g A1 A2 A3 c1 c2 c3 w hg h).mono fun e w' ⟨⟨b, he, hbb, _⟩, hb⟩ => ⟨⟨some ⟨b, 0, none⟩, _, he, hbb.C (by rw [hl]; unfold nsym; omega)⟩, hb⟩
theorem keepInts_v (A B : Option Addr) (c d n m : Nat) (xs ys : List Int) (w : World) (hr : kInt.C w A n xs) (hs : kInt.C w B m ys) {v : Bool} (hv : decide (xs = ys) = v) :
    Calls Try.prog 19 #[.slice A n c, .slice B m d] w fun e w' => e = .returned (.bool v) ∧ Below w.heap.size w w' := by
  subst hv; exact keepInts_c A B c d n m xs ys w hr hs
theorem GSmall.own {g : Gram} (h : GSmall g) : g.terms.length ≤ 100000 ∧ g.names.length ≤ 100000 ∧ g.rules.length ≤ 100000 ∧ ∀ r ∈ g.rules, r.right.length ≤ 100000 :=
  ⟨by have := h.terms; omega, by have := h.names; omega, by have := h.rules; omega, fun r hr => by have := h.rights r hr; omega⟩
end Go.Proofs.Ytmkgcjhimajgiaa
