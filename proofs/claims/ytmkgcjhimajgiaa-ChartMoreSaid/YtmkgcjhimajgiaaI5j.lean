/- The law ChartMore,walked: it answers true. -/
import Derived.Test.YtmkgcjhimajgiaaI2j
import Derived.Test.YtmkgcjhimajgiaaJI
import Derived.Test.YtmkgcjhimajgiaaP35j
import Derived.Test.YtmkgcjhimajgiaaX5j
import Derived.Test.YtmkgcjhimajgiaaJK
set_option linter.unusedVariables false
set_option linter.unusedSimpArgs false
namespace Go.Proofs.Ytmkgcjhimajgiaa
open Go.RowKit Go.Proofs.YtmkgcjhimajgiaaW.PrintWords Go.Proofs.YtmkgcjhimajgiaaW.PrintLast Go.Conc

def modM (n : Int) (l : List Int) : List Int:=l.map (· % n)
theorem modM_take {n : Int} {l : List Int} {k : Nat} (h : k < l.length) : modM n (l.take (k + 1)) = modM n (l.take k) ++ [(l[k]'h) % n]:=by
  rw [modM,List.take_succ_eq_append_getElem h,List.map_append];rfl
theorem modM_len (n : Int) (l : List Int) : (modM n l).length = l.length:=by simp [modM]
theorem good1_3m (ts ns : List ByteArray) (rs : List Rule) (A1 A2 A3 : Option Addr) (c1 c2 c3 : Nat) (w : World) (hg : RepG w ⟨ts,ns,rs⟩ A1 A2 A3 c1 c2 c3) (hz : Sized ⟨ts,ns,rs⟩) {v : Bool} (hv : goodF ⟨ts,ns,rs⟩ = v) :
    Calls Try.prog 28 #[.agg #[.slice A1 ts.length c1,.slice A2 ns.length c2,.slice A3 rs.length c3]] w fun e w' => e = .returned (.bool v) ∧ Below w.heap.size w w':=good1_v ⟨ts,ns,rs⟩ A1 A2 A3 c1 c2 c3 w hg hz hv
theorem ofC_3 (ts ns : List ByteArray) (rs : List Rule) (A1 A2 A3 : Option Addr) (c1 c2 c3 : Nat) (B : Option Addr) (d : Nat) (l : List Int) (w : World) (hg : RepG w ⟨ts,ns,rs⟩ A1 A2 A3 c1 c2 c3) (hr : kInt.C w B l.length l) (hgd : goodF ⟨ts,ns,rs⟩ = true) (hl : l.length ≤ 40) (hin : ∀ x ∈ l,-9223372036854775808 ≤ x ∧ x ≤ 9223372036854775807) :
    Calls Try.prog 17 #[.agg #[.slice A1 ts.length c1,.slice A2 ns.length c2,.slice A3 rs.length c3],.slice B l.length d] w fun e w' => (∃ k : CB,e = .returned (.tuple #[.pointer (some ⟨k.b,0,none⟩),.int .i64 0]) ∧ CF w' k ⟨ts,ns,rs⟩ l ∧ w.heap.size ≤ k.b) ∧ Below w.heap.size w w':=ofC_yes ⟨ts,ns,rs⟩ A1 A2 A3 c1 c2 c3 B d l w hg hr hgd hl hin
set_option maxRecDepth 100000 in
theorem mod_c (k : Int) (n z : Nat) (w : World) (hk : -9223372036854775808 ≤ k ∧ k ≤ 9223372036854775807) (hn : 1 ≤ n ∧ n ≤ 1000000) (hz : k % (n : Int) = z) :
    Calls Try.prog 30 #[.int .i64 k,.int .i64 n] w fun e w' => e = .returned (.int .i64 z) ∧ Below w.heap.size w w':=by
  obtain ⟨t,ht⟩ : ∃ t,k.tmod (n : Int) = t:=⟨_,rfl⟩
  have b1 : -(n : Int) < t ∧ t < n:=by
    have h1:=Int.lt_tmod_of_pos k (show (0 : Int) < n by omega)
    have h2:=Int.tmod_lt_of_pos k (show (0 : Int) < n by omega)
    omega
  have e1 : IntKind.i64.wrap (t + n) = t + n:=by rw [IntWalk.i64_in _ (by omega)]
  have e2 : (t + (n : Int)).tmod (n : Int) = z:=by
    have h3:=Int.mul_tdiv_add_tmod k n
    rw [ht] at h3
    rw [Int.tmod_eq_emod_of_nonneg (by omega),Int.add_emod_right,← hz]
    rw [← h3,Int.mul_add_emod_self_left]
  have d1 : decide ((n : Int) < 1) = false:=decide_eq_false (by omega)
  have d2 : ¬ (n : Int) < 1:=by omega
  have d3 : ¬ n = 0:=by omega
  clear hz
  go_enter Try.func30,Try.ntmps30
  go_wp2
  go_ret
  exact ⟨rfl,Below.refl _ _⟩

set_option maxRecDepth 100000 in
set_option maxHeartbeats 16000000 in
theorem chartMore_c (g : Gram) (A1 A2 A3 : Option Addr) (c1 c2 c3 : Nat) (B : Option Addr) (d : Nat) (l : List Int) (xl : Int) (L2 : Option Addr) (cl2 : Nat) (l2 : List Int) (w : World) (hg : RepG w g A1 A2 A3 c1 c2 c3) (hz : Sized g) (hl : kInt.C w B l.length l) (hb : ∀ y ∈ l,-9223372036854775808 ≤ y ∧ y ≤ 9223372036854775807)
    (hxl : -9223372036854775808 ≤ xl ∧ xl ≤ 9223372036854775807) (hxc : l2.length ≤ cl2) (hl2 : kInt.C w L2 l2.length l2) (hlb2 : ∀ y ∈ l2,-9223372036854775808 ≤ y ∧ y ≤ 9223372036854775807) :
    Calls Try.prog 5 #[.agg #[.slice A1 g.terms.length c1,.slice A2 g.names.length c2,.slice A3 g.rules.length c3],.slice B l.length d,.agg #[.int .i64 xl,.slice L2 l2.length cl2]] w fun e w' => e = .returned (.bool true) ∧ Below w.heap.size w w':=by
  obtain ⟨x0,hx0⟩ : ∃ x0,x0 = w.heap.size:=⟨_,rfl⟩
  obtain ⟨v0,hv0⟩ : ∃ v0 : World,v0 = (w.alloc (.cells #[.slice A1 g.terms.length c1,.slice A2 g.names.length c2,.slice A3 g.rules.length c3] 25 (0,0))).alloc (.cells #[.int .i64 xl,.slice L2 l2.length cl2] 46 (0,0)):=⟨_,rfl⟩
  have HB0 : Aside0 (Below w.heap.size w v0):=⟨by rw [hv0];exact ((Below.refl w.heap.size w).alloc (Nat.le_refl _) _).alloc (by simp) _⟩
  have HP0 : Aside0 (v0.heap[x0]? = some (.cells #[.slice A1 g.terms.length c1,.slice A2 g.names.length c2,.slice A3 g.rules.length c3] 25 (0,0))):=⟨by rw [hv0,hx0];exact blk_alloc (blk_new w _) _⟩
  have HT0 : Aside0 (v0.heap[x0 + 1]? = some (.cells #[.int .i64 xl,.slice L2 l2.length cl2] 46 (0,0))):=⟨by rw [hv0,hx0];have h:=blk_new (w.alloc (.cells #[.slice A1 g.terms.length c1,.slice A2 g.names.length c2,.slice A3 g.rules.length c3] 25 (0,0))) (.cells #[.int .i64 xl,.slice L2 l2.length cl2] 46 (0,0));rwa [show (w.alloc (.cells #[.slice A1 g.terms.length c1,.slice A2 g.names.length c2,.slice A3 g.rules.length c3] 25 (0,0))).heap.size = w.heap.size + 1 by simp] at h⟩
  have HG0:=Aside0.mk (hg.below_ HB0.out)
  have HL0:=Aside0.mk (Kd.C_below hl HB0.out)
  have HM0:=Aside0.mk (Kd.C_below hl2 HB0.out)
  have HZ:=Aside0.mk hz
  have HBD:=Aside0.mk hb
  have HLB:=Aside0.mk hlb2
  have HXL:=Aside0.mk hxl
  have hlm:=C_max hl
  have hlm2:=C_max hl2
  have hrm:=C_max hg.rules
  obtain ⟨gv,hgv⟩ : ∃ gv,goodF g = gv:=⟨_,rfl⟩
  have HGV:=Lib.hid hgv
  obtain ⟨l6,hl6⟩ : ∃ b,decide (6 < l.length) = b:=⟨_,rfl⟩
  have i6 : decide (6 < (l.length : Int)) = l6:=dec_ilt hl6
  have HL6:=Lib.hid hl6
  obtain ⟨l8,hl8⟩ : ∃ b,decide (8 < l2.length) = b:=⟨_,rfl⟩
  have i8 : decide (8 < (l2.length : Int)) = l8:=dec_ilt hl8
  have HL8:=Lib.hid hl8
  obtain ⟨r20,hr20⟩ : ∃ b,decide (20 ≤ g.rules.length) = b:=⟨_,rfl⟩
  have i20 : decide (20 ≤ (g.rules.length : Int)) = r20:=dec_int hr20
  have HR20:=Lib.hid hr20
  clear hg hz hl hl2 hb hlb2 hgv hl6 hl8 hr20 hxl
  go_enter Try.func5,Try.ntmps5
  go_upto_region 1 with (fail)
  simp only [← hv0]
  simp only [← hx0]
  have HX0:=Lib.hid hx0
  clear hv0 hx0
  refine pl_start ?_
  refine pl_held (B:=v0.heap.size) (v:=v0) (Below.refl _ _) (fun hHeld => ?_)
  refine pp_ ?_ ?_ ?_ (y:=by have d0:=(blk_cell (blk_below HP0.out hHeld) 0).trans rfl;have d1:=(blk_cell (blk_below HP0.out hHeld) 1).trans rfl;have d2:=(blk_cell (blk_below HP0.out hHeld) 2).trans rfl;have d3:=(blk_cell (blk_below HT0.out hHeld) 0).trans rfl;have d4:=(blk_cell (blk_below HT0.out hHeld) 1).trans rfl;go_simp;rfl)
  refine pp_ ?_ ?_ ?_
  refine goesCL_ (N:=(some 21)) Try.func15 (by kernel_rfl) rfl (by rfl) rfl rfl (small24_c g A1 A2 A3 c1 c2 c3 B d l _ (HG0.out.below_ hHeld) HZ.out) (by simp [Act.eval]) ?_
  rintro e x1_2 ⟨⟨sv,rfl,hsm⟩,hb1_2⟩
  refine ⟨_,rfl,?_⟩
  simp only [Act.put,List.setIfInBounds_toArray,List.set_cons_zero,List.set_cons_succ]
  refine pl_held (B:=v0.heap.size) (v:=v0) (below_then hHeld hHeld.size hb1_2) (fun hHeld => ?_)
  cases sv
  · clear hsm
    refine pl_held (B:=v0.heap.size) (v:=v0) (hHeld) (fun hHeld => ?_)
    refine pp_ ?_ ?_ ?_
    refine pp_ ?_ ?_ ?_
    refine pf_ ?_ ?_
    refine pf_ ?_ ?_
    refine pf_ ?_ ?_
    refine pp_ ?_ ?_ ?_
    refine pp_ ?_ ?_ ?_
    refine pf_ ?_ ?_
    refine pf_ ?_ ?_
    refine pf_ ?_ ?_
    refine pp_ ?_ ?_ ?_
    refine pp_ ?_ ?_ ?_
    refine pf_ ?_ ?_
    refine pf_ ?_ ?_
    refine pf_ ?_ ?_
    refine pf_ ?_ ?_
    refine pp_ ?_ ?_ ?_
    refine pp_ ?_ ?_ ?_
    refine pf_ ?_ ?_
    refine pf_ ?_ ?_
    refine pf_ ?_ ?_
    refine pf_ ?_ ?_
    refine pp_ ?_ ?_ ?_
    refine pl_nil ?_
    go_wp2_with (go_at_call 16;refine (wakes24_c _).mono ?_;rintro e w9 ⟨rfl,hb9⟩)
    go_ret
    exact ⟨rfl,below_then (below_then HB0.out HB0.out.size hHeld) (below_then HB0.out HB0.out.size hHeld).size hb9⟩
  have HSM:=Aside0.mk (hsm rfl)
  clear hsm
  cases gv
  · refine pl_held (B:=v0.heap.size) (v:=v0) (hHeld) (fun hHeld => ?_)
    refine pp_ ?_ ?_ ?_
    refine pp_ ?_ ?_ ?_
    refine pp_ ?_ ?_ ?_ (y:=by have d0:=(blk_cell (blk_below HP0.out hHeld) 0).trans rfl;have d1:=(blk_cell (blk_below HP0.out hHeld) 1).trans rfl;have d2:=(blk_cell (blk_below HP0.out hHeld) 2).trans rfl;have d3:=(blk_cell (blk_below HT0.out hHeld) 0).trans rfl;have d4:=(blk_cell (blk_below HT0.out hHeld) 1).trans rfl;go_simp;rfl)
    refine goesCL_ (N:=(some 25)) Try.func28 (by kernel_rfl) rfl (by rfl) rfl rfl (good1_v g A1 A2 A3 c1 c2 c3 _ (HG0.out.below_ hHeld) HZ.out HGV.out) (by simp [Act.eval]) ?_
    rintro e x1_6 ⟨rfl,hb1_6⟩
    refine ⟨_,rfl,?_⟩
    simp only [Act.put,List.setIfInBounds_toArray,List.set_cons_zero,List.set_cons_succ]
    refine pl_held (B:=v0.heap.size) (v:=v0) (below_then hHeld hHeld.size hb1_6) (fun hHeld => ?_)
    refine pp_ ?_ ?_ ?_
    refine pp_ ?_ ?_ ?_
    refine pp_ ?_ ?_ ?_
    refine pf_ ?_ ?_
    refine pf_ ?_ ?_
    refine pf_ ?_ ?_
    refine pp_ ?_ ?_ ?_
    refine pp_ ?_ ?_ ?_
    refine pf_ ?_ ?_
    refine pf_ ?_ ?_
    refine pf_ ?_ ?_
    refine pf_ ?_ ?_
    refine pp_ ?_ ?_ ?_
    refine pp_ ?_ ?_ ?_
    refine pf_ ?_ ?_
    refine pf_ ?_ ?_
    refine pf_ ?_ ?_
    refine pf_ ?_ ?_
    refine pp_ ?_ ?_ ?_
    refine pl_nil ?_
    go_wp2_with (go_at_call 16;refine (wakes24_c _).mono ?_;rintro e w9 ⟨rfl,hb9⟩)
    go_ret
    exact ⟨rfl,below_then (below_then HB0.out HB0.out.size hHeld) (below_then HB0.out HB0.out.size hHeld).size hb9⟩
  cases l6
  case true =>
    refine pl_held (B:=v0.heap.size) (v:=v0) (hHeld) (fun hHeld => ?_)
    refine pp_ ?_ ?_ ?_
    refine pp_ ?_ ?_ ?_
    refine pp_ ?_ ?_ ?_ (y:=by have d0:=(blk_cell (blk_below HP0.out hHeld) 0).trans rfl;have d1:=(blk_cell (blk_below HP0.out hHeld) 1).trans rfl;have d2:=(blk_cell (blk_below HP0.out hHeld) 2).trans rfl;have d3:=(blk_cell (blk_below HT0.out hHeld) 0).trans rfl;have d4:=(blk_cell (blk_below HT0.out hHeld) 1).trans rfl;go_simp;rfl)
    refine goesCL_ (N:=(some 25)) Try.func28 (by kernel_rfl) rfl (by rfl) rfl rfl (good1_v g A1 A2 A3 c1 c2 c3 _ (HG0.out.below_ hHeld) HZ.out HGV.out) (by simp [Act.eval]) ?_
    rintro e x1_6 ⟨rfl,hb1_6⟩
    refine ⟨_,rfl,?_⟩
    simp only [Act.put,List.setIfInBounds_toArray,List.set_cons_zero,List.set_cons_succ]
    refine pl_held (B:=v0.heap.size) (v:=v0) (below_then hHeld hHeld.size hb1_6) (fun hHeld => ?_)
    refine pp_ ?_ ?_ ?_
    refine pp_ ?_ ?_ ?_
    refine pp_ ?_ ?_ ?_
    refine pp_ ?_ ?_ ?_
    refine pp_ ?_ ?_ ?_
    refine pp_ ?_ ?_ ?_
    refine pp_ ?_ ?_ ?_
    refine pp_ ?_ ?_ ?_
    refine pf_ ?_ ?_
    refine pf_ ?_ ?_
    refine pf_ ?_ ?_
    refine pf_ ?_ ?_
    refine pp_ ?_ ?_ ?_
    refine pp_ ?_ ?_ ?_
    refine pf_ ?_ ?_
    refine pf_ ?_ ?_
    refine pf_ ?_ ?_
    refine pf_ ?_ ?_
    refine pp_ ?_ ?_ ?_
    refine pl_nil ?_
    go_wp2_with (go_at_call 16;refine (wakes24_c _).mono ?_;rintro e w9 ⟨rfl,hb9⟩)
    go_ret
    exact ⟨rfl,below_then (below_then HB0.out HB0.out.size hHeld) (below_then HB0.out HB0.out.size hHeld).size hb9⟩
  cases l8
  case true =>
    refine pl_held (B:=v0.heap.size) (v:=v0) (hHeld) (fun hHeld => ?_)
    refine pp_ ?_ ?_ ?_
    refine pp_ ?_ ?_ ?_
    refine pp_ ?_ ?_ ?_ (y:=by have d0:=(blk_cell (blk_below HP0.out hHeld) 0).trans rfl;have d1:=(blk_cell (blk_below HP0.out hHeld) 1).trans rfl;have d2:=(blk_cell (blk_below HP0.out hHeld) 2).trans rfl;have d3:=(blk_cell (blk_below HT0.out hHeld) 0).trans rfl;have d4:=(blk_cell (blk_below HT0.out hHeld) 1).trans rfl;go_simp;rfl)
    refine goesCL_ (N:=(some 25)) Try.func28 (by kernel_rfl) rfl (by rfl) rfl rfl (good1_v g A1 A2 A3 c1 c2 c3 _ (HG0.out.below_ hHeld) HZ.out HGV.out) (by simp [Act.eval]) ?_
    rintro e x1_6 ⟨rfl,hb1_6⟩
    refine ⟨_,rfl,?_⟩
    simp only [Act.put,List.setIfInBounds_toArray,List.set_cons_zero,List.set_cons_succ]
    refine pl_held (B:=v0.heap.size) (v:=v0) (below_then hHeld hHeld.size hb1_6) (fun hHeld => ?_)
    refine pp_ ?_ ?_ ?_
    refine pp_ ?_ ?_ ?_
    refine pp_ ?_ ?_ ?_
    refine pp_ ?_ ?_ ?_
    refine pp_ ?_ ?_ ?_
    refine pp_ ?_ ?_ ?_
    refine pp_ ?_ ?_ ?_
    refine pp_ ?_ ?_ ?_
    refine pp_ ?_ ?_ ?_
    refine pp_ ?_ ?_ ?_ (y:=by have d0:=(blk_cell (blk_below HP0.out hHeld) 0).trans rfl;have d1:=(blk_cell (blk_below HP0.out hHeld) 1).trans rfl;have d2:=(blk_cell (blk_below HP0.out hHeld) 2).trans rfl;have d3:=(blk_cell (blk_below HT0.out hHeld) 0).trans rfl;have d4:=(blk_cell (blk_below HT0.out hHeld) 1).trans rfl;go_simp;rfl)
    refine pp_ ?_ ?_ ?_
    refine pp_ ?_ ?_ ?_
    refine pp_ ?_ ?_ ?_
    refine pp_ ?_ ?_ ?_
    refine pf_ ?_ ?_
    refine pf_ ?_ ?_
    refine pf_ ?_ ?_
    refine pf_ ?_ ?_
    refine pp_ ?_ ?_ ?_
    refine pl_nil ?_
    go_wp2_with (go_at_call 16;refine (wakes24_c _).mono ?_;rintro e w9 ⟨rfl,hb9⟩)
    go_ret
    exact ⟨rfl,below_then (below_then HB0.out HB0.out.size hHeld) (below_then HB0.out HB0.out.size hHeld).size hb9⟩
  refine pl_held (B:=v0.heap.size) (v:=v0) (hHeld) (fun hHeld => ?_)
  refine pp_ ?_ ?_ ?_
  refine pp_ ?_ ?_ ?_
  refine pp_ ?_ ?_ ?_ (y:=by have d0:=(blk_cell (blk_below HP0.out hHeld) 0).trans rfl;have d1:=(blk_cell (blk_below HP0.out hHeld) 1).trans rfl;have d2:=(blk_cell (blk_below HP0.out hHeld) 2).trans rfl;have d3:=(blk_cell (blk_below HT0.out hHeld) 0).trans rfl;have d4:=(blk_cell (blk_below HT0.out hHeld) 1).trans rfl;go_simp;rfl)
  refine goesCL_ (N:=(some 25)) Try.func28 (by kernel_rfl) rfl (by rfl) rfl rfl (good1_v g A1 A2 A3 c1 c2 c3 _ (HG0.out.below_ hHeld) HZ.out HGV.out) (by simp [Act.eval]) ?_
  rintro e x1_6 ⟨rfl,hb1_6⟩
  refine ⟨_,rfl,?_⟩
  simp only [Act.put,List.setIfInBounds_toArray,List.set_cons_zero,List.set_cons_succ]
  refine pl_held (B:=v0.heap.size) (v:=v0) (below_then hHeld hHeld.size hb1_6) (fun hHeld => ?_)
  refine pp_ ?_ ?_ ?_
  refine pp_ ?_ ?_ ?_
  refine pp_ ?_ ?_ ?_
  refine pp_ ?_ ?_ ?_
  refine pp_ ?_ ?_ ?_
  refine pp_ ?_ ?_ ?_
  refine pp_ ?_ ?_ ?_
  refine pp_ ?_ ?_ ?_
  refine pp_ ?_ ?_ ?_
  refine pp_ ?_ ?_ ?_ (y:=by have d0:=(blk_cell (blk_below HP0.out hHeld) 0).trans rfl;have d1:=(blk_cell (blk_below HP0.out hHeld) 1).trans rfl;have d2:=(blk_cell (blk_below HP0.out hHeld) 2).trans rfl;have d3:=(blk_cell (blk_below HT0.out hHeld) 0).trans rfl;have d4:=(blk_cell (blk_below HT0.out hHeld) 1).trans rfl;go_simp;rfl)
  refine pp_ ?_ ?_ ?_
  refine pp_ ?_ ?_ ?_
  refine pp_ ?_ ?_ ?_
  refine pp_ ?_ ?_ ?_
  refine pp_ ?_ ?_ ?_
  refine pp_ ?_ ?_ ?_ (y:=by have d0:=(blk_cell (blk_below HP0.out hHeld) 0).trans rfl;have d1:=(blk_cell (blk_below HP0.out hHeld) 1).trans rfl;have d2:=(blk_cell (blk_below HP0.out hHeld) 2).trans rfl;have d3:=(blk_cell (blk_below HT0.out hHeld) 0).trans rfl;have d4:=(blk_cell (blk_below HT0.out hHeld) 1).trans rfl;go_simp;rfl)
  refine pp_ ?_ ?_ ?_
  refine pp_ ?_ ?_ ?_
  refine pp_ ?_ ?_ ?_
  refine pl_nil ?_
  cases r20
  case true =>
    go_wp2_with (go_at_call 16;refine (wakes24_c _).mono ?_;rintro e w9 ⟨rfl,hb9⟩)
    go_ret
    exact ⟨rfl,below_then (below_then HB0.out HB0.out.size hHeld) (below_then HB0.out HB0.out.size hHeld).size hb9⟩
  have hln6 : l.length ≤ 6:=by have:=of_decide_eq_false HL6.out;omega
  have hln8 : l2.length ≤ 8:=by have:=of_decide_eq_false HL8.out;omega
  obtain ⟨q1,q2,q3,q4⟩:=goodF_small HGV.out
  clear i6 i8 i20
  obtain ⟨n,hn⟩ : ∃ n,nsym g = n:=⟨_,rfl⟩
  have hn80 : n ≤ 80:=by rw [← hn];unfold nsym;omega
  have hn1 : 1 ≤ n:=by rw [← hn];unfold nsym;omega
  have hnT : g.terms.length < n:=by rw [← hn];unfold nsym;omega
  have e1 : IntKind.i64.wrap ((g.terms.length : Int) + (g.names.length : Int)) = (n : Int):=by rw [IntWalk.i64_in _ (by omega),← hn];unfold nsym;omega
  have HN:=Lib.hid hn
  have HV5:=Aside0.mk (below_then HB0.out HB0.out.size hHeld)
  have K6:=Aside0.mk (blk_below HP0.out hHeld)
  have HT6:=Aside0.mk (blk_below HT0.out hHeld)
  have HG6:=Aside0.mk (HG0.out.below_ hHeld)
  have HL5:=Aside0.mk (Kd.C_below HL0.out hHeld)
  have HM5:=Aside0.mk (Kd.C_below HM0.out hHeld)
  clear hn hHeld hb1_2 hb1_6 HP0 HT0 HG0 HL0 HM0 HB0
  rename World => wo
  go_upto_region 3 with (fail)
  refine pl_start ?_
  refine pl_held (B:=wo.heap.size) (v:=wo) (Below.refl _ _) (fun hHeld => ?_)
  refine pp_ ?_ ?_ ?_ (y:=by have d0:=(blk_cell (blk_below K6.out hHeld) 0).trans rfl;have d1:=(blk_cell (blk_below K6.out hHeld) 1).trans rfl;have d2:=(blk_cell (blk_below K6.out hHeld) 2).trans rfl;go_simp;rfl)
  refine goesCL_ (N:=(some 47)) Try.func29 (by kernel_rfl) rfl (by rfl) rfl rfl (own_c g A1 A2 A3 c1 c2 c3 _ (HG6.out.below_ hHeld) HSM.out.gs.own) (by simp [Act.eval]) ?_
  rintro e x3_1 ⟨⟨B1,B2,B3,e1',e2,e3,rfl,ho⟩,hb3_1⟩
  refine ⟨_,rfl,?_⟩
  simp only [Act.put,List.setIfInBounds_toArray,List.set_cons_zero,List.set_cons_succ]
  refine pl_held (B:=wo.heap.size) (v:=wo) (below_then hHeld hHeld.size hb3_1) (fun hHeld => ?_)
  refine pl_value (N:=(some 7)) (v:=?v142) (w1:=?w142) (by rfl) rfl ?h142 ?_
  case h142 => (go_simp;first | rfl | (constructor;rfl;rfl))
  simp only [Act.put,List.setIfInBounds_toArray,List.set_cons_zero,List.set_cons_succ]
  refine pl_skip (w1:=?w143) (by rfl) rfl ?h143 ?_
  case h143 => (go_simp;rfl)
  refine pl_world ?_
  intro x3_3 hb3_3 hx3_3 hs3_3 hq3_3
  refine pl_held (B:=wo.heap.size) (v:=wo) (below_then hHeld hHeld.size hb3_3) (fun hHeld => ?_)
  refine pl_nil ?_
  have HO:=Aside0.mk (ho.below_ hb3_3)
  have HW:=Aside0.mk hHeld
  have HQ:=Aside0.mk hx3_3
  have hqw : wo.heap.size ≤ x3_1.heap.size:=hb3_1.size
  have HQW:=Aside0.mk hqw
  have K7:=Aside0.mk (blk_below K6.out hHeld)
  have HT7:=Aside0.mk (blk_below HT6.out hHeld)
  have HL7:=Aside0.mk (Kd.C_below HL5.out hHeld)
  have HM7:=Aside0.mk (Kd.C_below HM5.out hHeld)
  have HG7:=Aside0.mk (HG6.out.below_ hHeld)
  obtain ⟨q0,hq0⟩ : ∃ q0,q0 = x3_1.heap.size:=⟨_,rfl⟩
  rw [← hq0] at HQ HQW
  have K6':=K6
  have HG6':=HG6
  have HL5':=HL5
  clear ho hHeld hx3_3 hb3_3 hb3_1 hq3_3 hqw K6 HT6 HG6 HL5 HM5
  have hs3 : q0 < x3_3.heap.size:=by rw [hs3_3,hq0];omega
  clear hs3_3
  simp only [← hq0]
  clear hq0
  have a1:=(blk_cell K7.out 0).trans rfl
  have a2:=(blk_cell K7.out 1).trans rfl
  rename World => wp
  go_upto_region 5 with (fail)
  clear a1 a2
  obtain ⟨zl,hzl⟩ : ∃ zl : Nat,xl % (g.names.length : Int) = (zl : Int):=⟨(xl % (g.names.length : Int)).toNat,by have:=Int.emod_nonneg xl (show (g.names.length : Int) ≠ 0 by omega);omega⟩
  have hzb : zl < g.names.length:=by have:=Int.emod_lt_of_pos xl (show (0 : Int) < g.names.length by omega);omega
  obtain ⟨lx,hlx⟩ : ∃ lx : Nat,lx = g.terms.length + zl:=⟨_,rfl⟩
  have he1 : IntKind.i64.wrap ((g.terms.length : Int) + (zl : Int)) = (lx : Int):=by rw [IntWalk.i64_in _ (by omega),hlx];omega
  have HLX:=Lib.hid hlx
  have HZL:=Lib.hid hzl
  clear hlx hzl e1
  refine start_ (n:=13) (S:=fun w' => Below wp.heap.size wp w') (ds:=[12]) (lb 13 0x0) (by kernel_rfl) rfl (by kernel_rfl) (below_drew1 (Below.refl _ _)) (fun hHeld => ?_)
  refine pu_ ?_ ?_ 0 (some 55) (lb 13 0x1) ?_
  refine pu_ ?_ ?_ 3 (some 58) (lb 13 0x9) ?_
  refine pu_ ?_ ?_ 5 (some 60) (lb 13 0x29) ?_
  refine ta_ ?_ ?_ 1 (some 56) (lb 13 0x2b) hHeld ?_ (y:=by rintro w' hS;have d0:=(blk_cell (blk_below K7.out hS) 0).trans rfl;have d1:=(blk_cell (blk_below K7.out hS) 1).trans rfl;have d2:=(blk_cell (blk_below K7.out hS) 2).trans rfl;have d3:=(blk_cell (blk_below HT7.out hS) 0).trans rfl;have d4:=(blk_cell (blk_below HT7.out hS) 1).trans rfl;go_simp;with_reducible rfl)
  refine pu_ ?_ ?_ 2 (some 57) (lb 13 0x2f) ?_
  refine ta_ ?_ ?_ 4 (some 59) (lb 13 0x3f) hHeld ?_ (y:=by rintro w' hS;have d0:=(blk_cell (blk_below K7.out hS) 0).trans rfl;have d1:=(blk_cell (blk_below K7.out hS) 1).trans rfl;have d2:=(blk_cell (blk_below K7.out hS) 2).trans rfl;have d3:=(blk_cell (blk_below HT7.out hS) 0).trans rfl;have d4:=(blk_cell (blk_below HT7.out hS) 1).trans rfl;go_simp;with_reducible rfl)
  refine ta_ ?_ ?_ 6 (some 61) (lb 13 0x7f) hHeld ?_ (y:=by rintro w' hS;have d0:=(blk_cell (blk_below K7.out hS) 0).trans rfl;have d1:=(blk_cell (blk_below K7.out hS) 1).trans rfl;have d2:=(blk_cell (blk_below K7.out hS) 2).trans rfl;have d3:=(blk_cell (blk_below HT7.out hS) 0).trans rfl;have d4:=(blk_cell (blk_below HT7.out hS) 1).trans rfl;go_simp;with_reducible rfl)
  refine pu_ ?_ ?_ 7 (some 62) (lb 13 0xff) ?_
  refine join_ (σ:=Nat) 1 (lb 13 0xfff) (fun s => [(63,.int .i64 (zl : Int)),(64,.int .i64 (lx : Int)),(65,.agg #[.int .i64 (lx : Int),.slice none 0 0]),(9,.pointer (some ⟨s,0,none⟩))]) (fun s w' => Below wp.heap.size wp w' ∧ w'.heap[s]? = some (.cells #[.int .i64 0,.slice none 0 0] 46 (0,0)) ∧ wp.heap.size ≤ s) ?_ ?_
  rotate_left
  · intro hrest
    simp only [putAll,Act.put,List.setIfInBounds_toArray,List.set_cons_zero,List.set_cons_succ] at hrest
    refine two_ (i:=8) (j:=11) (Ni:=(some 63)) (Nj:=(some 9)) (lb 13 0x1ff) (lb 13 0x8ff) rfl rfl rfl rfl (by kernel_rfl) (by decide) (by decide) (fun K hK => ?_) (fun K hK => ?_)
    · (refine goesC_ Try.func30 (by kernel_rfl) rfl (by rfl) rfl rfl (mod_c xl g.names.length zl _ HXL.out (by omega) HZL.out) (by simp [Act.eval]) ?_;rintro e w9 ⟨rfl,hb9⟩;refine ⟨_,rfl,?_⟩;have HQ9:=Aside0.mk (below_then hHeld hHeld.size hb9);have HB9:=Aside0.mk hb9;clear hb9;refine hK.out _ _ HQ9.out (fun hHeld => ?_))
      clear hK K
      refine norm_ (a':=?_) ?_ ?_
      rotate_left
      · (show Act.put _ (some 63) _ = _;simp only [Act.put,List.setIfInBounds_toArray,List.set_cons_zero,List.set_cons_succ];rfl)
      refine pure_ (i:=9) (N:=(some 64)) (v:=?_) (a':=?_) (lb 13 0x3ff) rfl rfl (by kernel_rfl) (fun _ _ _ h => h) (Or.inl ⟨by rfl,?_⟩) ?_ ?_
      rotate_left
      · (intro w';go_simp;with_reducible rfl)
      rotate_left
      · (simp only [Act.put,List.setIfInBounds_toArray,List.set_cons_zero,List.set_cons_succ];rfl)
      refine pure_ (i:=10) (N:=(some 65)) (v:=?_) (a':=?_) (lb 13 0x7ff) rfl rfl (by kernel_rfl) (fun _ _ _ h => h) (Or.inl ⟨by rfl,?_⟩) ?_ ?_
      rotate_left
      · (intro w';go_simp;with_reducible rfl)
      rotate_left
      · (simp only [Act.put,List.setIfInBounds_toArray,List.set_cons_zero,List.set_cons_succ];rfl)
      refine one_ (i:=11) (N:=(some 9)) (lb 13 0xfff) rfl rfl (by kernel_rfl) (by decide) (fun K hK => ?_)
      refine value_ (w1:=?_) (v:=?_) (by rfl) rfl ?_ ?_
      rotate_left 2
      · (go_simp;constructor;rfl;rfl)
      refine hK.out _ _ (hHeld.alloc hHeld.size _) (fun hHeld => ?_)
      clear hK K
      refine norm_ (a':=?_) ?_ ?_
      rotate_left
      · (show Act.put _ (some 9) _ = _;simp only [Act.put,List.setIfInBounds_toArray,List.set_cons_zero,List.set_cons_succ];rfl)
      first | exact hrest w9.heap.size _ ⟨hHeld,blk_new _ _,HQ9.out.size⟩ | exact hrest wp.heap.size _ ⟨hHeld,blk_below (blk_drew (blk_new _ _)) HB9.out,Nat.le_refl _⟩
    · refine value_ (w1:=?_) (v:=?_) (by rfl) rfl ?_ ?_
      rotate_left 2
      · (go_simp;constructor;rfl;rfl)
      refine hK.out _ _ (hHeld.alloc hHeld.size _) (fun hHeld => ?_)
      clear hK K
      refine norm_ (a':=?_) ?_ ?_
      rotate_left
      · (show Act.put _ (some 9) _ = _;simp only [Act.put,List.setIfInBounds_toArray,List.set_cons_zero,List.set_cons_succ];rfl)
      refine one_ (i:=8) (N:=(some 63)) (lb 13 0x9ff) rfl rfl (by kernel_rfl) (by decide) (fun K hK => ?_)
      (refine goesC_ Try.func30 (by kernel_rfl) rfl (by rfl) rfl rfl (mod_c xl g.names.length zl _ HXL.out (by omega) HZL.out) (by simp [Act.eval]) ?_;rintro e w9 ⟨rfl,hb9⟩;refine ⟨_,rfl,?_⟩;have HQ9:=Aside0.mk (below_then hHeld hHeld.size hb9);have HB9:=Aside0.mk hb9;clear hb9;refine hK.out _ _ HQ9.out (fun hHeld => ?_))
      clear hK K
      refine norm_ (a':=?_) ?_ ?_
      rotate_left
      · (show Act.put _ (some 63) _ = _;simp only [Act.put,List.setIfInBounds_toArray,List.set_cons_zero,List.set_cons_succ];rfl)
      refine pure_ (i:=9) (N:=(some 64)) (v:=?_) (a':=?_) (lb 13 0xbff) rfl rfl (by kernel_rfl) (fun _ _ _ h => h) (Or.inl ⟨by rfl,?_⟩) ?_ ?_
      rotate_left
      · (intro w';go_simp;with_reducible rfl)
      rotate_left
      · (simp only [Act.put,List.setIfInBounds_toArray,List.set_cons_zero,List.set_cons_succ];rfl)
      refine pure_ (i:=10) (N:=(some 65)) (v:=?_) (a':=?_) (lb 13 0xfff) rfl rfl (by kernel_rfl) (fun _ _ _ h => h) (Or.inl ⟨by rfl,?_⟩) ?_ ?_
      rotate_left
      · (intro w';go_simp;with_reducible rfl)
      rotate_left
      · (simp only [Act.put,List.setIfInBounds_toArray,List.set_cons_zero,List.set_cons_succ];rfl)
      first | exact hrest w9.heap.size _ ⟨hHeld,blk_new _ _,HQ9.out.size⟩ | exact hrest wp.heap.size _ ⟨hHeld,blk_below (blk_drew (blk_new _ _)) HB9.out,Nat.le_refl _⟩
  rintro s w' hF
  obtain ⟨hHeld,HT,hb1⟩:=hF
  refine norm_ (a':=?_) ?_ ?_
  rotate_left
  · (simp only [putAll,Act.put,List.setIfInBounds_toArray,List.set_cons_zero,List.set_cons_succ];rfl)
  refine ls_ 12 none (lb 13 0x1fff) (fun K hK => ?_)
  (have d0:=(blk_cell HT 0).trans rfl;have d1:=(blk_cell HT 1).trans rfl;have f0:=blk_frozen HT 0;have f1:=blk_frozen HT 1)
  refine skip_ (w1:=?_) (by rfl) rfl ?_ ?_
  rotate_left
  · (go_simp;first | rfl | (constructor;rfl;rfl))
  refine hK.out _ _ ?_
  clear hK K
  refine done_ (by kernel_rfl) ?_
  obtain ⟨W5,hW5⟩ : ∃ W5,W5 = (w'.setCell ⟨s,0,none⟩ (.int .i64 (lx : Int))).setCell ⟨s,1,none⟩ (.slice none 0 0):=⟨_,rfl⟩
  have KX0 : Aside0 (W5.heap[s]? = some (.cells #[.int .i64 (lx : Int),.slice none 0 0] 46 (0,0))):=⟨by rw [hW5];exact blk_set (blk_set HT 0 _) 1 _⟩
  have HX0' : Aside0 (Below wp.heap.size wp W5):=⟨by rw [hW5];exact below_set (below_set hHeld hb1 _ _) hb1 _ _⟩
  rw [← hW5]
  have HS1:=Aside0.mk hb1
  have HQX : Aside0 (wo.heap.size ≤ wp.heap.size):=⟨HW.out.size⟩
  clear hW5 HT hHeld hb1 d0 d1 f0 f1 he1
  go_wp2
  go_loopw [10] (fun i wr => ∃ (k : Nat) (vR : Value),k ≤ l2.length ∧ i = .int .i64 k ∧ Aside0 (wr.heap[s]? = some (.cells #[.int .i64 (lx : Int),vR] 46 (0,0))) ∧ Aside0 (kInt.R 3 wr wp.heap.size (fun _ => True) vR (modM n (l2.take k))) ∧ Aside0 (Below wp.heap.size wp wr)) (fun i _ => l2.length - (intOf i).toNat)
  case atStart => exact ⟨0,_,Nat.zero_le _,rfl,KX0,⟨Kd.R_nil _ _ _ _ _⟩,HX0'⟩
  case round =>
    clear KX0 HX0'
    obtain ⟨k,vR,hk,rfl,KX,HR,HX⟩:=hrel
    rename World => wi
    have b1:=(blk_cell (blk_below HT7.out HX.out) 1).trans rfl
    by_cases hlt : k < l2.length
    · obtain ⟨ad,ead,hy⟩:=at_int (Kd.C_below HM7.out HX.out) k hlt
      cases ead
      have i1 : (0 : Int) ≤ (k : Int):=by omega
      have i2 : (k : Int) < (l2.length : Int):=by omega
      have hxb:=HLB.out (l2[k]'hlt) (List.getElem_mem _)
      have HT:=Lib.hid (modM_take (n:=n) hlt)
      have hpl:=modM_len n (l2.take k)
      rw [List.length_take,Nat.min_eq_left hk] at hpl
      obtain ⟨x,hx⟩ : ∃ x,x = l2[k]'hlt:=⟨_,rfl⟩
      rw [← hx] at hy hxb HT
      have HY:=Aside0.mk hy
      clear hx hy
      obtain ⟨z,hz⟩ : ∃ z : Nat,x % (n : Int) = z:=⟨(x % (n : Int)).toNat,by have:=Int.emod_nonneg x (show (n : Int) ≠ 0 by omega);omega⟩
      obtain ⟨P,hP⟩ : ∃ P,P = modM n (l2.take k):=⟨_,rfl⟩
      rw [← hP] at HR HT hpl
      have HPL:=Lib.hid hpl
      have HZM:=Lib.hid hz
      have HXB:=Aside0.mk hxb
      obtain ⟨Ar,cr,rfl⟩:=Kd.R_slice HR.out
      have HT9:=Aside0.mk (blk_below HT7.out HX.out)
      clear hP hpl hz
      go_upto_region 9 with (fail)
      clear b1
      refine start_ (n:=13) (S:=fun w' => Below wi.heap.size wi w') (ds:=[10,12]) (lb 13 0x0) (by kernel_rfl) rfl (by kernel_rfl) (below_drew1 (Below.refl _ _)) (fun hHeld => ?_)
      refine pu_ ?_ ?_ 0 (some 73) (lb 13 0x1) ?_
      refine pu_ ?_ ?_ 2 (some 75) (lb 13 0x5) ?_
      refine pu_ ?_ ?_ 4 (some 77) (lb 13 0x15) ?_
      refine pu_ ?_ ?_ 7 (some 80) (lb 13 0x95) ?_
      refine ta_ ?_ ?_ 1 (some 74) (lb 13 0x97) hHeld ?_ (y:=by rintro w' hS;have d0:=(blk_cell (blk_below KX.out hS) 0).trans rfl;have d1:=(blk_cell (blk_below KX.out hS) 1).trans rfl;have d2:=(blk_cell (blk_below HT9.out hS) 0).trans rfl;have d3:=(blk_cell (blk_below HT9.out hS) 1).trans rfl;have d4:=cell_at hS HY.out;go_simp;with_reducible rfl)
      refine ta_ ?_ ?_ 3 (some 76) (lb 13 0x9f) hHeld ?_ (y:=by rintro w' hS;have d0:=(blk_cell (blk_below KX.out hS) 0).trans rfl;have d1:=(blk_cell (blk_below KX.out hS) 1).trans rfl;have d2:=(blk_cell (blk_below HT9.out hS) 0).trans rfl;have d3:=(blk_cell (blk_below HT9.out hS) 1).trans rfl;have d4:=cell_at hS HY.out;go_simp;with_reducible rfl)
      refine pu_ ?_ ?_ 5 (some 78) (lb 13 0xbf) ?_
      refine ta_ ?_ ?_ 6 (some 79) (lb 13 0xff) hHeld ?_ (y:=by rintro w' hS;have d0:=(blk_cell (blk_below KX.out hS) 0).trans rfl;have d1:=(blk_cell (blk_below KX.out hS) 1).trans rfl;have d2:=(blk_cell (blk_below HT9.out hS) 0).trans rfl;have d3:=(blk_cell (blk_below HT9.out hS) 1).trans rfl;have d4:=cell_at hS HY.out;go_simp;with_reducible rfl)
      refine on_ 8 (some 81) (lb 13 0x1ff) (fun K hK => ?_)
      (refine goesC_ Try.func30 (by kernel_rfl) rfl (by rfl) rfl rfl (mod_c x n z _ HXB.out (by omega) HZM.out) (by simp [Act.eval]) ?_;rintro e w9 ⟨rfl,hb9⟩;refine ⟨_,rfl,?_⟩;have HQ9:=Aside0.mk (below_then hHeld hHeld.size hb9);clear hb9;refine hK.out _ _ HQ9.out (fun hHeld => ?_))
      clear hK K
      refine nm_ ?_ (some 81) ?_
      refine on_ 9 (some 82) (lb 13 0x3ff) (fun K hK => ?_)
      refine va_ ?_ ?_ ?_
      refine hK.out _ _ (hHeld.alloc hHeld.size _) (fun hHeld => ?_)
      clear hK K
      refine nm_ ?_ (some 82) ?_
      refine ls_ 10 (some 83) (lb 13 0x7ff) (fun K hK => ?_)
      (refine app_int_step (w0:=wp) (base:=wp.heap.size) (ok:=fun _ => True) (xs:=P) (p:=(z : Int)) (by rfl) rfl (Kd.R_below HR.out HQ9.out) (below_then HX.out HX.out.size HQ9.out) (Nat.le_trans HX.out.size HQ9.out.size) (by have:=HPL.out;omega) (fun _ _ => trivial) (by simp [Act.eval]) (by simp [Act.eval]) ?_;intro v3 w3 A3;obtain ⟨Av3,cv3,rfl⟩:=A3.shape;have e1:=blk_grown (blk_below KX.out HQ9.out) A3.grown (Kd.R_ne (Kd.R_below HR.out HQ9.out) (blk_below KX.out HQ9.out) (by decide));have E1:=Aside0.mk e1;have e4:=(blk_cell e1 1).trans rfl;have e5:=blk_frozen e1 1;have A3':=Aside0.mk A3;clear A3 e1)
      refine hK.out _ _ ?_
      clear hK K
      refine nm_ ?_ (some 83) ?_
      refine pu_ ?_ ?_ 11 (some 84) (lb 13 0xfff) ?_
      refine ls_ 12 none (lb 13 0x1fff) (fun K hK => ?_)
      skip
      refine skip_ (w1:=?_) (by rfl) rfl ?_ ?_
      rotate_left
      · (go_simp;first | rfl | (constructor;rfl;rfl))
      refine hK.out _ _ ?_
      clear hK K
      refine done_ (by kernel_rfl) ?_
      have F1 : Aside0 ((w3.setCell ⟨s,1,none⟩ (.slice Av3 (P.length + 1) cv3)).heap[s]? = some (.cells #[.int .i64 (lx : Int),.slice Av3 (P.length + 1) cv3] 46 (0,0))):=⟨(blk_set E1.out 1 _).trans rfl⟩
      have F2:=Aside0.mk (Kd.R_set A3'.out.row E1.out (show ∀ q,q ∈ [3] → q ≠ 46 by decide) 1 (.slice Av3 (P.length + 1) cv3))
      have F3:=Aside0.mk (below_set A3'.out.below HS1.out 1 (.slice Av3 (P.length + 1) cv3))
      clear e4 e5
      go_wp2
      go_roundw
      case rel => exact ⟨k + 1,_,by omega,by go_num,F1,by rw [HT.out,HZM.out];exact F2,F3⟩
      case measure => simp [intOf];omega
    · have hke : l2.take k = l2:=List.take_of_length_le (by omega)
      rw [hke] at HR
      clear hke
      obtain ⟨P,hP⟩ : ∃ P,P = modM n l2:=⟨_,rfl⟩
      rw [← hP] at HR
      have hPl : P.length ≤ 8:=by rw [hP,modM_len];omega
      have HPL:=Aside0.mk hPl
      clear hP hPl
      obtain ⟨Ar,cr,rfl⟩:=Kd.R_slice HR.out
      have KH:=Aside0.mk (blk_below HQ.out HX.out)
      have HU:=Aside0.mk (row_apart HR.out (Nat.le_refl _) HO.out.rules HQX.out)
      have HBO:=Aside0.mk (below_then HW.out HW.out.size HX.out)
      have HOI:=Aside0.mk (HO.out.below_ HX.out)
      have HBI:=Aside0.mk HX.out
      obtain ⟨Lr,hLr⟩ : ∃ Lr,Lr = g.rules ++ [⟨(lx : Int),P⟩]:=⟨_,rfl⟩
      have HLR:=Lib.hid hLr
      clear hLr HR
      go_upto_region 10 with (fail)
      clear b1
      refine pl_start ?_
      refine pl_held (B:=wi.heap.size) (v:=wi) (Below.refl _ _) (fun hHeld => ?_)
      refine pp_ ?_ ?_ ?_
      refine pp_ ?_ ?_ ?_ (y:=by have d0:=(blk_cell (blk_below KH.out hHeld) 0).trans rfl;have d1:=(blk_cell (blk_below KH.out hHeld) 1).trans rfl;have d2:=(blk_cell (blk_below KH.out hHeld) 2).trans rfl;have d3:=(blk_cell (blk_below KX.out hHeld) 0).trans rfl;have d4:=(blk_cell (blk_below KX.out hHeld) 1).trans rfl;go_simp;rfl)
      refine pp_ ?_ ?_ ?_ (y:=by have d0:=(blk_cell (blk_below KH.out hHeld) 0).trans rfl;have d1:=(blk_cell (blk_below KH.out hHeld) 1).trans rfl;have d2:=(blk_cell (blk_below KH.out hHeld) 2).trans rfl;have d3:=(blk_cell (blk_below KX.out hHeld) 0).trans rfl;have d4:=(blk_cell (blk_below KX.out hHeld) 1).trans rfl;go_simp;rfl)
      refine pl_value (N:=some 88) (v:=?vb) (w1:=?wb) (by rfl) rfl ?hb ?_
      case hb => (go_simp;constructor;rfl;rfl)
      simp only [Act.put,List.setIfInBounds_toArray,List.set_cons_zero,List.set_cons_succ]
      refine pl_app_rule (N:=some 89) (w0:=wo) (xs:=g.rules) (p:=⟨(lx : Int),P⟩) (by rfl) rfl rfl HOI.out.rules HU.out HBO.out (by omega) (by rfl) (by rfl) ?_
      intro v1' w1' A1'
      obtain ⟨A4,c4,e4,z4,f4,hrep⟩:=more_rep HO.out HBI.out A1' KH.out HQW.out HLR.out
      subst e4
      have HREP:=Aside0.mk (hrep (.slice A4 Lr.length c4))
      clear A1' hrep
      simp only [Act.put,List.setIfInBounds_toArray,List.set_cons_zero,List.set_cons_succ]
      refine pp_ ?_ ?_ ?_
      refine pl_skip (w1:=?w30) (by rfl) rfl ?h30 ?_
      case h30 => (go_simp;rfl)
      refine pl_nil ?_
      clear z4 f4
      obtain ⟨W4,hW4⟩ : ∃ W4,W4 = w1'.setCell ⟨q0,2,none⟩ (.slice A4 Lr.length c4):=⟨_,rfl⟩
      rw [← hW4] at HREP ⊢
      obtain ⟨hrg,hrb,hrk⟩:=HREP.out
      have HRG:=Aside0.mk hrg
      have HRB:=Aside0.mk hrb
      have KR:=Aside0.mk hrk
      have HV4:=Aside0.mk (below_then HV5.out HV5.out.size hrb)
      clear hrg hrb hrk HREP hW4
      have HZ4 : Aside0 (Sized ⟨g.terms,g.names,Lr⟩):=⟨⟨HZ.out.1,HZ.out.2⟩⟩
      obtain ⟨gh,hgh⟩ : ∃ gh,goodF ⟨g.terms,g.names,Lr⟩ = gh:=⟨_,rfl⟩
      have HGH:=Lib.hid hgh
      clear hgh
      go_upto_region 11 with (fail)
      refine pl_start ?_
      refine pl_held (B:=W4.heap.size) (v:=W4) (Below.refl _ _) (fun hHeld => ?_)
      refine pp_ ?_ ?_ ?_ (y:=by have d0:=(blk_cell (blk_below KR.out hHeld) 0).trans rfl;have d1:=(blk_cell (blk_below KR.out hHeld) 1).trans rfl;have d2:=(blk_cell (blk_below KR.out hHeld) 2).trans rfl;go_simp;rfl)
      refine goesCL_ (N:=(some 92)) Try.func28 (by kernel_rfl) rfl (by rfl) rfl rfl (good1_3m g.terms g.names Lr B1 B2 A4 e1' e2 c4 _ (HRG.out.below_ hHeld) HZ4.out HGH.out) (by simp [Act.eval]) ?_
      rintro e x11_1 ⟨rfl,hb11_1⟩
      refine ⟨_,rfl,?_⟩
      simp only [Act.put,List.setIfInBounds_toArray,List.set_cons_zero,List.set_cons_succ]
      refine pl_held (B:=W4.heap.size) (v:=W4) (below_then hHeld hHeld.size hb11_1) (fun hHeld => ?_)
      refine pp_ ?_ ?_ ?_
      refine pl_nil ?_
      cases gh
      · go_wp2_with (go_at_call 16;refine (wakes24_c _).mono ?_;rintro e w9 ⟨rfl,hb9⟩)
        go_ret
        exact ⟨rfl,below_then HV4.out HV4.out.size (below_then hHeld hHeld.size hb9)⟩
      · have GG:=Aside0.mk ((HG6'.out.below_ HRB.out).below_ hHeld)
        have GH:=Aside0.mk (HRG.out.below_ hHeld)
        have KG:=Aside0.mk (blk_below (blk_below K6'.out HRB.out) hHeld)
        have KH2:=Aside0.mk (blk_below KR.out hHeld)
        have HL4:=Aside0.mk (Kd.C_below (Kd.C_below HL5'.out HRB.out) hHeld)
        have HV7:=Aside0.mk (below_then HV4.out HV4.out.size hHeld)
        clear hHeld hb11_1
        rename World => wg
        go_upto_region 13 with (fail)
        refine pl_start ?_
        refine pl_held (B:=wg.heap.size) (v:=wg) (Below.refl _ _) (fun hHeld => ?_)
        refine pp_ ?_ ?_ ?_ (y:=by have d0:=(blk_cell (blk_below KG.out hHeld) 0).trans rfl;have d1:=(blk_cell (blk_below KG.out hHeld) 1).trans rfl;have d2:=(blk_cell (blk_below KG.out hHeld) 2).trans rfl;go_simp;rfl)
        refine pp_ ?_ ?_ ?_
        refine goesCL_ (N:=(some 98)) Try.func17 (by kernel_rfl) rfl (by rfl) rfl rfl (ofC_yes g A1 A2 A3 c1 c2 c3 B d l _ (GG.out.below_ hHeld) (Kd.C_below HL4.out hHeld) HGV.out (by omega) HBD.out) (by simp [Act.eval]) ?_
        rintro e x13_2 ⟨⟨ka,rfl,hcf,hlo⟩,hb13_2⟩
        refine ⟨_,rfl,?_⟩
        simp only [Act.put,List.setIfInBounds_toArray,List.set_cons_zero,List.set_cons_succ]
        refine pl_held (B:=wg.heap.size) (v:=wg) (below_then hHeld hHeld.size hb13_2) (fun hHeld => ?_)
        refine pp_ ?_ ?_ ?_
        refine pp_ ?_ ?_ ?_
        refine pp_ ?_ ?_ ?_
        refine pp_ ?_ ?_ ?_
        refine pp_ ?_ ?_ ?_
        refine pl_nil ?_
        have HCA:=Aside0.mk hcf
        clear hcf hlo
        go_upto_region 14 with (fail)
        refine pl_start ?_
        refine pl_held (B:=wg.heap.size) (v:=wg) (hHeld) (fun hHeld => ?_)
        refine pp_ ?_ ?_ ?_ (y:=by have d0:=(blk_cell (blk_below KH2.out hHeld) 0).trans rfl;have d1:=(blk_cell (blk_below KH2.out hHeld) 1).trans rfl;have d2:=(blk_cell (blk_below KH2.out hHeld) 2).trans rfl;go_simp;rfl)
        refine pp_ ?_ ?_ ?_
        refine goesCL_ (N:=(some 104)) Try.func17 (by kernel_rfl) rfl (by rfl) rfl rfl (ofC_3 g.terms g.names Lr B1 B2 A4 e1' e2 c4 B d l _ (GH.out.below_ hHeld) (Kd.C_below HL4.out hHeld) HGH.out (by omega) HBD.out) (by simp [Act.eval]) ?_
        rintro e x14_2 ⟨⟨kb,rfl,hcf,hlo⟩,hb14_2⟩
        refine ⟨_,rfl,?_⟩
        simp only [Act.put,List.setIfInBounds_toArray,List.set_cons_zero,List.set_cons_succ]
        refine pl_held (B:=wg.heap.size) (v:=wg) (below_then hHeld hHeld.size hb14_2) (fun hHeld => ?_)
        refine pp_ ?_ ?_ ?_
        refine pp_ ?_ ?_ ?_
        refine pp_ ?_ ?_ ?_
        refine pp_ ?_ ?_ ?_
        refine pp_ ?_ ?_ ?_
        refine pl_nil ?_
        have HCA2:=Aside0.mk (HCA.out.below_ hb14_2)
        have HCB:=Aside0.mk hcf
        clear hcf hlo
        go_upto_region 17 with (fail)
        refine pl_start ?_
        refine pl_held (B:=wg.heap.size) (v:=wg) (hHeld) (fun hHeld => ?_)
        refine pp_ ?_ ?_ ?_
        refine goesCL_ (N:=(some 122)) Try.func20 (by kernel_rfl) rfl (by rfl) rfl rfl (spansM_c ka g l _ HCA2.out) (by simp [Act.eval]) ?_
        rintro e x17_1 ⟨⟨As,cs,rfl,hsp⟩,hb17_1⟩
        refine ⟨_,rfl,?_⟩
        simp only [Act.put,List.setIfInBounds_toArray,List.set_cons_zero,List.set_cons_succ]
        refine pl_held (B:=wg.heap.size) (v:=wg) (below_then hHeld hHeld.size hb17_1) (fun hHeld => ?_)
        refine pp_ ?_ ?_ ?_
        refine pl_nil ?_
        have HCa:=Aside0.mk (HCA2.out.below_ hb17_1)
        have HCb:=Aside0.mk (HCB.out.below_ hb17_1)
        have HSL:=Aside0.mk (Kd.R_reads' hsp).2.2
        have KG2:=Aside0.mk (blk_below KG.out hHeld)
        have HL2:=Aside0.mk (Kd.C_below HL4.out hHeld)
        have HV8:=Aside0.mk (below_then HV7.out HV7.out.size hHeld)
        obtain ⟨v,hv⟩ : ∃ v,v = x17_1:=⟨_,rfl⟩
        rw [← hv] at HCa HCb HSL KG2 HL2 HV8 ⊢
        clear hv hsp hHeld hb13_2 hb14_2 hb17_1 HCA HCA2 HCB
        have HMB : Aside0 (∀ p ∈ spansF g l,g.terms.length ≤ p.s ∧ p.s < n ∧ p.i ≤ l.length ∧ p.j ≤ l.length ∧ symV ⟨g.terms,g.names,Lr⟩ l p.s p.i p.j = true):=⟨fun p hp => by
          obtain ⟨h1,h2,h3,h4,h5⟩:=span_mem hp
          rw [HN.out] at h2
          exact ⟨h1,h2,h3,h4,by rw [HLR.out];exact sym_more h5⟩⟩
        have hlm5 : (spansF g l).length ≤ 200000:=by
          have h1:=spansL_len g l g.names.length
          have h4 : (l.length + 1) * (l.length + 1) ≤ 7 * 7:=Nat.mul_le_mul (by omega) (by omega)
          have h5 : g.names.length * ((l.length + 1) * (l.length + 1)) ≤ 40 * (7 * 7):=Nat.mul_le_mul q3 h4
          unfold spansF
          omega
        obtain ⟨SL,hSL⟩ : ∃ SL,SL = spansF g l:=⟨_,rfl⟩
        rw [← hSL] at HSL HMB hlm5 ⊢
        clear hSL
        go_wp2
        go_loopw [16] (fun iv wr => ∃ i : Nat,i ≤ SL.length ∧ iv = .int .i64 i ∧ Aside0 (Below v.heap.size v wr)) (fun iv _ => SL.length - (intOf iv).toNat)
        case atStart => exact ⟨0,Nat.zero_le _,rfl,⟨Below.refl _ _⟩⟩
        case round =>
          obtain ⟨i,hi,rfl,HB⟩:=hrel
          rename World => wi2
          by_cases hil : i < SL.length
          · have i2 : (i : Int) < (SL.length : Int):=by omega
            have i0 : (0 : Int) ≤ (i : Int):=by omega
            obtain ⟨ad,ead,z0,z1,z2⟩:=at_sp HSL.out i hil
            cases ead
            have hmb:=HMB.out _ (List.getElem_mem hil)
            obtain ⟨p,hp⟩ : ∃ p,p = SL[i]'hil:=⟨_,rfl⟩
            rw [← hp] at z0 z1 z2 hmb
            obtain ⟨h1,h2,h3,h4,h5⟩:=hmb
            have HZ0:=Aside0.mk (pw_cell_below HB.out z0)
            have HZ1:=Aside0.mk (pw_cell_below HB.out z1)
            have HZ2:=Aside0.mk (pw_cell_below HB.out z2)
            have KGi:=Aside0.mk (blk_below KG2.out HB.out)
            have HCi:=Aside0.mk (HCb.out.below_ HB.out)
            have HSY:=Lib.hid h5
            have hsb : -9223372036854775808 ≤ (p.s : Int) ∧ (p.s : Int) ≤ 9223372036854775807:=by omega
            have g1 : decide ((p.s : Int) < (g.terms.length : Int)) = false:=decide_eq_false (by omega)
            have g2 : decide ((n : Int) ≤ (p.s : Int)) = false:=decide_eq_false (by omega)
            have g3 : decide (p.s < g.terms.length) = false:=decide_eq_false (by omega)
            have g4 : decide (n ≤ p.s) = false:=decide_eq_false (by omega)
            clear hp z0 z1 z2 h1 h2 h3 h4 h5
            go_upto_region 21 with (fail)
            refine start_ (n:=27) (S:=fun w' => Below wi2.heap.size wi2 w') (ds:=[]) (lb 27 0x0) (by kernel_rfl) rfl (by kernel_rfl) (below_drew1 (Below.refl _ _)) (fun hHeld => ?_)
            refine pu_ ?_ ?_ 0 (some 129) (lb 27 0x1) ?_
            refine pu_ ?_ ?_ 1 (some 130) (lb 27 0x3) ?_
            refine pu_ ?_ ?_ 2 (some 131) (lb 27 0x7) ?_
            refine pu_ ?_ ?_ 3 (some 132) (lb 27 0xf) ?_
            refine ta_ ?_ ?_ 4 (some 133) (lb 27 0x1f) hHeld ?_ (y:=by rintro w' hS;have d0:=cell_at hS HZ0.out;have d1:=cell_at hS HZ1.out;have d2:=cell_at hS HZ2.out;have d3:=(blk_cell (blk_below KGi.out hS) 0).trans rfl;have d4:=(blk_cell (blk_below KGi.out hS) 1).trans rfl;have d5:=(blk_cell (blk_below KGi.out hS) 2).trans rfl;go_simp;with_reducible rfl)
            refine on_ 5 (some 134) (lb 27 0x3f) (fun K hK => ?_)
            (refine goesC_ Try.func26 (by kernel_rfl) rfl (by rfl) rfl rfl (symM_c kb ⟨g.terms,g.names,Lr⟩ l p.s p.i p.j _ (HCi.out.below_ hHeld) hsb HSY.out) (by simp [Act.eval]) ?_;rintro e w9 ⟨rfl,hb9⟩;refine ⟨_,rfl,?_⟩;have HQ9:=Aside0.mk (below_then hHeld hHeld.size hb9);clear hb9;refine hK.out _ _ HQ9.out (fun hHeld => ?_))
            clear hK K
            refine nm_ ?_ (some 134) ?_
            refine pu_ ?_ ?_ 6 (some 135) (lb 27 0x7f) ?_
            refine pu_ ?_ ?_ 7 (some 136) (lb 27 0xff) ?_
            refine pu_ ?_ ?_ 8 (some 137) (lb 27 0x1ff) ?_
            refine pu_ ?_ ?_ 9 (some 138) (lb 27 0x3ff) ?_
            refine pu_ ?_ ?_ 10 (some 139) (lb 27 0x7ff) ?_
            refine pu_ ?_ ?_ 11 (some 140) (lb 27 0xfff) ?_
            refine pu_ ?_ ?_ 13 (some 142) (lb 27 0x2fff) ?_
            refine ta_ ?_ ?_ 12 (some 141) (lb 27 0x3fff) hHeld ?_ (y:=by rintro w' hS;have d0:=cell_at hS HZ0.out;have d1:=cell_at hS HZ1.out;have d2:=cell_at hS HZ2.out;have d3:=(blk_cell (blk_below KGi.out hS) 0).trans rfl;have d4:=(blk_cell (blk_below KGi.out hS) 1).trans rfl;have d5:=(blk_cell (blk_below KGi.out hS) 2).trans rfl;go_simp;with_reducible rfl)
            refine ta_ ?_ ?_ 14 (some 143) (lb 27 0x7fff) hHeld ?_ (y:=by rintro w' hS;have d0:=cell_at hS HZ0.out;have d1:=cell_at hS HZ1.out;have d2:=cell_at hS HZ2.out;have d3:=(blk_cell (blk_below KGi.out hS) 0).trans rfl;have d4:=(blk_cell (blk_below KGi.out hS) 1).trans rfl;have d5:=(blk_cell (blk_below KGi.out hS) 2).trans rfl;go_simp;with_reducible rfl)
            refine pu_ ?_ ?_ 15 (some 144) (lb 27 0xffff) ?_
            refine pu_ ?_ ?_ 16 (some 145) (lb 27 0x1ffff) ?_
            refine pu_ ?_ ?_ 17 (some 146) (lb 27 0x3ffff) ?_
            refine pu_ ?_ ?_ 18 (some 147) (lb 27 0x7ffff) ?_
            refine pu_ ?_ ?_ 19 (some 148) (lb 27 0xfffff) ?_
            refine pu_ ?_ ?_ 20 (some 149) (lb 27 0x1fffff) ?_
            refine pu_ ?_ ?_ 21 (some 150) (lb 27 0x3fffff) ?_
            refine pu_ ?_ ?_ 22 (some 151) (lb 27 0x7fffff) ?_
            refine pu_ ?_ ?_ 24 (some 153) (lb 27 0x17fffff) ?_
            refine ta_ ?_ ?_ 23 (some 152) (lb 27 0x1ffffff) hHeld ?_ (y:=by rintro w' hS;have d0:=cell_at hS HZ0.out;have d1:=cell_at hS HZ1.out;have d2:=cell_at hS HZ2.out;have d3:=(blk_cell (blk_below KGi.out hS) 0).trans rfl;have d4:=(blk_cell (blk_below KGi.out hS) 1).trans rfl;have d5:=(blk_cell (blk_below KGi.out hS) 2).trans rfl;go_simp;with_reducible rfl)
            refine pu_ ?_ ?_ 25 (some 154) (lb 27 0x3ffffff) ?_
            refine pu_ ?_ ?_ 26 (some 155) (lb 27 0x7ffffff) ?_
            refine done_ (by kernel_rfl) ?_
            rename World => w6
            have HB6:=Aside0.mk (below_then HB.out HB.out.size hHeld)
            clear hHeld
            go_wp2
            go_roundw
            case rel => exact ⟨i + 1,by omega,by go_num,HB6⟩
            case measure => simp [intOf];omega
          · have i2 : ¬ (i : Int) < (SL.length : Int):=by omega
            have HCn:=Aside0.mk (HCa.out.below_ HB.out)
            have KGn:=Aside0.mk (blk_below KG2.out HB.out)
            have HLn:=Aside0.mk (Kd.C_below HL2.out HB.out)
            have HBn:=Aside0.mk (below_then HV8.out HV8.out.size HB.out)
            clear HB
            go_wp2
            clear i2
            go_loopw [17] (fun iv wr => ∃ i : Nat,i ≤ l.length ∧ iv = .int .i64 i ∧ Aside0 (Below wi2.heap.size wi2 wr)) (fun iv _ => l.length - (intOf iv).toNat)
            case atStart => exact ⟨0,Nat.zero_le _,rfl,⟨Below.refl _ _⟩⟩
            case round =>
              obtain ⟨i,hi,rfl,HB⟩:=hrel
              rename World => wj
              by_cases hil : i < l.length
              · have i2 : (i : Int) < (l.length : Int):=by omega
                have HIL:=Aside0.mk hil
                go_wp2
                clear i2
                go_loopw [18] (fun tv wr => ∃ t : Nat,t ≤ g.terms.length ∧ tv = .int .i64 t ∧ Aside0 (Below wi2.heap.size wi2 wr)) (fun tv _ => g.terms.length - (intOf tv).toNat)
                case atStart => exact ⟨0,Nat.zero_le _,rfl,HB⟩
                case round =>
                  clear HB
                  obtain ⟨t,ht,rfl,HB⟩:=hrel
                  rename World => wt
                  have a0 : wt.cell? ⟨x0,0,none⟩ = some (.slice A1 g.terms.length c1):=(blk_cell (blk_below KGn.out HB.out) 0).trans rfl
                  by_cases htl : t < g.terms.length
                  · have t2 : (t : Int) < (g.terms.length : Int):=by omega
                    have i2 : (i : Int) < (l.length : Int):=by have:=HIL.out;omega
                    have i0 : (0 : Int) ≤ (i : Int):=by omega
                    obtain ⟨ad,ead,hc⟩:=at_int HLn.out i HIL.out
                    cases ead
                    have HST:=Lib.hid (sym_tok HGV.out (w:=l) htl HIL.out)
                    have HSN:=Lib.hid (sym_tok_nil HGV.out (w:=l) (i:=i) htl)
                    obtain ⟨y,hy⟩ : ∃ y,y = l[i]'HIL.out:=⟨_,rfl⟩
                    rw [← hy] at hc HST
                    have HCY:=Aside0.mk (pw_cell_below HB.out hc)
                    obtain ⟨yt,hyt⟩ : ∃ yt,decide (y = (t : Int)) = yt:=⟨_,rfl⟩
                    have hyt2 : (y == (t : Int)) = yt:=hyt
                    rw [hyt] at HST
                    have hne : (yt != yt) = false:=by cases yt <;> rfl
                    have hsb : -9223372036854775808 ≤ (t : Int) ∧ (t : Int) ≤ 9223372036854775807:=by omega
                    have e6 : IntKind.i64.wrap ((i : Int) + 1) = ((i + 1 : Nat) : Int):=by rw [IntWalk.i64_in _ (by omega)];omega
                    have HCt:=Aside0.mk (HCn.out.below_ HB.out)
                    clear hy hc
                    go_upto_region 29 with (fail)
                    clear a0
                    refine start_ (n:=22) (S:=fun w' => Below wt.heap.size wt w') (ds:=[]) (lb 22 0x0) (by kernel_rfl) rfl (by kernel_rfl) (below_drew1 (Below.refl _ _)) (fun hHeld => ?_)
                    refine pu_ ?_ ?_ 0 (some 169) (lb 22 0x1) ?_
                    refine pu_ ?_ ?_ 1 (some 170) (lb 22 0x3) ?_
                    refine pu_ ?_ ?_ 2 (some 171) (lb 22 0x7) ?_
                    refine pu_ ?_ ?_ 3 (some 172) (lb 22 0xf) ?_
                    refine pu_ ?_ ?_ 4 (some 173) (lb 22 0x1f) ?_
                    refine pu_ ?_ ?_ 5 (some 174) (lb 22 0x3f) ?_
                    refine pu_ ?_ ?_ 7 (some 176) (lb 22 0xbf) ?_
                    refine pu_ ?_ ?_ 8 (some 177) (lb 22 0x1bf) ?_
                    refine pu_ ?_ ?_ 9 (some 178) (lb 22 0x3bf) ?_
                    refine pu_ ?_ ?_ 11 (some 180) (lb 22 0xbbf) ?_
                    refine ta_ ?_ ?_ 10 (some 179) (lb 22 0xfbf) hHeld ?_ (y:=by rintro w' hS;have d0:=cell_at hS HCY.out;go_simp;with_reducible rfl)
                    refine pu_ ?_ ?_ 12 (some 181) (lb 22 0x1fbf) ?_
                    refine on_ 6 (some 175) (lb 22 0x1fff) (fun K hK => ?_)
                    (refine goesC_ Try.func26 (by kernel_rfl) rfl (by rfl) rfl rfl (symM_c ka g l t i ((i + 1 : Nat) : Int) _ (HCt.out.below_ hHeld) hsb HST.out) (by simp [Act.eval]) ?_;rintro e w9 ⟨rfl,hb9⟩;refine ⟨_,rfl,?_⟩;have HQ9:=Aside0.mk (below_then hHeld hHeld.size hb9);clear hb9;refine hK.out _ _ HQ9.out (fun hHeld => ?_))
                    clear hK K
                    refine nm_ ?_ (some 175) ?_
                    refine pu_ ?_ ?_ 13 (some 182) (lb 22 0x3fff) ?_
                    refine pu_ ?_ ?_ 14 (some 183) (lb 22 0x7fff) ?_
                    refine pu_ ?_ ?_ 15 (some 184) (lb 22 0xffff) ?_
                    refine pu_ ?_ ?_ 16 (some 185) (lb 22 0x1ffff) ?_
                    refine pu_ ?_ ?_ 17 (some 186) (lb 22 0x3ffff) ?_
                    refine pu_ ?_ ?_ 18 (some 187) (lb 22 0x7ffff) ?_
                    refine pu_ ?_ ?_ 19 (some 188) (lb 22 0xfffff) ?_
                    refine on_ 20 (some 189) (lb 22 0x1fffff) (fun K hK => ?_)
                    (refine goesC_ Try.func26 (by kernel_rfl) rfl (by rfl) rfl rfl (symM_c ka g l t i i _ (HCt.out.below_ hHeld) hsb HSN.out) (by simp [Act.eval]) ?_;rintro e w9 ⟨rfl,hb9⟩;refine ⟨_,rfl,?_⟩;have HQ9:=Aside0.mk (below_then hHeld hHeld.size hb9);clear hb9;refine hK.out _ _ HQ9.out (fun hHeld => ?_))
                    clear hK K
                    refine nm_ ?_ (some 189) ?_
                    refine pu_ ?_ ?_ 21 (some 190) (lb 22 0x3fffff) ?_
                    refine done_ (by kernel_rfl) ?_
                    rename World => w6
                    have HB6:=Aside0.mk (below_then HB.out HB.out.size hHeld)
                    clear hHeld
                    go_wp2
                    go_roundw
                    case rel => exact ⟨t + 1,by omega,by go_num,HB6⟩
                    case measure => simp [intOf];omega
                  · have t2 : ¬ (t : Int) < (g.terms.length : Int):=by omega
                    go_wp2
                    go_roundw
                    case rel => exact ⟨i + 1,by have:=HIL.out;omega,by go_num,HB⟩
                    case measure => have:=HIL.out;simp [intOf];omega
              · have i2 : ¬ (i : Int) < (l.length : Int):=by omega
                go_wp2_with (go_at_call 16;refine (wakes24_c _).mono ?_;rintro e w9 ⟨rfl,hb9⟩)
                go_ret
                exact ⟨rfl,below_then HBn.out HBn.out.size (below_then HB.out HB.out.size hb9)⟩
end Go.Proofs.Ytmkgcjhimajgiaa
