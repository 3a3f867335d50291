/- Contracts of functions of the program, and plain laws (text N21): each theorem says what it proves. -/
import Derived.Test.YtmkgcjhimajgiaaFU
import Derived.Test.YtmkgcjhimajgiaaFT
import Derived.Test.YtmkgcjhimajgiaaFI2
set_option linter.unusedVariables false
set_option linter.unusedSimpArgs false
namespace Go.Proofs.Ytmkgcjhimajgiaa
open Go.RowKit Go.Proofs.YtmkgcjhimajgiaaW.PrintWords Go.Proofs.YtmkgcjhimajgiaaW.PrintLast Go.Conc

theorem keepForest_s (A B : Option Addr) (n c d : Nat) (F : Forest) (w : World) (hr : kNode.C w A n F) (hs : kNode.C w B n F) :
    Calls Try.prog 36 #[.agg #[.slice A n c],.agg #[.slice B n d]] w fun e w' => e = .returned (.bool true) ∧ Below w.heap.size w w':=by
  obtain rfl:=C_len hr
  have:=keepForest_c A B c d F F w hr hs
  rwa [decide_eq_true rfl] at this
set_option maxRecDepth 100000 in
set_option maxHeartbeats 16000000 in
theorem forestCaps_c (g : Gram) (A1 A2 A3 : Option Addr) (c1 c2 c3 : Nat) (B : Option Addr) (d : Nat) (l : List Int) (mo : Int) (w : World) (hg : RepG w g A1 A2 A3 c1 c2 c3) (hz : Sized g) (hl : kInt.C w B l.length l) (hb : ∀ y ∈ l,-9223372036854775808 ≤ y ∧ y ≤ 9223372036854775807) (hmo : 0 ≤ mo ∧ mo ≤ 255) :
    Calls Try.prog 11 #[.agg #[.slice A1 g.terms.length c1,.slice A2 g.names.length c2,.slice A3 g.rules.length c3],.slice B l.length d,.int .u8 mo] w fun e w' => e = .returned (.bool true) ∧ Below w.heap.size w w':=by
  obtain ⟨x0,hx0⟩ : ∃ x0,x0 = w.heap.size:=⟨_,rfl⟩
  obtain ⟨v0,hv0⟩ : ∃ v0 : World,v0 = w.alloc (.cells #[.slice A1 g.terms.length c1,.slice A2 g.names.length c2,.slice A3 g.rules.length c3] 25 (0,0)):=⟨_,rfl⟩
  have HB0 : Aside0 (Below w.heap.size w v0):=⟨by rw [hv0];exact (Below.refl w.heap.size w).alloc (Nat.le_refl _) _⟩
  have HP0 : Aside0 (v0.heap[x0]? = some (.cells #[.slice A1 g.terms.length c1,.slice A2 g.names.length c2,.slice A3 g.rules.length c3] 25 (0,0))):=⟨by rw [hv0,hx0];exact blk_new w _⟩
  have HG0:=Aside0.mk (hg.below_ HB0.out)
  have HL0:=Aside0.mk (Kd.C_below hl HB0.out)
  have HZ:=Aside0.mk hz
  have HBD:=Aside0.mk hb
  have HMO:=Lib.hid hmo
  obtain ⟨gv,hgv⟩ : ∃ gv,goodF g = gv:=⟨_,rfl⟩
  have HGV:=Lib.hid hgv
  obtain ⟨l5,hl5⟩ : ∃ b,decide (7 < l.length) = b:=⟨_,rfl⟩
  have i5 : decide (7 < (l.length : Int)) = l5:=dec_ilt hl5
  have HL5:=Lib.hid hl5
  clear hg hz hl hb hgv
  go_enter Try.func11,Try.ntmps11
  go_upto_region 1 with (fail)
  simp only [← hv0]
  simp only [← hx0]
  have HX0:=Lib.hid hx0
  clear hv0 hx0
  refine pl_start ?_
  refine pl_held (B:=v0.heap.size) (v:=v0) (Below.refl _ _) (fun hHeld => ?_)
  refine pp_ ?_ ?_ ?_ (y:=by have d0:=(blk_cell (blk_below HP0.out hHeld) 0).trans rfl;have d1:=(blk_cell (blk_below HP0.out hHeld) 1).trans rfl;have d2:=(blk_cell (blk_below HP0.out hHeld) 2).trans rfl;go_simp;rfl)
  refine pp_ ?_ ?_ ?_
  refine goesCL_ (N:=(some 18)) Try.func15 (by kernel_rfl) rfl (by rfl) rfl rfl (small24_c g A1 A2 A3 c1 c2 c3 B d l _ (HG0.out.below_ hHeld) HZ.out) (by simp [Act.eval]) ?_
  rintro e x1_2 ⟨⟨sv,rfl,hsm⟩,hb1_2⟩
  refine ⟨_,rfl,?_⟩
  simp only [Act.put,List.setIfInBounds_toArray,List.set_cons_zero,List.set_cons_succ]
  refine pl_held (B:=v0.heap.size) (v:=v0) (below_then hHeld hHeld.size hb1_2) (fun hHeld => ?_)
  cases sv
  · clear hsm
    refine pl_held (B:=v0.heap.size) (v:=v0) (hHeld) (fun hHeld => ?_)
    refine pp_ ?_ ?_ ?_
    refine pp_ ?_ ?_ ?_
    refine pf_ ?_ ?_
    refine pf_ ?_ ?_
    refine pf_ ?_ ?_
    refine pp_ ?_ ?_ ?_
    refine pp_ ?_ ?_ ?_
    refine pf_ ?_ ?_
    refine pf_ ?_ ?_
    refine pf_ ?_ ?_
    refine pp_ ?_ ?_ ?_
    refine pl_nil ?_
    go_wp2_with (go_at_call 33;refine (wakes25_c _).mono ?_;rintro e w9 ⟨rfl,hb9⟩)
    go_ret
    exact ⟨rfl,below_then (below_then HB0.out HB0.out.size hHeld) (below_then HB0.out HB0.out.size hHeld).size hb9⟩
  have HSM:=Aside0.mk (hsm rfl)
  clear hsm
  cases gv
  · refine pl_held (B:=v0.heap.size) (v:=v0) (hHeld) (fun hHeld => ?_)
    refine pp_ ?_ ?_ ?_
    refine pp_ ?_ ?_ ?_
    refine pp_ ?_ ?_ ?_ (y:=by have d0:=(blk_cell (blk_below HP0.out hHeld) 0).trans rfl;have d1:=(blk_cell (blk_below HP0.out hHeld) 1).trans rfl;have d2:=(blk_cell (blk_below HP0.out hHeld) 2).trans rfl;go_simp;rfl)
    refine goesCL_ (N:=(some 22)) Try.func28 (by kernel_rfl) rfl (by rfl) rfl rfl (good1_v g A1 A2 A3 c1 c2 c3 _ (HG0.out.below_ hHeld) HZ.out HGV.out) (by simp [Act.eval]) ?_
    rintro e x1_6 ⟨rfl,hb1_6⟩
    refine ⟨_,rfl,?_⟩
    simp only [Act.put,List.setIfInBounds_toArray,List.set_cons_zero,List.set_cons_succ]
    refine pl_held (B:=v0.heap.size) (v:=v0) (below_then hHeld hHeld.size hb1_6) (fun hHeld => ?_)
    refine pp_ ?_ ?_ ?_
    refine pp_ ?_ ?_ ?_
    refine pp_ ?_ ?_ ?_
    refine pf_ ?_ ?_
    refine pf_ ?_ ?_
    refine pf_ ?_ ?_
    refine pp_ ?_ ?_ ?_
    refine pl_nil ?_
    go_wp2_with (go_at_call 33;refine (wakes25_c _).mono ?_;rintro e w9 ⟨rfl,hb9⟩)
    go_ret
    exact ⟨rfl,below_then (below_then HB0.out HB0.out.size hHeld) (below_then HB0.out HB0.out.size hHeld).size hb9⟩
  refine pl_held (B:=v0.heap.size) (v:=v0) (hHeld) (fun hHeld => ?_)
  refine pp_ ?_ ?_ ?_
  refine pp_ ?_ ?_ ?_
  refine pp_ ?_ ?_ ?_ (y:=by have d0:=(blk_cell (blk_below HP0.out hHeld) 0).trans rfl;have d1:=(blk_cell (blk_below HP0.out hHeld) 1).trans rfl;have d2:=(blk_cell (blk_below HP0.out hHeld) 2).trans rfl;go_simp;rfl)
  refine goesCL_ (N:=(some 22)) Try.func28 (by kernel_rfl) rfl (by rfl) rfl rfl (good1_v g A1 A2 A3 c1 c2 c3 _ (HG0.out.below_ hHeld) HZ.out HGV.out) (by simp [Act.eval]) ?_
  rintro e x1_6 ⟨rfl,hb1_6⟩
  refine ⟨_,rfl,?_⟩
  simp only [Act.put,List.setIfInBounds_toArray,List.set_cons_zero,List.set_cons_succ]
  refine pl_held (B:=v0.heap.size) (v:=v0) (below_then hHeld hHeld.size hb1_6) (fun hHeld => ?_)
  refine pp_ ?_ ?_ ?_
  refine pp_ ?_ ?_ ?_
  refine pp_ ?_ ?_ ?_
  refine pp_ ?_ ?_ ?_
  refine pp_ ?_ ?_ ?_
  refine pp_ ?_ ?_ ?_
  refine pp_ ?_ ?_ ?_
  refine pl_nil ?_
  cases l5
  case true =>
    go_wp2_with (go_at_call 33;refine (wakes25_c _).mono ?_;rintro e w9 ⟨rfl,hb9⟩)
    go_ret
    exact ⟨rfl,below_then (below_then HB0.out HB0.out.size hHeld) (below_then HB0.out HB0.out.size hHeld).size hb9⟩
  have hln5 : l.length ≤ 7:=by have:=of_decide_eq_false HL5.out;omega
  have HCS : Aside0 (forE g l 200 = 0 ∨ ((forE g l 200 = 15 ∨ forE g l 200 = 19) ∧ forF g l 200 = [])):=⟨forE_cases HGV.out (by omega)⟩
  have HMR : Aside0 (∀ m2 : Int,forE g l 200 = 0 → ((forF g l 200).length : Int) ≤ m2 → forE g l m2 = 0 ∧ forF g l m2 = forF g l 200):=⟨fun m2 h1 h2 => for_more h1 h2⟩
  have HLS : Aside0 (∀ m2 : Int,forE g l 200 = 0 → m2 < ((forF g l 200).length : Int) → forE g l m2 = 15 ∧ forF g l m2 = []):=⟨fun m2 h1 h2 => for_less h1 h2⟩
  have HPO : Aside0 (forE g l 200 = 0 → 1 ≤ (forF g l 200).length ∧ ((forF g l 200).length : Int) ≤ 200 ∧ (forF g l 200).length ≤ 4000):=⟨for_pos⟩
  obtain ⟨E,hE⟩ : ∃ E,E = forE g l 200:=⟨_,rfl⟩
  obtain ⟨F,hF⟩ : ∃ F,F = forF g l 200:=⟨_,rfl⟩
  have HEF:=Lib.hid (And.intro hE hF)
  rw [← hE] at HCS HMR HLS HPO
  rw [← hF] at HCS HMR HLS HPO
  clear hE hF hln5 i5
  go_upto_region 3 with (fail)
  refine pl_start ?_
  refine pl_held (B:=v0.heap.size) (v:=v0) (hHeld) (fun hHeld => ?_)
  refine pp_ ?_ ?_ ?_ (y:=by have d0:=(blk_cell (blk_below HP0.out hHeld) 0).trans rfl;have d1:=(blk_cell (blk_below HP0.out hHeld) 1).trans rfl;have d2:=(blk_cell (blk_below HP0.out hHeld) 2).trans rfl;go_simp;rfl)
  refine pp_ ?_ ?_ ?_
  refine goesCL_ (N:=(some 34)) Try.func34 (by kernel_rfl) rfl (by rfl) rfl rfl (fo_c g A1 A2 A3 c1 c2 c3 B d l 200 _ (HG0.out.below_ hHeld) (Kd.C_below HL0.out hHeld) HBD.out (by omega)) (by simp [Act.eval]) ?_
  rintro e x3_2 ⟨⟨A4,c4,rfl,hc4,hC4⟩,hb3_2⟩
  refine ⟨_,rfl,?_⟩
  simp only [Act.put,List.setIfInBounds_toArray,List.set_cons_zero,List.set_cons_succ]
  rw [← HEF.out.2] at hC4
  rw [← HEF.out.1,← HEF.out.2]
  refine pl_held (B:=v0.heap.size) (v:=v0) (below_then hHeld hHeld.size hb3_2) (fun hHeld => ?_)
  refine pp_ ?_ ?_ ?_
  refine pp_ ?_ ?_ ?_
  refine pp_ ?_ ?_ ?_
  refine pl_value (N:=(some 7)) (v:=?v71) (w1:=?w71) (by rfl) rfl ?h71 ?_
  case h71 => (go_simp;first | rfl | (constructor;rfl;rfl))
  simp only [Act.put,List.setIfInBounds_toArray,List.set_cons_zero,List.set_cons_succ]
  refine pl_skip (w1:=?w72) (by rfl) rfl ?h72 ?_
  case h72 => (go_simp;rfl)
  refine pl_world ?_
  intro x3_7 hb3_7 hx3_7 hs3_7 hq3_7
  refine pl_held (B:=v0.heap.size) (v:=v0) (below_then hHeld hHeld.size hb3_7) (fun hHeld => ?_)
  refine pp_ ?_ ?_ ?_
  refine pl_nil ?_
  have HC4:=Aside0.mk (Kd.C_below hC4 hb3_7)
  have HK4:=Aside0.mk hx3_7
  clear hC4 hx3_7
  by_cases h0 : E = 0
  · subst h0
    obtain ⟨n,hn⟩ : ∃ n,n = F.length:=⟨_,rfl⟩
    have hpo:=HPO.out rfl
    rw [← hn] at hpo
    have HNF:=Lib.hid hn
    rw [← hn] at HK4 HC4 ⊢
    obtain ⟨q4,hq4⟩ : ∃ q4,q4 = x3_2.heap.size:=⟨_,rfl⟩
    rw [← hq4] at HK4
    simp only [← hq4]
    clear hq4 hn
    have HP3:=Aside0.mk (blk_below HP0.out hHeld)
    have HG3:=Aside0.mk (HG0.out.below_ hHeld)
    have HL3:=Aside0.mk (Kd.C_below HL0.out hHeld)
    have HB3:=Aside0.mk (below_then HB0.out HB0.out.size hHeld)
    have k0:=(blk_cell HK4.out 0).trans rfl
    clear hHeld
    go_upto_region 7 with (fail)
    clear k0
    have hmi:=HMO.out
    obtain ⟨e7,f7⟩:=HMR.out (n : Int) rfl (by rw [← HNF.out];omega)
    refine pl_start ?_
    refine pl_held (B:=x3_7.heap.size) (v:=x3_7) (Below.refl _ _) (fun hHeld => ?_)
    refine pp_ ?_ ?_ ?_ (y:=by have d0:=(blk_cell (blk_below HP3.out hHeld) 0).trans rfl;have d1:=(blk_cell (blk_below HP3.out hHeld) 1).trans rfl;have d2:=(blk_cell (blk_below HP3.out hHeld) 2).trans rfl;go_simp;rfl)
    refine pp_ ?_ ?_ ?_
    refine pp_ ?_ ?_ ?_
    refine goesCL_ (N:=(some 61)) Try.func34 (by kernel_rfl) rfl (by rfl) rfl rfl (fo_c g A1 A2 A3 c1 c2 c3 B d l (n : Int) _ (HG3.out.below_ hHeld) (Kd.C_below HL3.out hHeld) HBD.out (by omega)) (by simp [Act.eval]) ?_
    rintro e x7_3 ⟨⟨A7,c7,rfl,hc7,hC7⟩,hb7_3⟩
    refine ⟨_,rfl,?_⟩
    simp only [Act.put,List.setIfInBounds_toArray,List.set_cons_zero,List.set_cons_succ]
    rw [f7,← HNF.out] at hC7
    rw [e7,f7,← HNF.out]
    refine pl_held (B:=x3_7.heap.size) (v:=x3_7) (below_then hHeld hHeld.size hb7_3) (fun hHeld => ?_)
    refine pp_ ?_ ?_ ?_
    refine pp_ ?_ ?_ ?_
    refine pp_ ?_ ?_ ?_
    refine pl_value (N:=(some 10)) (v:=?v81) (w1:=?w81) (by rfl) rfl ?h81 ?_
    case h81 => (go_simp;first | rfl | (constructor;rfl;rfl))
    simp only [Act.put,List.setIfInBounds_toArray,List.set_cons_zero,List.set_cons_succ]
    refine pl_skip (w1:=?w82) (by rfl) rfl ?h82 ?_
    case h82 => (go_simp;rfl)
    refine pl_world ?_
    intro x7_8 hb7_8 hx7_8 hs7_8 hq7_8
    refine pl_held (B:=x3_7.heap.size) (v:=x3_7) (below_then hHeld hHeld.size hb7_8) (fun hHeld => ?_)
    refine pp_ ?_ ?_ ?_
    refine pl_nil ?_
    have HC7:=Aside0.mk (Kd.C_below hC7 hb7_8)
    have HK7:=Aside0.mk hx7_8
    obtain ⟨q7,hq7⟩ : ∃ q7,q7 = x7_3.heap.size:=⟨_,rfl⟩
    rw [← hq7] at HK7
    simp only [← hq7]
    clear hC7 hx7_8 hq7 e7 f7 hc7
    have HG7:=Aside0.mk (HG3.out.below_ hHeld)
    have HL7:=Aside0.mk (Kd.C_below HL3.out hHeld)
    have HP7:=Aside0.mk (blk_below HP3.out hHeld)
    have HC47:=Aside0.mk (Kd.C_below HC4.out hHeld)
    have HK47:=Aside0.mk (blk_below HK4.out hHeld)
    have HB7:=Aside0.mk (below_then HB3.out HB3.out.size hHeld)
    clear hHeld
    go_upto_region 8 with (fail)
    obtain ⟨e8,f8⟩:=HLS.out ((n : Int) - 1) rfl (by rw [← HNF.out];omega)
    have w8 : IntKind.i64.wrap ((n : Int) - 1) = (n : Int) - 1:=IntWalk.i64_in _ (by omega)
    refine pl_start ?_
    refine pl_held (B:=x7_8.heap.size) (v:=x7_8) (Below.refl _ _) (fun hHeld => ?_)
    refine pp_ ?_ ?_ ?_ (y:=by have d0:=(blk_cell (blk_below HP7.out hHeld) 0).trans rfl;have d1:=(blk_cell (blk_below HP7.out hHeld) 1).trans rfl;have d2:=(blk_cell (blk_below HP7.out hHeld) 2).trans rfl;go_simp;rfl)
    refine pp_ ?_ ?_ ?_
    refine pp_ ?_ ?_ ?_
    refine pp_ ?_ ?_ ?_
    refine goesCL_ (N:=(some 69)) Try.func34 (by kernel_rfl) rfl (by rfl) rfl rfl (fo_c g A1 A2 A3 c1 c2 c3 B d l ((n : Int) - 1) _ (HG7.out.below_ hHeld) (Kd.C_below HL7.out hHeld) HBD.out (by omega)) (by simp [Act.eval]) ?_
    rintro e x8_4 ⟨⟨A8,c8,rfl,hc8,hC8⟩,hb8_4⟩
    refine ⟨_,rfl,?_⟩
    simp only [Act.put,List.setIfInBounds_toArray,List.set_cons_zero,List.set_cons_succ]
    rw [f8] at hC8
    rw [e8,f8]
    refine pl_held (B:=x7_8.heap.size) (v:=x7_8) (below_then hHeld hHeld.size hb8_4) (fun hHeld => ?_)
    refine pp_ ?_ ?_ ?_
    refine pp_ ?_ ?_ ?_
    refine pp_ ?_ ?_ ?_
    refine pl_value (N:=(some 12)) (v:=?v92) (w1:=?w92) (by rfl) rfl ?h92 ?_
    case h92 => (go_simp;first | rfl | (constructor;rfl;rfl))
    simp only [Act.put,List.setIfInBounds_toArray,List.set_cons_zero,List.set_cons_succ]
    refine pl_skip (w1:=?w93) (by rfl) rfl ?h93 ?_
    case h93 => (go_simp;rfl)
    refine pl_world ?_
    intro x8_9 hb8_9 hx8_9 hs8_9 hq8_9
    refine pl_held (B:=x7_8.heap.size) (v:=x7_8) (below_then hHeld hHeld.size hb8_9) (fun hHeld => ?_)
    refine pp_ ?_ ?_ ?_
    refine pl_nil ?_
    clear hC8 hx8_9 e8 f8 hc8 w8
    have HG8:=Aside0.mk (HG7.out.below_ hHeld)
    have HL8:=Aside0.mk (Kd.C_below HL7.out hHeld)
    have HP8:=Aside0.mk (blk_below HP7.out hHeld)
    have HC48:=Aside0.mk (Kd.C_below HC47.out hHeld)
    have HK48:=Aside0.mk (blk_below HK47.out hHeld)
    have HC78:=Aside0.mk (Kd.C_below HC7.out hHeld)
    have HK78:=Aside0.mk (blk_below HK7.out hHeld)
    have HB8:=Aside0.mk (below_then HB7.out HB7.out.size hHeld)
    clear hHeld
    go_upto_region 9 with (fail)
    obtain ⟨e9,f9⟩:=HMR.out ((n : Int) + mo) rfl (by rw [← HNF.out];omega)
    have w9 : IntKind.i64.wrap ((n : Int) + mo) = (n : Int) + mo:=IntWalk.i64_in _ (by omega)
    have w9b : IntKind.i64.wrap mo = mo:=IntWalk.i64_in _ (by omega)
    refine pl_start ?_
    refine pl_held (B:=x8_9.heap.size) (v:=x8_9) (Below.refl _ _) (fun hHeld => ?_)
    refine pp_ ?_ ?_ ?_ (y:=by have d0:=(blk_cell (blk_below HP8.out hHeld) 0).trans rfl;have d1:=(blk_cell (blk_below HP8.out hHeld) 1).trans rfl;have d2:=(blk_cell (blk_below HP8.out hHeld) 2).trans rfl;go_simp;rfl)
    refine pp_ ?_ ?_ ?_
    refine pp_ ?_ ?_ ?_
    refine pp_ ?_ ?_ ?_
    refine pp_ ?_ ?_ ?_
    refine pp_ ?_ ?_ ?_
    refine goesCL_ (N:=(some 79)) Try.func34 (by kernel_rfl) rfl (by rfl) rfl rfl (fo_c g A1 A2 A3 c1 c2 c3 B d l ((n : Int) + mo) _ (HG8.out.below_ hHeld) (Kd.C_below HL8.out hHeld) HBD.out (by omega)) (by simp [Act.eval]) ?_
    rintro e x9_6 ⟨⟨A9,c9,rfl,hc9,hC9⟩,hb9_6⟩
    refine ⟨_,rfl,?_⟩
    simp only [Act.put,List.setIfInBounds_toArray,List.set_cons_zero,List.set_cons_succ]
    rw [f9,← HNF.out] at hC9
    rw [e9,f9,← HNF.out]
    refine pl_held (B:=x8_9.heap.size) (v:=x8_9) (below_then hHeld hHeld.size hb9_6) (fun hHeld => ?_)
    refine pp_ ?_ ?_ ?_
    refine pp_ ?_ ?_ ?_
    refine pp_ ?_ ?_ ?_
    refine pl_value (N:=(some 14)) (v:=?v105) (w1:=?w105) (by rfl) rfl ?h105 ?_
    case h105 => (go_simp;first | rfl | (constructor;rfl;rfl))
    simp only [Act.put,List.setIfInBounds_toArray,List.set_cons_zero,List.set_cons_succ]
    refine pl_skip (w1:=?w106) (by rfl) rfl ?h106 ?_
    case h106 => (go_simp;rfl)
    refine pl_world ?_
    intro x9_11 hb9_11 hx9_11 hs9_11 hq9_11
    refine pl_held (B:=x8_9.heap.size) (v:=x8_9) (below_then hHeld hHeld.size hb9_11) (fun hHeld => ?_)
    refine pp_ ?_ ?_ ?_
    refine pl_nil ?_
    have HC9:=Aside0.mk (Kd.C_below hC9 hb9_11)
    have HK9:=Aside0.mk hx9_11
    obtain ⟨q9,hq9⟩ : ∃ q9,q9 = x9_6.heap.size:=⟨_,rfl⟩
    rw [← hq9] at HK9
    simp only [← hq9]
    clear hC9 hx9_11 hq9 e9 f9 hc9 w9 w9b
    have HC49:=Aside0.mk (Kd.C_below HC48.out hHeld)
    have HK49:=Aside0.mk (blk_below HK48.out hHeld)
    have HC79:=Aside0.mk (Kd.C_below HC78.out hHeld)
    have HK79:=Aside0.mk (blk_below HK78.out hHeld)
    have HB9:=Aside0.mk (below_then HB8.out HB8.out.size hHeld)
    clear hHeld
    go_upto_region 10 with (fail)
    have i1 : decide ((1 : Int) ≤ (n : Int)) = true:=decide_eq_true (by omega)
    refine pl_start ?_
    refine pl_held (B:=x9_11.heap.size) (v:=x9_11) (Below.refl _ _) (fun hHeld => ?_)
    refine pp_ ?_ ?_ ?_
    refine pp_ ?_ ?_ ?_
    refine pp_ ?_ ?_ ?_
    refine pp_ ?_ ?_ ?_
    refine pp_ ?_ ?_ ?_
    refine pp_ ?_ ?_ ?_
    refine pp_ ?_ ?_ ?_
    refine pp_ ?_ ?_ ?_ (y:=by have d0:=(blk_cell (blk_below HK49.out hHeld) 0).trans rfl;have d1:=(blk_cell (blk_below HK79.out hHeld) 0).trans rfl;have d2:=(blk_cell (blk_below HK9.out hHeld) 0).trans rfl;go_simp;rfl)
    refine pp_ ?_ ?_ ?_ (y:=by have d0:=(blk_cell (blk_below HK49.out hHeld) 0).trans rfl;have d1:=(blk_cell (blk_below HK79.out hHeld) 0).trans rfl;have d2:=(blk_cell (blk_below HK9.out hHeld) 0).trans rfl;go_simp;rfl)
    refine goesCL_ (N:=(some 91)) Try.func36 (by kernel_rfl) rfl (by rfl) rfl rfl (keepForest_s A7 A4 n c7 c4 F _ (Kd.C_below HC79.out hHeld) (Kd.C_below HC49.out hHeld)) (by simp [Act.eval]) ?_
    rintro e x10_9 ⟨rfl,hb10_9⟩
    refine ⟨_,rfl,?_⟩
    simp only [Act.put,List.setIfInBounds_toArray,List.set_cons_zero,List.set_cons_succ]
    refine pl_held (B:=x9_11.heap.size) (v:=x9_11) (below_then hHeld hHeld.size hb10_9) (fun hHeld => ?_)
    refine pp_ ?_ ?_ ?_
    refine pp_ ?_ ?_ ?_
    refine pp_ ?_ ?_ ?_
    refine pp_ ?_ ?_ ?_
    refine pp_ ?_ ?_ ?_
    refine pp_ ?_ ?_ ?_
    refine pp_ ?_ ?_ ?_
    refine pp_ ?_ ?_ ?_
    refine pp_ ?_ ?_ ?_
    refine pp_ ?_ ?_ ?_
    refine pp_ ?_ ?_ ?_ (y:=by have d0:=(blk_cell (blk_below HK49.out hHeld) 0).trans rfl;have d1:=(blk_cell (blk_below HK79.out hHeld) 0).trans rfl;have d2:=(blk_cell (blk_below HK9.out hHeld) 0).trans rfl;go_simp;rfl)
    refine pp_ ?_ ?_ ?_ (y:=by have d0:=(blk_cell (blk_below HK49.out hHeld) 0).trans rfl;have d1:=(blk_cell (blk_below HK79.out hHeld) 0).trans rfl;have d2:=(blk_cell (blk_below HK9.out hHeld) 0).trans rfl;go_simp;rfl)
    refine goesCL_ (N:=(some 104)) Try.func36 (by kernel_rfl) rfl (by rfl) rfl rfl (keepForest_s A9 A4 n c9 c4 F _ (Kd.C_below HC9.out hHeld) (Kd.C_below HC49.out hHeld)) (by simp [Act.eval]) ?_
    rintro e x10_22 ⟨rfl,hb10_22⟩
    refine ⟨_,rfl,?_⟩
    simp only [Act.put,List.setIfInBounds_toArray,List.set_cons_zero,List.set_cons_succ]
    refine pl_held (B:=x9_11.heap.size) (v:=x9_11) (below_then hHeld hHeld.size hb10_22) (fun hHeld => ?_)
    refine pp_ ?_ ?_ ?_
    refine pp_ ?_ ?_ ?_
    refine goesCL_ (N:=(some 107)) Try.func33 (by kernel_rfl) rfl (by rfl) rfl rfl (wakes25_c _) (by simp [Act.eval]) ?_
    rintro e x10_25 ⟨rfl,hb10_25⟩
    refine ⟨_,rfl,?_⟩
    simp only [Act.put,List.setIfInBounds_toArray,List.set_cons_zero,List.set_cons_succ]
    refine pl_held (B:=x9_11.heap.size) (v:=x9_11) (below_then hHeld hHeld.size hb10_25) (fun hHeld => ?_)
    refine pp_ ?_ ?_ ?_
    refine pp_ ?_ ?_ ?_
    refine pl_nil ?_
    go_wp2
    go_ret
    exact ⟨ret_bool rfl,below_then HB9.out HB9.out.size hHeld⟩
  · have d0 : (E != 0) = true:=by simpa using h0
    rcases HCS.out with h | ⟨h,hF0⟩
    · exact absurd h h0
    have f0:=(blk_cell HK4.out 0).trans rfl
    rw [hF0] at f0
    rcases h with rfl | rfl
    · go_wp2_with (go_at_call 33;refine (wakes25_c _).mono ?_;rintro e w9 ⟨rfl,hb9⟩)
      go_ret
      exact ⟨rfl,below_then (below_then HB0.out HB0.out.size hHeld) (below_then HB0.out HB0.out.size hHeld).size hb9⟩
    · go_wp2_with (go_at_call 33;refine (wakes25_c _).mono ?_;rintro e w9 ⟨rfl,hb9⟩)
      go_ret
      exact ⟨rfl,below_then (below_then HB0.out HB0.out.size hHeld) (below_then HB0.out HB0.out.size hHeld).size hb9⟩
end Go.Proofs.Ytmkgcjhimajgiaa

