/- The law ChartHolds,walked: it answers true. -/
import Derived.Test.YtmkgcjhimajgiaaI2j
import Derived.Test.YtmkgcjhimajgiaaJI
import Derived.Test.YtmkgcjhimajgiaaP34j
import Derived.Test.YtmkgcjhimajgiaaJA
import Derived.Deep.Cut
import Derived.Test.YtmkgcjhimajgiaaJK
import Derived.Test.YtmkgcjhimajgiaaI7j
import Derived.Test.YtmkgcjhimajgiaaFXj
set_option linter.unusedVariables false
set_option linter.unusedSimpArgs false
namespace Go.Proofs.Ytmkgcjhimajgiaa.Fast
open Go.RowKit Go.Proofs.YtmkgcjhimajgiaaW.PrintWords Go.Proofs.YtmkgcjhimajgiaaW.PrintLast Go.Conc

/-- A slice of a slice that is read. -/
theorem cutC_mid {α : Type} (d : Kd α) {t e : TypeId} {z : Option Value} {bytes : Nat} (ht : Try.prog.underlying t = some (.slice e)) (hinfo : (Try.prog.info? e).map (fun i => (i.zero,i.size,i.bytes)) = some (z,d.sz,bytes)) {w : World} {A : Option Addr} {c n : Nat} {xs : List α}
    (h : d.C w A n xs) (hc : n ≤ c) (i j : Nat) (hij : i ≤ j) (hj : j ≤ n) :
    ∃ A',(∀ W : World,(Instr.slice t (.slice A n c) (some (.int .i64 (i : Int))) (some (.int .i64 (j : Int))) none).run Try.prog W = .ok (.slice A' (j - i) (c - i)) W) ∧ d.C w A' (j - i) ((xs.take j).drop i):=by
  obtain rfl:=C_len h
  obtain ⟨i0,hi,hzz⟩:=Option.map_eq_some_iff.1 hinfo
  simp only [Prod.mk.injEq] at hzz
  refine ⟨if c = i then A else A.map (·.add (i * d.sz)),fun W => ?_,?_⟩
  · have hel : Try.prog.elem t = e:=by simp [Program.elem,ht]
    have hu : Try.prog.underlying t = some (.slice (Try.prog.elem t)):=by rw [hel];exact ht
    rw [run_slice_lh W t A xs.length c hu .i64 .i64 (i : Int) (j : Int) (by omega) (by omega) (by omega),hel]
    simp [sizeOf,typeInfo,hi,hzz.2.1,sliced,Result.andThen]
  · have h3 : d.C w A (xs.take j).length (xs.take j):=by rw [List.length_take,Nat.min_eq_left hj];exact C_take' h hj
    have hle : (xs.take j).length = j:=by rw [List.length_take,Nat.min_eq_left hj]
    have:=Kd.C_drop (m:=i) h3 (by omega) (show (xs.take j).length ≤ c by omega)
    rwa [List.length_drop,hle] at this
theorem blk_two_ (w : World) (o o' : Obj) : ((w.alloc o).alloc o').heap[w.heap.size + 1]? = some o':=by
  have h:=blk_new (w.alloc o) o'
  rwa [show (w.alloc o).heap.size = w.heap.size + 1 by simp] at h

set_option maxRecDepth 100000 in
set_option maxHeartbeats 16000000 in
theorem chartHolds_c (g : Gram) (A1 A2 A3 : Option Addr) (c1 c2 c3 : Nat) (B : Option Addr) (d : Nat) (l : List Int) (xa xb : Int) (w : World) (hg : RepG w g A1 A2 A3 c1 c2 c3) (hz : Sized g) (hd : l.length ≤ d) (hl : kInt.C w B l.length l) (hb : ∀ y ∈ l,-9223372036854775808 ≤ y ∧ y ≤ 9223372036854775807) (hxa : 0 ≤ xa ∧ xa ≤ 255) (hxb : 0 ≤ xb ∧ xb ≤ 255) :
    Calls Try.prog 7 #[.agg #[.slice A1 g.terms.length c1,.slice A2 g.names.length c2,.slice A3 g.rules.length c3],.slice B l.length d,.agg #[.int .u8 xa,.int .u8 xb]] w fun e w' => e = .returned (.bool true) ∧ Below w.heap.size w w':=by
  obtain ⟨x0,hx0⟩ : ∃ x0,x0 = w.heap.size:=⟨_,rfl⟩
  obtain ⟨v0,hv0⟩ : ∃ v0 : World,v0 = (w.alloc (.cells #[.slice A1 g.terms.length c1,.slice A2 g.names.length c2,.slice A3 g.rules.length c3] 25 (0,0))).alloc (.cells #[.int .u8 xa,.int .u8 xb] 56 (0,0)):=⟨_,rfl⟩
  have HB0 : Aside0 (Below w.heap.size w v0):=⟨by rw [hv0];exact ((Below.refl w.heap.size w).alloc (Nat.le_refl _) _).alloc (by simp) _⟩
  have HP0 : Aside0 (v0.heap[x0]? = some (.cells #[.slice A1 g.terms.length c1,.slice A2 g.names.length c2,.slice A3 g.rules.length c3] 25 (0,0))):=⟨by rw [hv0,hx0];exact blk_alloc (blk_new w _) _⟩
  have HT0 : Aside0 (v0.heap[x0 + 1]? = some (.cells #[.int .u8 xa,.int .u8 xb] 56 (0,0))):=⟨by rw [hv0,hx0];exact blk_two_ w _ _⟩
  have HG0:=Aside0.mk (hg.below_ HB0.out)
  have HL0:=Aside0.mk (Kd.C_below hl HB0.out)
  have HZ:=Aside0.mk hz
  have HD:=Aside0.mk hd
  have HBD:=Aside0.mk hb
  have HXA:=Aside0.mk hxa
  have HXB:=Aside0.mk hxb
  obtain ⟨gv,hgv⟩ : ∃ gv,goodF g = gv:=⟨_,rfl⟩
  have HGV:=Lib.hid hgv
  obtain ⟨l7,hl7⟩ : ∃ b,decide (7 < l.length) = b:=⟨_,rfl⟩
  have i7 : decide (7 < (l.length : Int)) = l7:=dec_ilt hl7
  have HL7:=Lib.hid hl7
  clear hg hz hl hb hgv hd hxa hxb hl7
  go_enter Try.func7,Try.ntmps7
  go_upto_region 1 with (fail)
  simp only [← hv0]
  simp only [← hx0]
  have HX0:=Lib.hid hx0
  clear hv0 hx0
  refine pl_start ?_
  refine pl_held (B:=v0.heap.size) (v:=v0) (Below.refl _ _) (fun hHeld => ?_)
  refine pp_ ?_ ?_ ?_ (y:=by have d0:=(blk_cell (blk_below HP0.out hHeld) 0).trans rfl;have d1:=(blk_cell (blk_below HP0.out hHeld) 1).trans rfl;have d2:=(blk_cell (blk_below HP0.out hHeld) 2).trans rfl;go_simp;rfl)
  refine pp_ ?_ ?_ ?_
  refine goesCL_ (N:=(some 26)) Try.func15 (by kernel_rfl) rfl (by rfl) rfl rfl (small24_c g A1 A2 A3 c1 c2 c3 B d l _ (HG0.out.below_ hHeld) HZ.out) (by simp [Act.eval]) ?_
  rintro e x1_2 ⟨⟨sv,rfl,hsm⟩,hb1_2⟩
  refine ⟨_,rfl,?_⟩
  simp only [Act.put,List.setIfInBounds_toArray,List.set_cons_zero,List.set_cons_succ]
  refine pl_held (B:=v0.heap.size) (v:=v0) (below_then hHeld hHeld.size hb1_2) (fun hHeld => ?_)
  cases sv
  · clear hsm
    refine pl_held (B:=v0.heap.size) (v:=v0) (hHeld) (fun hHeld => ?_)
    refine pp_ ?_ ?_ ?_
    refine pp_ ?_ ?_ ?_
    refine pf_ ?_ ?_
    refine pf_ ?_ ?_
    refine pf_ ?_ ?_
    refine pp_ ?_ ?_ ?_
    refine pp_ ?_ ?_ ?_
    refine pf_ ?_ ?_
    refine pf_ ?_ ?_
    refine pf_ ?_ ?_
    refine pp_ ?_ ?_ ?_
    refine pl_nil ?_
    go_wp2_with (go_at_call 16;refine (wakes24_c _).mono ?_;rintro e w9 ⟨rfl,hb9⟩)
    go_ret
    exact ⟨rfl,below_then (below_then HB0.out HB0.out.size hHeld) (below_then HB0.out HB0.out.size hHeld).size hb9⟩
  have HSM:=Aside0.mk (hsm rfl)
  clear hsm
  cases gv
  · refine pl_held (B:=v0.heap.size) (v:=v0) (hHeld) (fun hHeld => ?_)
    refine pp_ ?_ ?_ ?_
    refine pp_ ?_ ?_ ?_
    refine pp_ ?_ ?_ ?_ (y:=by have d0:=(blk_cell (blk_below HP0.out hHeld) 0).trans rfl;have d1:=(blk_cell (blk_below HP0.out hHeld) 1).trans rfl;have d2:=(blk_cell (blk_below HP0.out hHeld) 2).trans rfl;go_simp;rfl)
    refine goesCL_ (N:=(some 30)) Try.func28 (by kernel_rfl) rfl (by rfl) rfl rfl (good1_v g A1 A2 A3 c1 c2 c3 _ (HG0.out.below_ hHeld) HZ.out HGV.out) (by simp [Act.eval]) ?_
    rintro e x1_6 ⟨rfl,hb1_6⟩
    refine ⟨_,rfl,?_⟩
    simp only [Act.put,List.setIfInBounds_toArray,List.set_cons_zero,List.set_cons_succ]
    refine pl_held (B:=v0.heap.size) (v:=v0) (below_then hHeld hHeld.size hb1_6) (fun hHeld => ?_)
    refine pp_ ?_ ?_ ?_
    refine pp_ ?_ ?_ ?_
    refine pp_ ?_ ?_ ?_
    refine pf_ ?_ ?_
    refine pf_ ?_ ?_
    refine pf_ ?_ ?_
    refine pp_ ?_ ?_ ?_
    refine pl_nil ?_
    go_wp2_with (go_at_call 16;refine (wakes24_c _).mono ?_;rintro e w9 ⟨rfl,hb9⟩)
    go_ret
    exact ⟨rfl,below_then (below_then HB0.out HB0.out.size hHeld) (below_then HB0.out HB0.out.size hHeld).size hb9⟩
  refine pl_held (B:=v0.heap.size) (v:=v0) (hHeld) (fun hHeld => ?_)
  refine pp_ ?_ ?_ ?_
  refine pp_ ?_ ?_ ?_
  refine pp_ ?_ ?_ ?_ (y:=by have d0:=(blk_cell (blk_below HP0.out hHeld) 0).trans rfl;have d1:=(blk_cell (blk_below HP0.out hHeld) 1).trans rfl;have d2:=(blk_cell (blk_below HP0.out hHeld) 2).trans rfl;go_simp;rfl)
  refine goesCL_ (N:=(some 30)) Try.func28 (by kernel_rfl) rfl (by rfl) rfl rfl (good1_v g A1 A2 A3 c1 c2 c3 _ (HG0.out.below_ hHeld) HZ.out HGV.out) (by simp [Act.eval]) ?_
  rintro e x1_6 ⟨rfl,hb1_6⟩
  refine ⟨_,rfl,?_⟩
  simp only [Act.put,List.setIfInBounds_toArray,List.set_cons_zero,List.set_cons_succ]
  refine pl_held (B:=v0.heap.size) (v:=v0) (below_then hHeld hHeld.size hb1_6) (fun hHeld => ?_)
  refine pp_ ?_ ?_ ?_
  refine pp_ ?_ ?_ ?_
  refine pp_ ?_ ?_ ?_
  refine pp_ ?_ ?_ ?_
  refine pp_ ?_ ?_ ?_
  refine pp_ ?_ ?_ ?_
  refine pp_ ?_ ?_ ?_
  refine pl_nil ?_
  cases l7
  case true =>
    go_wp2_with (go_at_call 16;refine (wakes24_c _).mono ?_;rintro e w9 ⟨rfl,hb9⟩)
    go_ret
    exact ⟨rfl,below_then (below_then HB0.out HB0.out.size hHeld) (below_then HB0.out HB0.out.size hHeld).size hb9⟩
  have hln7 : l.length ≤ 7:=by have:=of_decide_eq_false HL7.out;omega
  obtain ⟨q1,q2,q3,q4⟩:=goodF_small HGV.out
  go_upto_region 3 with (fail)
  refine pl_start ?_
  refine pl_held (B:=v0.heap.size) (v:=v0) (hHeld) (fun hHeld => ?_)
  refine pp_ ?_ ?_ ?_ (y:=by have d0:=(blk_cell (blk_below HP0.out hHeld) 0).trans rfl;have d1:=(blk_cell (blk_below HP0.out hHeld) 1).trans rfl;have d2:=(blk_cell (blk_below HP0.out hHeld) 2).trans rfl;go_simp;rfl)
  refine pp_ ?_ ?_ ?_
  refine goesCL_ (N:=(some 42)) Try.func17 (by kernel_rfl) rfl (by rfl) rfl rfl (ofC_yes g A1 A2 A3 c1 c2 c3 B d l _ (HG0.out.below_ hHeld) (Kd.C_below HL0.out hHeld) HGV.out (by omega) HBD.out) (by simp [Act.eval]) ?_
  rintro e x3_2 ⟨⟨k,rfl,hcf,hlo⟩,hb3_2⟩
  refine ⟨_,rfl,?_⟩
  simp only [Act.put,List.setIfInBounds_toArray,List.set_cons_zero,List.set_cons_succ]
  refine pl_held (B:=v0.heap.size) (v:=v0) (below_then hHeld hHeld.size hb3_2) (fun hHeld => ?_)
  refine pp_ ?_ ?_ ?_
  refine pp_ ?_ ?_ ?_
  refine pp_ ?_ ?_ ?_
  refine pp_ ?_ ?_ ?_
  refine pp_ ?_ ?_ ?_
  refine pl_nil ?_
  go_upto_region 6 with (fail)
  have HC3:=Aside0.mk hcf
  clear hcf
  refine pl_start ?_
  refine pl_held (B:=v0.heap.size) (v:=v0) (hHeld) (fun hHeld => ?_)
  refine pp_ ?_ ?_ ?_ (y:=by have d0:=(blk_cell (blk_below HP0.out hHeld) 0).trans rfl;have d1:=(blk_cell (blk_below HP0.out hHeld) 1).trans rfl;have d2:=(blk_cell (blk_below HP0.out hHeld) 2).trans rfl;go_simp;rfl)
  refine goesCL_ (N:=(some 52)) Try.func31 (by kernel_rfl) rfl (by rfl) rfl rfl (ofN_yes g A1 A2 A3 c1 c2 c3 _ (HG0.out.below_ hHeld) HGV.out) (by simp [Act.eval]) ?_
  rintro e x6_1 ⟨⟨bn,rfl,hbn,hbl⟩,hb6_1⟩
  refine ⟨_,rfl,?_⟩
  simp only [Act.put,List.setIfInBounds_toArray,List.set_cons_zero,List.set_cons_succ]
  refine pl_held (B:=v0.heap.size) (v:=v0) (below_then hHeld hHeld.size hb6_1) (fun hHeld => ?_)
  refine pp_ ?_ ?_ ?_
  refine pl_nil ?_
  have HC6:=Aside0.mk (HC3.out.below_ hb6_1)
  have HN6:=Aside0.mk hbn
  have HP6:=Aside0.mk (blk_below HP0.out hHeld)
  have HT6:=Aside0.mk (blk_below HT0.out hHeld)
  have HG6:=Aside0.mk (HG0.out.below_ hHeld)
  have HL6:=Aside0.mk (Kd.C_below HL0.out hHeld)
  have HBv:=Aside0.mk (below_then HB0.out HB0.out.size hHeld)
  obtain ⟨v,hv⟩ : ∃ v,v = x6_1:=⟨_,rfl⟩
  rw [← hv] at HC6 HN6 HP6 HT6 HG6 HL6 HBv ⊢
  have HNL:=Aside0.mk (nullF_len HGV.out)
  obtain ⟨nv,hnv⟩ : ∃ nv,nv = nullF g:=⟨_,rfl⟩
  rw [← hnv] at HN6 HNL ⊢
  obtain ⟨n1,hn1⟩ : ∃ n1,n1 = l.length + 1:=⟨_,rfl⟩
  have e1 : IntKind.i64.wrap ((l.length : Int) + 1) = (n1 : Int):=by rw [IntWalk.i64_in _ (by omega)];omega
  obtain ⟨a,ha⟩ : ∃ a : Nat,xa % (n1 : Int) = a:=⟨(xa % (n1 : Int)).toNat,by have:=Int.emod_nonneg xa (show (n1 : Int) ≠ 0 by omega);omega⟩
  obtain ⟨b,hb⟩ : ∃ b : Nat,xb % (n1 : Int) = b:=⟨(xb % (n1 : Int)).toNat,by have:=Int.emod_nonneg xb (show (n1 : Int) ≠ 0 by omega);omega⟩
  have han : a ≤ l.length:=by have:=Int.emod_lt_of_pos xa (show (0 : Int) < n1 by omega);omega
  have hbn1 : b ≤ l.length:=by have:=Int.emod_lt_of_pos xb (show (0 : Int) < n1 by omega);omega
  have t1 : IntKind.i64.wrap xa = xa:=by have:=HXA.out;rw [IntWalk.i64_in _ (by omega)]
  have t2 : IntKind.i64.wrap xb = xb:=by have:=HXB.out;rw [IntWalk.i64_in _ (by omega)]
  have t3 : xa.tmod (n1 : Int) = (a : Int):=by rw [Int.tmod_eq_emod_of_nonneg HXA.out.1,ha]
  have t4 : xb.tmod (n1 : Int) = (b : Int):=by rw [Int.tmod_eq_emod_of_nonneg HXB.out.1,hb]
  have hnz : ¬ n1 = 0:=by omega
  have u0:=(blk_cell HT6.out 0).trans rfl
  have u1:=(blk_cell HT6.out 1).trans rfl
  have HN1:=Lib.hid hn1
  have HNV:=Lib.hid hnv
  clear ha hb hv hlo hHeld hb1_2 hb1_6 hb3_2 hb6_1 hn1 HC3 hbn hbl hnv
  go_upto_region 7 with (fail)
  clear u0 u1
  refine start_ (n:=16) (S:=fun w' => Below v.heap.size v w') (ds:=[]) (lb 16 0x0) (by kernel_rfl) rfl (by kernel_rfl) (below_drew1 (Below.refl _ _)) (fun hHeld => ?_)
  refine pu_ ?_ ?_ 0 (some 53) (lb 16 0x1) ?_
  refine pu_ ?_ ?_ 3 (some 56) (lb 16 0x9) ?_
  refine pu_ ?_ ?_ 4 (some 57) (lb 16 0x19) ?_
  refine pu_ ?_ ?_ 5 (some 58) (lb 16 0x39) ?_
  refine pu_ ?_ ?_ 7 (some 60) (lb 16 0xb9) ?_
  refine pu_ ?_ ?_ 10 (some 63) (lb 16 0x4b9) ?_
  refine pu_ ?_ ?_ 11 (some 64) (lb 16 0xcb9) ?_
  refine pu_ ?_ ?_ 12 (some 65) (lb 16 0x1cb9) ?_
  refine ta_ ?_ ?_ 1 (some 54) (lb 16 0x1cbb) hHeld ?_ (y:=by rintro w' hS;have d0:=(blk_cell (blk_below HT6.out hS) 0).trans rfl;have d1:=(blk_cell (blk_below HT6.out hS) 1).trans rfl;go_simp;with_reducible rfl)
  refine pu_ ?_ ?_ 2 (some 55) (lb 16 0x1cbf) ?_
  refine pu_ ?_ ?_ 6 (some 59) (lb 16 0x1cff) ?_
  refine pu_ ?_ ?_ 14 (some 10) (lb 16 0x5cff) ?_
  refine ta_ ?_ ?_ 8 (some 61) (lb 16 0x5dff) hHeld ?_ (y:=by rintro w' hS;have d0:=(blk_cell (blk_below HT6.out hS) 0).trans rfl;have d1:=(blk_cell (blk_below HT6.out hS) 1).trans rfl;go_simp;with_reducible rfl)
  refine pu_ ?_ ?_ 9 (some 62) (lb 16 0x5fff) ?_
  refine pu_ ?_ ?_ 13 (some 66) (lb 16 0x7fff) ?_
  refine pu_ ?_ ?_ 15 (some 11) (lb 16 0xffff) ?_
  refine done_ (by kernel_rfl) ?_
  obtain ⟨v1,hv1⟩ : ∃ v1,v1 = v.drew:=⟨_,rfl⟩
  rw [← hv1] at hHeld ⊢
  have HBw:=Aside0.mk (below_then HBv.out HBv.out.size hHeld)
  have HC:=Aside0.mk (HC6.out.below_ hHeld)
  have HNU:=Aside0.mk (HN6.out.below hHeld)
  have HP:=Aside0.mk (blk_below HP6.out hHeld)
  have HG:=Aside0.mk (HG6.out.below_ hHeld)
  have HL:=Aside0.mk (Kd.C_below HL6.out hHeld)
  clear HC6 HN6 HP6 HG6 HL6 HBv hHeld HT6 hv1
  clear e1 t1 t2 t3 t4 hnz
  go_upto_if 69 with (fail)
  go_cut [10,11] from 67 (fun iv jv wc => ∃ i j : Nat,iv = .int .i64 i ∧ jv = .int .i64 j ∧ i ≤ j ∧ j ≤ l.length ∧ wc = v1)
  case first =>
    by_cases hab : b < a
    · have hab2 : (b : Int) < (a : Int):=by omega
      go_wp2_with fail
      go_meet
      case rel => exact ⟨b,a,rfl,rfl,by omega,han,rfl⟩
    · have hab2 : ¬ (b : Int) < (a : Int):=by omega
      go_wp2_with fail
      go_meet
      case rel => exact ⟨a,b,rfl,rfl,by omega,hbn1,rfl⟩
  case rest =>
  obtain ⟨i,j,rfl,rfl,hij,hjl,rfl⟩:=hcut
  clear han hbn1
  rename World => v1
  go_upto_region 10 with (fail)
  obtain ⟨Bs,hsl,hcs⟩:=cutC_mid kInt (t:=26) Try.underlying26 infoInt HL.out HD.out i j hij hjl
  have HCS:=Aside0.mk hcs
  have hlp : ((l.take j).drop i).length = j - i:=part_len hjl
  obtain ⟨lp,hlp2⟩ : ∃ lp,lp = (l.take j).drop i:=⟨_,rfl⟩
  rw [← hlp2] at HCS hlp
  have HLPE:=Lib.hid hlp2
  have HLPB : Aside0 (∀ y ∈ lp,-9223372036854775808 ≤ y ∧ y ≤ 9223372036854775807):=⟨fun y hy => HBD.out y (by rw [hlp2] at hy;exact List.mem_of_mem_take (List.mem_of_mem_drop hy))⟩
  have HLP:=Lib.hid hlp
  have h40 : lp.length ≤ 40:=by omega
  clear hcs hlp2 hlp
  refine start_ (n:=11) (S:=fun w' => Below v1.heap.size v1 w') (ds:=[5]) (lb 11 0x0) (by kernel_rfl) rfl (by kernel_rfl) (below_drew1 (Below.refl _ _)) (fun hHeld => ?_)
  refine pu_ ?_ ?_ 1 (some 74) (lb 11 0x2) ?_
  refine pu_ ?_ ?_ 2 (some 75) (lb 11 0x6) ?_
  refine pu_ ?_ ?_ 3 (some 76) (lb 11 0xe) ?_
  refine pu_ ?_ ?_ 4 (some 77) (lb 11 0x1e) ?_
  refine ta_ ?_ ?_ 0 (some 73) (lb 11 0x1f) hHeld ?_ (y:=by rintro w' hS;have d0:=(blk_cell (blk_below HP.out hS) 0).trans rfl;have d1:=(blk_cell (blk_below HP.out hS) 1).trans rfl;have d2:=(blk_cell (blk_below HP.out hS) 2).trans rfl;go_simp;with_reducible rfl)
  refine ls_ 5 (some 78) (lb 11 0x3f) (fun K hK => ?_)
  (refine goesC_ Try.func17 (by kernel_rfl) rfl (by rfl) rfl rfl (ofC_yes g A1 A2 A3 c1 c2 c3 Bs (d - i) lp _ (HG.out.below_ hHeld) (Kd.C_below (by rw [HLP.out];exact HCS.out) hHeld) HGV.out h40 HLPB.out) (by simp [Act.eval,HLP.out]) ?_;rintro e w9 ⟨⟨k2,rfl,hcf2,hlo2⟩,hb9⟩;refine ⟨_,rfl,?_⟩;have HW9:=Aside0.mk (below_then hHeld hHeld.size hb9);have HC2:=Aside0.mk hcf2;clear hcf2 hlo2 hb9)
  refine hK.out _ _ ?_
  clear hK K
  refine nm_ ?_ (some 78) ?_
  refine pu_ ?_ ?_ 6 (some 72) (lb 11 0x7f) ?_
  refine pu_ ?_ ?_ 7 (some 79) (lb 11 0xff) ?_
  refine pu_ ?_ ?_ 8 (some 80) (lb 11 0x1ff) ?_
  refine pu_ ?_ ?_ 9 (some 12) (lb 11 0x3ff) ?_
  refine pu_ ?_ ?_ 10 (some 13) (lb 11 0x7ff) ?_
  refine done_ (by kernel_rfl) ?_
  have HBz:=Aside0.mk (below_then HBw.out HBw.out.size HW9.out)
  have HCk:=Aside0.mk (HC.out.below_ HW9.out)
  have HNk:=Aside0.mk (HNU.out.below HW9.out)
  have HPk:=Aside0.mk (blk_below HP.out HW9.out)
  have HGk:=Aside0.mk (HG.out.below_ HW9.out)
  clear HC HNU HP HG HBw HW9 HCS hsl h40 i7
  have a1:=(blk_cell HPk.out 0).trans rfl
  have a2:=(blk_cell HPk.out 1).trans rfl
  have e1 : IntKind.i64.wrap ((g.terms.length : Int) + (g.names.length : Int)) = (nv.length : Int):=by
    have h:=HNL.out
    unfold nsym at h
    rw [IntWalk.i64_in _ (by omega)]
    omega
  have e3 : IntKind.i64.wrap ((j : Int) - (i : Int)) = ((j - i : Nat) : Int):=by rw [IntWalk.i64_in _ (by omega)];omega
  have hnb : nv.length ≤ 80:=by have h:=HNL.out;unfold nsym at h;omega
  have htn : g.terms.length ≤ nv.length:=by have h:=HNL.out;unfold nsym at h;omega
  go_wp2
  clear a1 a2 e1
  go_loopw [14] (fun sv wr => ∃ s : Nat,g.terms.length ≤ s ∧ s ≤ nv.length ∧ sv = .int .i64 s ∧ Aside0 (Below w9.heap.size w9 wr)) (fun sv _ => nv.length - (intOf sv).toNat)
  case atStart => exact ⟨g.terms.length,Nat.le_refl _,htn,rfl,⟨Below.refl _ _⟩⟩
  case round =>
    obtain ⟨s,hs1,hs2,rfl,HB⟩:=hrel
    rename World => ws
    by_cases hsn : s < nv.length
    · have s2 : (s : Int) < (nv.length : Int):=by omega
      go_wp2
      clear s2
      go_loopw [16,15] (fun rv av wr => ∃ r : Nat,r ≤ g.rules.length ∧ rv = .int .i64 r ∧ av = .bool (anyR g l s i j r) ∧ Aside0 (Below w9.heap.size w9 wr)) (fun rv _ _ => g.rules.length - (intOf rv).toNat)
      case atStart => exact ⟨0,Nat.zero_le _,rfl,rfl,HB⟩
      case round =>
        as_aux_lemma =>
          clear HB
          obtain ⟨r,hr,rfl,rfl,HB⟩:=hrel
          rename World => wr_
          have a3 : wr_.cell? ⟨x0,2,none⟩ = some (.slice A3 g.rules.length c3):=(blk_cell (blk_below HPk.out HB.out) 2).trans rfl
          by_cases hrl : r < g.rules.length
          · have r2 : (r : Int) < (g.rules.length : Int):=by omega
            obtain ⟨ad,B1,d1,ead,hx,hy,hd1,hC1⟩:=at_rule HGk.out.rules r hrl
            cases ead
            have hx2:=pw_cell_below HB.out hx
            have hy2:=pw_cell_below HB.out hy
            have hru:=anyR_succ g l s i j r
            have hrv : ruleV g l s i j r = (decide ((g.rules[r]'hrl).left = (s : Int)) && partV g l r (g.rules[r]'hrl).right.length i j):=by unfold ruleV;rw [leftR_eq hrl,rightR_at hrl]
            rw [hrv] at hru
            have hr8:=(goodF_mem HGV.out (g.rules[r]'hrl) (List.getElem_mem _)).2.2.1
            obtain ⟨xr,hxr⟩ : ∃ xr,xr = g.rules[r]'hrl:=⟨_,rfl⟩
            rw [← hxr] at hx2 hy2 hru hr8
            obtain ⟨av,hav⟩ : ∃ av,anyR g l s i j r = av:=⟨_,rfl⟩
            rw [hav] at hru ⊢
            clear hx hy hrv hC1 hxr hd1 hav
            cases av
            · by_cases hls : xr.left = (s : Int)
              · obtain ⟨pv,hpv⟩ : ∃ pv,partV g l r xr.right.length i j = pv:=⟨_,rfl⟩
                have hbd : (-9223372036854775808 ≤ (r : Int) ∧ (r : Int) ≤ 9223372036854775807) ∧ (-9223372036854775808 ≤ (xr.right.length : Int) ∧ (xr.right.length : Int) ≤ 9223372036854775807):=by omega
                have HPM:=Aside0.mk (partM_c k g l r xr.right.length i j wr_ (HCk.out.below_ HB.out) hbd hpv)
                rw [hpv,decide_eq_true hls] at hru
                have HRU:=Lib.hid hru
                clear hru hpv
                go_wp2_with (go_at_call 22;go_loud (refine HPM.out.mono ?_;rintro e w5 ⟨rfl,hb5⟩;have HB5:=Aside0.mk (below_then HB.out HB.out.size hb5);clear hb5))
                go_roundw
                case rel => exact ⟨r + 1,by omega,by go_num,by rw [HRU.out];simp,HB5⟩
                case measure => simp [intOf];omega
              · rw [decide_eq_false hls] at hru
                have HRU:=Lib.hid hru
                clear hru
                go_wp2
                go_roundw
                case rel => exact ⟨r + 1,by omega,by go_num,by rw [HRU.out];simp,HB⟩
                case measure => simp [intOf];omega
            · have HRU:=Lib.hid hru
              clear hru
              go_wp2
              go_roundw
              case rel => exact ⟨r + 1,by omega,by go_num,by rw [HRU.out];simp,HB⟩
              case measure => simp [intOf];omega
          · have r2 : ¬ (r : Int) < (g.rules.length : Int):=by omega
            have hre : r = g.rules.length:=by omega
            rw [hre,anyR_sym hs1]
            rw [hre] at r2
            clear hre
            obtain ⟨sv,hsv⟩ : ∃ sv,symV g l s i j = sv:=⟨_,rfl⟩
            rw [hsv]
            have HSV:=Lib.hid hsv
            clear hsv
            go_upto_region 23 with (fail)
            clear a3 r2
            obtain ⟨w1,hw1⟩ : ∃ w1,w1 = wr_.alloc (.cells #[.int .i64 (s : Int),.int .i64 (i : Int),.int .i64 (j : Int)] 28 (0,0)):=⟨_,rfl⟩
            have HB1:=Aside0.mk (show Below w9.heap.size w9 w1 from by rw [hw1];exact HB.out.alloc HB.out.size _)
            have HX1:=Aside0.mk (show w1.heap[wr_.heap.size]? = some (.cells #[.int .i64 (s : Int),.int .i64 (i : Int),.int .i64 (j : Int)] 28 (0,0)) from by rw [hw1];exact blk_new wr_ _)
            simp only [← hw1]
            clear hw1
            have HC1:=Aside0.mk (HCk.out.below_ HB1.out)
            have HC21:=Aside0.mk (HC2.out.below_ HB1.out)
            obtain ⟨yv,hyv⟩ : ∃ yv,getB nv (s : Int) = yv:=⟨_,rfl⟩
            have hcn:=(HNk.out.below HB1.out).cell' (i:=s) hsn hyv
            have HCN:=Aside0.mk hcn
            have HS2 : Hid (symV g l s i i = yv):=Lib.hid (by rw [sym_null HGV.out (by omega),← HNV.out];exact hyv)
            have HS3 : Hid (symV g lp s 0 ((j - i : Nat) : Int) = sv):=Lib.hid (by have h:=sym_alone (g:=g) (w:=l) (s:=s) hij hjl;rw [← HLPE.out,HSV.out] at h;exact h)
            have hsb : -9223372036854775808 ≤ (s : Int) ∧ (s : Int) ≤ 9223372036854775807:=by omega
            have hn1 : (sv != sv) = false:=by cases sv <;> rfl
            have hn2 : (yv != yv) = false:=by cases yv <;> rfl
            have s2 : (s : Int) < (nv.length : Int):=by omega
            clear hyv hcn
            refine start_ (n:=29) (S:=fun w' => Below w1.heap.size w1 w') (ds:=[]) (lb 29 0x0) (by kernel_rfl) rfl (by kernel_rfl) (below_drew1 (Below.refl _ _)) (fun hHeld => ?_)
            refine pu_ ?_ ?_ 0 (some 146) (lb 29 0x1) ?_
            refine pu_ ?_ ?_ 3 (some 149) (lb 29 0x9) ?_
            refine ta_ ?_ ?_ 1 (some 147) (lb 29 0xb) hHeld ?_ (y:=by rintro w' hS;have d0:=(blk_cell (blk_below HX1.out hS) 0).trans rfl;have d1:=(blk_cell (blk_below HX1.out hS) 1).trans rfl;have d2:=(blk_cell (blk_below HX1.out hS) 2).trans rfl;have d3:=cell_at hS HCN.out;go_simp;with_reducible rfl)
            refine on_ 2 (some 148) (lb 29 0xf) (fun K hK => ?_)
            (refine goesC_ Try.func26 (by kernel_rfl) rfl (by rfl) rfl rfl (symM_c k g l s i j _ (HC1.out.below_ hHeld) hsb HSV.out) (by simp [Act.eval]) ?_;rintro e w9 ⟨rfl,hb9⟩;refine ⟨_,rfl,?_⟩;have HQ9:=Aside0.mk (below_then hHeld hHeld.size hb9);clear hb9;refine hK.out _ _ HQ9.out (fun hHeld => ?_))
            clear hK K
            refine nm_ ?_ (some 148) ?_
            refine pu_ ?_ ?_ 4 (some 150) (lb 29 0x1f) ?_
            refine pu_ ?_ ?_ 5 (some 151) (lb 29 0x3f) ?_
            refine pu_ ?_ ?_ 6 (some 152) (lb 29 0x7f) ?_
            refine pu_ ?_ ?_ 7 (some 153) (lb 29 0xff) ?_
            refine pu_ ?_ ?_ 8 (some 154) (lb 29 0x1ff) ?_
            refine pu_ ?_ ?_ 9 (some 155) (lb 29 0x3ff) ?_
            refine pu_ ?_ ?_ 10 (some 156) (lb 29 0x7ff) ?_
            refine pu_ ?_ ?_ 12 (some 158) (lb 29 0x17ff) ?_
            refine pu_ ?_ ?_ 13 (some 159) (lb 29 0x37ff) ?_
            refine pu_ ?_ ?_ 14 (some 160) (lb 29 0x77ff) ?_
            refine ta_ ?_ ?_ 15 (some 161) (lb 29 0xf7ff) hHeld ?_ (y:=by rintro w' hS;have d0:=(blk_cell (blk_below HX1.out hS) 0).trans rfl;have d1:=(blk_cell (blk_below HX1.out hS) 1).trans rfl;have d2:=(blk_cell (blk_below HX1.out hS) 2).trans rfl;have d3:=cell_at hS HCN.out;go_simp;with_reducible rfl)
            refine on_ 11 (some 157) (lb 29 0xffff) (fun K hK => ?_)
            (refine goesC_ Try.func26 (by kernel_rfl) rfl (by rfl) rfl rfl (symM_c k g l s i i _ (HC1.out.below_ hHeld) hsb HS2.out) (by simp [Act.eval]) ?_;rintro e w9 ⟨rfl,hb9⟩;refine ⟨_,rfl,?_⟩;have HQ9:=Aside0.mk (below_then hHeld hHeld.size hb9);clear hb9;refine hK.out _ _ HQ9.out (fun hHeld => ?_))
            clear hK K
            refine nm_ ?_ (some 157) ?_
            refine pu_ ?_ ?_ 16 (some 162) (lb 29 0x1ffff) ?_
            refine pu_ ?_ ?_ 17 (some 163) (lb 29 0x3ffff) ?_
            refine pu_ ?_ ?_ 18 (some 164) (lb 29 0x7ffff) ?_
            refine pu_ ?_ ?_ 19 (some 165) (lb 29 0xfffff) ?_
            refine pu_ ?_ ?_ 20 (some 166) (lb 29 0x1fffff) ?_
            refine pu_ ?_ ?_ 21 (some 167) (lb 29 0x3fffff) ?_
            refine pu_ ?_ ?_ 22 (some 168) (lb 29 0x7fffff) ?_
            refine pu_ ?_ ?_ 23 (some 169) (lb 29 0xffffff) ?_
            refine pu_ ?_ ?_ 24 (some 170) (lb 29 0x1ffffff) ?_
            refine pu_ ?_ ?_ 26 (some 172) (lb 29 0x5ffffff) ?_
            refine on_ 25 (some 171) (lb 29 0x7ffffff) (fun K hK => ?_)
            (refine goesC_ Try.func26 (by kernel_rfl) rfl (by rfl) rfl rfl (symM_c k2 g lp s 0 ((j - i : Nat) : Int) _ (HC21.out.below_ hHeld) hsb HS3.out) (by simp [Act.eval]) ?_;rintro e w9 ⟨rfl,hb9⟩;refine ⟨_,rfl,?_⟩;have HQ9:=Aside0.mk (below_then hHeld hHeld.size hb9);clear hb9;refine hK.out _ _ HQ9.out (fun hHeld => ?_))
            clear hK K
            refine nm_ ?_ (some 171) ?_
            refine pu_ ?_ ?_ 27 (some 173) (lb 29 0xfffffff) ?_
            refine pu_ ?_ ?_ 28 (some 174) (lb 29 0x1fffffff) ?_
            refine done_ (by kernel_rfl) ?_
            rename World => w6
            have HB6:=Aside0.mk (below_then HB1.out HB1.out.size hHeld)
            clear hHeld
            go_wp2
            go_roundw
            case rel => exact ⟨s + 1,by omega,by omega,by go_num,HB6⟩
            case measure => simp [intOf];omega
    · have hse : s = nv.length:=by omega
      have s2 : ¬ (s : Int) < (nv.length : Int):=by omega
      go_wp2
      clear s2
      go_loopw [19] (fun rv wr => ∃ r : Nat,r ≤ g.rules.length ∧ rv = .int .i64 r ∧ Aside0 (Below w9.heap.size w9 wr)) (fun rv _ => g.rules.length - (intOf rv).toNat)
      case atStart => exact ⟨0,Nat.zero_le _,rfl,HB⟩
      case round =>
        clear HB
        obtain ⟨r,hr,rfl,HB⟩:=hrel
        rename World => wr_
        have a3 : wr_.cell? ⟨x0,2,none⟩ = some (.slice A3 g.rules.length c3):=(blk_cell (blk_below HPk.out HB.out) 2).trans rfl
        by_cases hrl : r < g.rules.length
        · have r2 : (r : Int) < (g.rules.length : Int):=by omega
          obtain ⟨ad,B1,d1,ead,hx,hy,hd1,hC1⟩:=at_rule HGk.out.rules r hrl
          cases ead
          have HY:=Aside0.mk hy
          have HCR:=Aside0.mk hC1
          have HRR:=Aside0.mk (rightR_at hrl)
          have hr8:=(goodF_mem HGV.out (g.rules[r]'hrl) (List.getElem_mem _)).2.2.1
          obtain ⟨xr,hxr⟩ : ∃ xr,xr = g.rules[r]'hrl:=⟨_,rfl⟩
          rw [← hxr] at HY HCR HRR hr8
          have HRL:=Aside0.mk hrl
          clear hx hy hC1 hxr hd1
          go_wp2
          clear a3
          go_loopw [20] (fun dv wr => ∃ dd : Nat,dd ≤ xr.right.length + 1 ∧ dv = .int .i64 dd ∧ Aside0 (Below w9.heap.size w9 wr)) (fun dv _ => xr.right.length + 1 - (intOf dv).toNat)
          case atStart => exact ⟨0,by omega,rfl,HB⟩
          case round =>
            clear HB
            obtain ⟨dd,hd2,rfl,HB⟩:=hrel
            rename World => wd_
            have a3 : wd_.cell? ⟨x0,2,none⟩ = some (.slice (some ad) g.rules.length c3):=(blk_cell (blk_below HPk.out HB.out) 2).trans rfl
            have ay:=pw_cell_below HB.out HY.out
            by_cases hdl : dd ≤ xr.right.length
            · have d2 : (dd : Int) ≤ (xr.right.length : Int):=by omega
              obtain ⟨w1,hw1⟩ : ∃ w1,w1 = wd_.alloc (.cells #[.int .i64 (r : Int),.int .i64 (dd : Int),.int .i64 (i : Int),.int .i64 (j : Int)] 30 (0,0)):=⟨_,rfl⟩
              have HB1:=Aside0.mk (show Below w9.heap.size w9 w1 from by rw [hw1];exact HB.out.alloc HB.out.size _)
              have HX1:=Aside0.mk (show w1.heap[wd_.heap.size]? = some (.cells #[.int .i64 (r : Int),.int .i64 (dd : Int),.int .i64 (i : Int),.int .i64 (j : Int)] 30 (0,0)) from by rw [hw1];exact blk_new wd_ _)
              go_upto_region 32 with (fail)
              clear a3 ay
              simp only [← hw1]
              clear hw1
              have hbd : (-9223372036854775808 ≤ (r : Int) ∧ (r : Int) ≤ 9223372036854775807) ∧ (-9223372036854775808 ≤ (dd : Int) ∧ (dd : Int) ≤ 9223372036854775807):=by omega
              refine pl_start ?_
              refine pl_held (B:=w1.heap.size) (v:=w1) (Below.refl _ _) (fun hHeld => ?_)
              refine pp_ ?_ ?_ ?_
              refine pp_ ?_ ?_ ?_ (y:=by have d0:=(blk_cell (blk_below HX1.out hHeld) 0).trans rfl;have d1:=(blk_cell (blk_below HX1.out hHeld) 1).trans rfl;have d2:=(blk_cell (blk_below HX1.out hHeld) 2).trans rfl;have d3:=(blk_cell (blk_below HX1.out hHeld) 3).trans rfl;go_simp;rfl)
              refine goesCL_ (N:=(some 200)) Try.func24 (by kernel_rfl) rfl (by rfl) rfl rfl (pivM_c k g l r dd i j _ (HCk.out.below_ (below_then HB1.out HB1.out.size hHeld)) hbd) (by simp [Act.eval]) ?_
              rintro e x32_2 ⟨⟨Ap,cp,rfl,hpv⟩,hb32_2⟩
              refine ⟨_,rfl,?_⟩
              simp only [Act.put,List.setIfInBounds_toArray,List.set_cons_zero,List.set_cons_succ]
              refine pl_held (B:=w1.heap.size) (v:=w1) (below_then hHeld hHeld.size hb32_2) (fun hHeld => ?_)
              refine pp_ ?_ ?_ ?_
              refine pl_nil ?_
              rename World => wp_
              have HBp:=Aside0.mk (below_then HB1.out HB1.out.size hHeld)
              have HXp:=Aside0.mk (blk_below HX1.out hHeld)
              have HCp:=Aside0.mk (HCk.out.below_ HBp.out)
              have HPV:=Aside0.mk (Kd.R_reads' hpv).2.2
              have HRS:=Aside0.mk (piv_rise (g:=g) (w:=l) (r:=r) (d:=dd) (i:=i) (j:=j))
              have HMM : Aside0 (∀ x ∈ pivF g l r dd i j,∃ k : Nat,x = k ∧ i ≤ k ∧ k ≤ j ∧ partV g l r ((dd - 1 : Nat) : Int) i k = true ∧ symV g l ((rightR g r).getD (dd - 1) 0) k j = true):=⟨fun x hx => piv_mem hx⟩
              have hpl : (pivF g l r dd i j).length ≤ 200:=piv_len (by omega)
              have hz0 : dd = 0 → (pivF g l r dd i j) = []:=fun h => by rw [h];exact piv_zero
              have hz1 : dd = 0 → partV g l r dd i j = decide (i = j):=fun h => by rw [h];exact part_zero HRL.out (by omega)
              have hz2 : 1 ≤ dd → partV g l r dd i j = decide (0 < (pivF g l r dd i j).length):=fun h => piv_pos HRL.out h (by rw [HRR.out];exact hdl)
              obtain ⟨L,hL⟩ : ∃ L,L = pivF g l r dd i j:=⟨_,rfl⟩
              rw [← hL] at HPV HRS HMM hpl hz0 hz2 ⊢
              obtain ⟨pv,hpv2⟩ : ∃ pv,partV g l r dd i j = pv:=⟨_,rfl⟩
              rw [hpv2] at hz1 hz2
              have HPT:=Aside0.mk (partM_c k g l r dd i j wp_ HCp.out hbd hpv2)
              clear hL hpv2 hpv hHeld HX1 HB1 hb32_2 HB
              rcases Nat.eq_zero_or_pos dd with hd0 | hd0
              · obtain rfl : L = []:=hz0 hd0
                have hev : decide ((i : Int) = (j : Int)) = pv:=by rw [hz1 hd0,decide_eq_decide];omega
                have hev2 : decide (i = j) = pv:=(hz1 hd0).symm
                have hev3 : ((i : Int) == (j : Int)) = pv:=by rw [← hev];rfl
                have hne : (pv != pv) = false:=by cases pv <;> rfl
                subst hd0
                have k0:=(blk_cell HXp.out 0).trans rfl
                have k1:=(blk_cell HXp.out 1).trans rfl
                have k2_:=(blk_cell HXp.out 2).trans rfl
                have k3:=(blk_cell HXp.out 3).trans rfl
                clear hz0 hz1 hz2 hpl d2
                go_wp2_with (go_at_call 22;go_loud (refine HPT.out.mono ?_;rintro e w5 ⟨rfl,hb5⟩;have HB5:=Aside0.mk (below_then HBp.out HBp.out.size hb5);clear hb5))
                clear k0 k1 k2_ k3 hne hev hev2 hev3
                go_loopw [23] (fun xv wr => ∃ x : Nat,x = 0 ∧ xv = .int .i64 x ∧ Aside0 (Below w9.heap.size w9 wr)) (fun xv _ => 5 - (intOf xv).toNat)
                case atStart => exact ⟨0,rfl,rfl,HB5⟩
                case round =>
                  as_aux_lemma =>
                    obtain ⟨x,rfl,rfl,HB⟩:=hrel
                    rename World => wx
                    go_wp2
                    go_roundw
                    case rel => exact ⟨0 + 1,by omega,by go_num,HB⟩
                    case measure => simp [intOf] <;> omega
              · obtain ⟨m,hm⟩ : ∃ m,m = L.length:=⟨_,rfl⟩
                have hev : decide (0 < (m : Int)) = pv:=by rw [hz2 hd0,decide_eq_decide,← hm];omega
                have hev2 : decide (0 < m) = pv:=by rw [hz2 hd0,← hm]
                have hne : (pv != pv) = false:=by cases pv <;> rfl
                have f1 : ¬ dd = 0:=by omega
                have f2 : ¬ (dd : Int) = 0:=by omega
                have f3 : 0 < (dd : Int):=by omega
                have k0:=(blk_cell HXp.out 0).trans rfl
                have k1:=(blk_cell HXp.out 1).trans rfl
                have k2_:=(blk_cell HXp.out 2).trans rfl
                have k3:=(blk_cell HXp.out 3).trans rfl
                rw [← hm] at hpl HPV ⊢
                have HM:=Lib.hid hm
                clear hz0 hz1 hz2 d2 hm
                go_wp2_with (go_at_call 22;go_loud (refine HPT.out.mono ?_;rintro e w5 ⟨rfl,hb5⟩;have HB5:=Aside0.mk hb5;clear hb5))
                clear k0 k1 k2_ k3 hne hev hev2 f1 f2 f3
                have HPq:=Aside0.mk (blk_below (blk_below HPk.out HBp.out) HB5.out)
                have HCq:=Aside0.mk (HCp.out.below_ HB5.out)
                have HYq:=Aside0.mk (pw_cell_below HB5.out (pw_cell_below HBp.out HY.out))
                have HCRq:=Aside0.mk (Kd.C_below (Kd.C_below HCR.out HBp.out) HB5.out)
                have HPVq:=Aside0.mk (Kd.C_below HPV.out HB5.out)
                have HBq:=Aside0.mk (below_then HBp.out HBp.out.size HB5.out)
                refine wp_mono (pivLoop g A1 A2 none c1 c2 c3 l k w5 x0 r dd i j m xr L Ap cp ad _ _ HGV q1 q3 q4 hln7 hij hjl hrl HRR hr8 hdl hd0 HPq HCq HYq HCRq HPVq HM hpl HRS HMM _ _ _ _ _ _ _ _ _ _ _ _ _ _ _ _ _ _ _ _ _ _ _ _ _ _ _ _ _ _ _ _ _ _ _ _ _ _ _ _ _ _ _ _ _ _ _ _ _ _ _ _ _ _ _ _ _ _ _ _ _ _ _ _ _ _ _ _ _ _ _ _ _ _ _ _ _ _ _ _ _ _ _ _ _ _ _ _ _ _ _ _ _ _ _ _ _ _ _ _ _ _ _ _ _ _ _ _ _ _ _ _ _ _ _ _ _ _ _ _ _ _ _ _ _ _ _ _ _ _ _ _ _ _ _ _ _ _ _ _ _ _ _ _ _ _ _ _ _ _ _ _ _ _ _ _ _ _ _ _ _ _ _ _ _ _ _ _ _ _ _ _ _ _ _ _ _ _ _ _ _ _ _ _ _ _ _ _ _ _ _ _ _ _ _ _ _ _ _ _ _ _ _ _ _ _ _ _ _ _ _ _ _ _ _ _ _ _ _ _ _ _ _ _ _ _ _ _ _ _ _ _ _ _ _ _ _ _ _ _ _ _ _ _ _ _ _ _ _ _ _ _ _ _ _ _ _ _ _ _ _ _ _ _ _ _ _ _ _ _ _ _ _ _ _ _ _ _ _ _ _ _ _ _ _ _ _ _ _ _ _ _ _ _ _ ?_) only_exit
                intro v6 v23 v230 v231 v232 v233 v234 v235 v236 v237 v238 v239 v240 v241 v242 v243 v244 v245 v246 v247 v248 v249 v250 v251 v252 v253 v254 v255 v256 v257 v258 v259 v260 v261 v262 v263 v264 v265 v266 v267 v268 v269 v270 v271 v272 v273 v274 v275 v276 v277 v278 v279 v280 v281 v282 v283 v284 v285 v286 v287 v288 v289 v290 v291 v292 v293 v294 v295 v296 v297 v298 v299 v300 w6 hb6
                go_wp2
                go_roundw
                case rel => exact ⟨dd + 1,by omega,by go_num,⟨below_then HBq.out HBq.out.size hb6⟩⟩
                case measure => simp [intOf];omega
            · have d2 : ¬ (dd : Int) ≤ (xr.right.length : Int):=by omega
              go_wp2
              go_roundw
              case rel => exact ⟨r + 1,by omega,by go_num,HB⟩
              case measure => simp [intOf];omega
        · have r2 : ¬ (r : Int) < (g.rules.length : Int):=by omega
          go_wp2_with (go_at_call 16;refine (wakes24_c _).mono ?_;rintro e w10 ⟨rfl,hb9⟩)
          go_ret
          exact ⟨rfl,below_then HBz.out HBz.out.size (below_then HB.out HB.out.size hb9)⟩
end Go.Proofs.Ytmkgcjhimajgiaa.Fast
