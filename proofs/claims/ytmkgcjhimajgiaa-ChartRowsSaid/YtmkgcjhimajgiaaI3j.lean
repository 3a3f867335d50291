/- The law ChartRows,walked: it answers true. -/
import Derived.Test.YtmkgcjhimajgiaaI2j
import Derived.Test.YtmkgcjhimajgiaaJI
import Derived.Test.YtmkgcjhimajgiaaP33j
import Derived.Test.YtmkgcjhimajgiaaJK
set_option linter.unusedVariables false
set_option linter.unusedSimpArgs false
namespace Go.Proofs.Ytmkgcjhimajgiaa
open Go.RowKit Go.Proofs.YtmkgcjhimajgiaaW.PrintWords Go.Proofs.YtmkgcjhimajgiaaW.PrintLast Go.Conc

set_option maxRecDepth 100000 in
set_option maxHeartbeats 16000000 in
theorem chartRows_c (g : Gram) (A1 A2 A3 : Option Addr) (c1 c2 c3 : Nat) (B : Option Addr) (d : Nat) (l : List Int) (w : World) (hg : RepG w g A1 A2 A3 c1 c2 c3) (hz : Sized g) (hl : kInt.C w B l.length l) (hb : ∀ y ∈ l,-9223372036854775808 ≤ y ∧ y ≤ 9223372036854775807) :
    Calls Try.prog 6 #[.agg #[.slice A1 g.terms.length c1,.slice A2 g.names.length c2,.slice A3 g.rules.length c3],.slice B l.length d] w fun e w' => e = .returned (.bool true) ∧ Below w.heap.size w w':=by
  obtain ⟨x0,hx0⟩ : ∃ x0,x0 = w.heap.size:=⟨_,rfl⟩
  obtain ⟨v0,hv0⟩ : ∃ v0 : World,v0 = w.alloc (.cells #[.slice A1 g.terms.length c1,.slice A2 g.names.length c2,.slice A3 g.rules.length c3] 25 (0,0)):=⟨_,rfl⟩
  have HB0 : Aside0 (Below w.heap.size w v0):=⟨by rw [hv0];exact (Below.refl w.heap.size w).alloc (Nat.le_refl _) _⟩
  have HP0 : Aside0 (v0.heap[x0]? = some (.cells #[.slice A1 g.terms.length c1,.slice A2 g.names.length c2,.slice A3 g.rules.length c3] 25 (0,0))):=⟨by rw [hv0,hx0];exact blk_new w _⟩
  have HG0:=Aside0.mk (hg.below_ HB0.out)
  have HL0:=Aside0.mk (Kd.C_below hl HB0.out)
  have HZ:=Aside0.mk hz
  have HBD:=Aside0.mk hb
  obtain ⟨gv,hgv⟩ : ∃ gv,goodF g = gv:=⟨_,rfl⟩
  have HGV:=Lib.hid hgv
  obtain ⟨l5,hl5⟩ : ∃ b,decide (5 < l.length) = b:=⟨_,rfl⟩
  have i5 : decide (5 < (l.length : Int)) = l5:=dec_ilt hl5
  have HL5:=Lib.hid hl5
  clear hg hz hl hb hgv
  go_enter Try.func6,Try.ntmps6
  go_upto_region 1 with (fail)
  simp only [← hv0]
  simp only [← hx0]
  have HX0:=Lib.hid hx0
  clear hv0 hx0
  refine pl_start ?_
  refine pl_held (B:=v0.heap.size) (v:=v0) (Below.refl _ _) (fun hHeld => ?_)
  refine pp_ ?_ ?_ ?_ (y:=by have d0:=(blk_cell (blk_below HP0.out hHeld) 0).trans rfl;have d1:=(blk_cell (blk_below HP0.out hHeld) 1).trans rfl;have d2:=(blk_cell (blk_below HP0.out hHeld) 2).trans rfl;go_simp;rfl)
  refine pp_ ?_ ?_ ?_
  refine goesCL_ (N:=(some 21)) Try.func15 (by kernel_rfl) rfl (by rfl) rfl rfl (small24_c g A1 A2 A3 c1 c2 c3 B d l _ (HG0.out.below_ hHeld) HZ.out) (by simp [Act.eval]) ?_
  rintro e x1_2 ⟨⟨sv,rfl,hsm⟩,hb1_2⟩
  refine ⟨_,rfl,?_⟩
  simp only [Act.put,List.setIfInBounds_toArray,List.set_cons_zero,List.set_cons_succ]
  refine pl_held (B:=v0.heap.size) (v:=v0) (below_then hHeld hHeld.size hb1_2) (fun hHeld => ?_)
  cases sv
  · clear hsm
    refine pl_held (B:=v0.heap.size) (v:=v0) (hHeld) (fun hHeld => ?_)
    refine pp_ ?_ ?_ ?_
    refine pp_ ?_ ?_ ?_
    refine pf_ ?_ ?_
    refine pf_ ?_ ?_
    refine pf_ ?_ ?_
    refine pp_ ?_ ?_ ?_
    refine pp_ ?_ ?_ ?_
    refine pf_ ?_ ?_
    refine pf_ ?_ ?_
    refine pf_ ?_ ?_
    refine pp_ ?_ ?_ ?_
    refine pl_nil ?_
    go_wp2_with (go_at_call 16;refine (wakes24_c _).mono ?_;rintro e w9 ⟨rfl,hb9⟩)
    go_ret
    exact ⟨rfl,below_then (below_then HB0.out HB0.out.size hHeld) (below_then HB0.out HB0.out.size hHeld).size hb9⟩
  have HSM:=Aside0.mk (hsm rfl)
  clear hsm
  cases gv
  · refine pl_held (B:=v0.heap.size) (v:=v0) (hHeld) (fun hHeld => ?_)
    refine pp_ ?_ ?_ ?_
    refine pp_ ?_ ?_ ?_
    refine pp_ ?_ ?_ ?_ (y:=by have d0:=(blk_cell (blk_below HP0.out hHeld) 0).trans rfl;have d1:=(blk_cell (blk_below HP0.out hHeld) 1).trans rfl;have d2:=(blk_cell (blk_below HP0.out hHeld) 2).trans rfl;go_simp;rfl)
    refine goesCL_ (N:=(some 25)) Try.func28 (by kernel_rfl) rfl (by rfl) rfl rfl (good1_v g A1 A2 A3 c1 c2 c3 _ (HG0.out.below_ hHeld) HZ.out HGV.out) (by simp [Act.eval]) ?_
    rintro e x1_6 ⟨rfl,hb1_6⟩
    refine ⟨_,rfl,?_⟩
    simp only [Act.put,List.setIfInBounds_toArray,List.set_cons_zero,List.set_cons_succ]
    refine pl_held (B:=v0.heap.size) (v:=v0) (below_then hHeld hHeld.size hb1_6) (fun hHeld => ?_)
    refine pp_ ?_ ?_ ?_
    refine pp_ ?_ ?_ ?_
    refine pp_ ?_ ?_ ?_
    refine pf_ ?_ ?_
    refine pf_ ?_ ?_
    refine pf_ ?_ ?_
    refine pp_ ?_ ?_ ?_
    refine pl_nil ?_
    go_wp2_with (go_at_call 16;refine (wakes24_c _).mono ?_;rintro e w9 ⟨rfl,hb9⟩)
    go_ret
    exact ⟨rfl,below_then (below_then HB0.out HB0.out.size hHeld) (below_then HB0.out HB0.out.size hHeld).size hb9⟩
  refine pl_held (B:=v0.heap.size) (v:=v0) (hHeld) (fun hHeld => ?_)
  refine pp_ ?_ ?_ ?_
  refine pp_ ?_ ?_ ?_
  refine pp_ ?_ ?_ ?_ (y:=by have d0:=(blk_cell (blk_below HP0.out hHeld) 0).trans rfl;have d1:=(blk_cell (blk_below HP0.out hHeld) 1).trans rfl;have d2:=(blk_cell (blk_below HP0.out hHeld) 2).trans rfl;go_simp;rfl)
  refine goesCL_ (N:=(some 25)) Try.func28 (by kernel_rfl) rfl (by rfl) rfl rfl (good1_v g A1 A2 A3 c1 c2 c3 _ (HG0.out.below_ hHeld) HZ.out HGV.out) (by simp [Act.eval]) ?_
  rintro e x1_6 ⟨rfl,hb1_6⟩
  refine ⟨_,rfl,?_⟩
  simp only [Act.put,List.setIfInBounds_toArray,List.set_cons_zero,List.set_cons_succ]
  refine pl_held (B:=v0.heap.size) (v:=v0) (below_then hHeld hHeld.size hb1_6) (fun hHeld => ?_)
  refine pp_ ?_ ?_ ?_
  refine pp_ ?_ ?_ ?_
  refine pp_ ?_ ?_ ?_
  refine pp_ ?_ ?_ ?_
  refine pp_ ?_ ?_ ?_
  refine pp_ ?_ ?_ ?_
  refine pp_ ?_ ?_ ?_
  refine pl_nil ?_
  cases l5
  case true =>
    go_wp2_with (go_at_call 16;refine (wakes24_c _).mono ?_;rintro e w9 ⟨rfl,hb9⟩)
    go_ret
    exact ⟨rfl,below_then (below_then HB0.out HB0.out.size hHeld) (below_then HB0.out HB0.out.size hHeld).size hb9⟩
  have hln5 : l.length ≤ 5:=by have:=of_decide_eq_false HL5.out;omega
  obtain ⟨q1,q2,q3,q4⟩:=goodF_small HGV.out
  go_upto_region 3 with (fail)
  refine pl_start ?_
  refine pl_held (B:=v0.heap.size) (v:=v0) (hHeld) (fun hHeld => ?_)
  refine pp_ ?_ ?_ ?_ (y:=by have d0:=(blk_cell (blk_below HP0.out hHeld) 0).trans rfl;have d1:=(blk_cell (blk_below HP0.out hHeld) 1).trans rfl;have d2:=(blk_cell (blk_below HP0.out hHeld) 2).trans rfl;go_simp;rfl)
  refine pp_ ?_ ?_ ?_
  refine goesCL_ (N:=(some 37)) Try.func17 (by kernel_rfl) rfl (by rfl) rfl rfl (ofC_yes g A1 A2 A3 c1 c2 c3 B d l _ (HG0.out.below_ hHeld) (Kd.C_below HL0.out hHeld) HGV.out (by omega) HBD.out) (by simp [Act.eval]) ?_
  rintro e x3_2 ⟨⟨k,rfl,hcf,hlo⟩,hb3_2⟩
  refine ⟨_,rfl,?_⟩
  simp only [Act.put,List.setIfInBounds_toArray,List.set_cons_zero,List.set_cons_succ]
  refine pl_held (B:=v0.heap.size) (v:=v0) (below_then hHeld hHeld.size hb3_2) (fun hHeld => ?_)
  refine pp_ ?_ ?_ ?_
  refine pp_ ?_ ?_ ?_
  refine pp_ ?_ ?_ ?_
  refine pp_ ?_ ?_ ?_
  refine pp_ ?_ ?_ ?_
  refine pl_nil ?_
  go_upto_region 6 with (fail)
  have HC3:=Aside0.mk hcf
  clear hcf
  refine pl_start ?_
  refine pl_held (B:=v0.heap.size) (v:=v0) (hHeld) (fun hHeld => ?_)
  refine pp_ ?_ ?_ ?_
  refine goesCL_ (N:=(some 47)) Try.func20 (by kernel_rfl) rfl (by rfl) rfl rfl (spansM_c k g l _ HC3.out) (by simp [Act.eval]) ?_
  rintro e x6_1 ⟨⟨As,cs,rfl,hsp⟩,hb6_1⟩
  refine ⟨_,rfl,?_⟩
  simp only [Act.put,List.setIfInBounds_toArray,List.set_cons_zero,List.set_cons_succ]
  refine pl_held (B:=v0.heap.size) (v:=v0) (below_then hHeld hHeld.size hb6_1) (fun hHeld => ?_)
  refine pp_ ?_ ?_ ?_
  refine pl_nil ?_
  have HC:=Aside0.mk (HC3.out.below_ hb6_1)
  have HSL:=Aside0.mk (Kd.R_reads' hsp).2.2
  have HP:=Aside0.mk (blk_below HP0.out hHeld)
  have HG:=Aside0.mk (HG0.out.below_ hHeld)
  have HBv:=Aside0.mk (below_then HB0.out HB0.out.size hHeld)
  obtain ⟨v,hv⟩ : ∃ v,v = x6_1:=⟨_,rfl⟩
  rw [← hv] at HC HSL HP HG HBv ⊢
  clear hv hsp hlo hHeld hb1_2 hb1_6 hb3_2 hb6_1
  clear HC3
  have a1 : v.cell? ⟨x0,0,none⟩ = some (.slice A1 g.terms.length c1):=(blk_cell HP.out 0).trans rfl
  obtain ⟨ns,hns⟩ : ∃ ns,ns = g.terms.length + g.names.length:=⟨_,rfl⟩
  have e1 : IntKind.i64.wrap ((g.terms.length : Int) + (g.names.length : Int)) = (ns : Int):=by rw [IntWalk.i64_in _ (by omega)];omega
  have HLM : Aside0 ((spansF g l).length ≤ 200000):=⟨by
    have h1:=spansL_len g l g.names.length
    have h4 : (l.length + 1) * (l.length + 1) ≤ 6 * 6:=Nat.mul_le_mul (by omega) (by omega)
    have h5 : g.names.length * ((l.length + 1) * (l.length + 1)) ≤ 40 * (6 * 6):=Nat.mul_le_mul q3 h4
    unfold spansF
    omega⟩
  have HNS:=Lib.hid hns
  clear hns
  go_wp2
  clear a1
  go_loopw [9,8] (fun sv av wr => ∃ m : Nat,m ≤ g.names.length ∧ sv = .int .i64 ((g.terms.length + m : Nat) : Int) ∧ av = .int .i64 ((toldN g l m 0 0).length : Nat) ∧ Aside0 (Below v.heap.size v wr)) (fun sv _ _ => g.terms.length + g.names.length - (intOf sv).toNat)
  case atStart => exact ⟨0,Nat.zero_le _,rfl,by rw [told_start];rfl,⟨Below.refl _ _⟩⟩
  case round =>
    obtain ⟨m,hm,rfl,rfl,HB⟩:=hrel
    rename World => wm
    have a1 : wm.cell? ⟨x0,0,none⟩ = some (.slice A1 g.terms.length c1):=(blk_cell (blk_below HP.out HB.out) 0).trans rfl
    have a2 : wm.cell? ⟨x0,1,none⟩ = some (.slice A2 g.names.length c2):=(blk_cell (blk_below HP.out HB.out) 1).trans rfl
    by_cases hml : m < g.names.length
    · have m2 : ((g.terms.length + m : Nat) : Int) < (ns : Int):=by have:=HNS.out;omega
      obtain ⟨s,hs⟩ : ∃ s,s = g.terms.length + m:=⟨_,rfl⟩
      rw [← hs] at m2 ⊢
      have hs80 : s ≤ 80:=by omega
      have HS:=Lib.hid hs
      have HML:=Aside0.mk hml
      clear hs
      go_wp2
      clear m2 a1 a2
      go_loopw [10,8] (fun iv av wr => ∃ i : Nat,i ≤ l.length + 1 ∧ iv = .int .i64 i ∧ av = .int .i64 ((toldN g l m i 0).length : Nat) ∧ Aside0 (Below v.heap.size v wr)) (fun iv _ _ => l.length + 1 - (intOf iv).toNat)
      case atStart => exact ⟨0,Nat.zero_le _,rfl,rfl,HB⟩
      case round =>
        clear HB
        obtain ⟨i,hi,rfl,rfl,HB⟩:=hrel
        rename World => wi
        by_cases hil : i ≤ l.length
        · have i2 : (i : Int) ≤ (l.length : Int):=by omega
          go_wp2
          clear i2
          go_loopw [11,8] (fun jv av wr => ∃ t : Nat,t ≤ l.length + 1 - i ∧ jv = .int .i64 ((i + t : Nat) : Int) ∧ av = .int .i64 ((toldN g l m i t).length : Nat) ∧ Aside0 (Below v.heap.size v wr)) (fun jv _ _ => l.length + 1 - (intOf jv).toNat)
          case atStart => exact ⟨0,Nat.zero_le _,rfl,rfl,HB⟩
          case round =>
            clear HB
            obtain ⟨t,ht,rfl,rfl,HB⟩:=hrel
            rename World => wt
            by_cases htl : i + t ≤ l.length
            · have t2 : ((i + t : Nat) : Int) ≤ (l.length : Int):=by omega
              have HSU:=Lib.hid (told_succ g l m i t)
              have HPR:=Aside0.mk (told_pre (g:=g) (w:=l) HML.out hil (show t + 1 ≤ l.length + 1 - i by omega))
              rw [← HS.out] at HSU
              obtain ⟨L,hL⟩ : ∃ L,L = toldN g l m i t:=⟨_,rfl⟩
              rw [← hL] at HSU ⊢
              obtain ⟨jt,hjt⟩ : ∃ jt,jt = i + t:=⟨_,rfl⟩
              rw [← hjt] at t2 htl HSU ⊢
              have HJT:=Lib.hid hjt
              obtain ⟨sv,hsv⟩ : ∃ sv,symV g l s i (jt : Int) = sv:=⟨_,rfl⟩
              rw [hsv] at HSU
              obtain ⟨w1,hw1⟩ : ∃ w1,w1 = wt.alloc (.cells #[.int .i64 (s : Int),.int .i64 (i : Int),.int .i64 (jt : Int)] 28 (0,0)):=⟨_,rfl⟩
              have HB1:=Aside0.mk (show Below v.heap.size v w1 from by rw [hw1];exact HB.out.alloc HB.out.size _)
              have HX1:=Aside0.mk (show w1.heap[wt.heap.size]? = some (.cells #[.int .i64 (s : Int),.int .i64 (i : Int),.int .i64 (jt : Int)] 28 (0,0)) from by rw [hw1];exact blk_new wt _)
              have HSY:=Aside0.mk (symM_c k g l s i jt w1 (HC.out.below_ HB1.out) (by omega) hsv)
              clear hsv hjt hL
              cases sv
              · go_wp2_with (go_at_call 26;go_loud (rw [← hw1];refine HSY.out.mono ?_;rintro e w5 ⟨rfl,hb5⟩;have HB5:=Aside0.mk (below_then HB1.out HB1.out.size hb5);clear hb5))
                go_roundw
                case rel => exact ⟨t + 1,by have:=HJT.out;omega,by rw [HJT.out];go_num,by rw [HSU.out];simp,HB5⟩
                case measure => simp [intOf];omega
              · have hnx : toldN g l m i (t + 1) = L ++ [⟨s,i,jt⟩]:=by rw [HSU.out];rfl
                obtain ⟨hlt,hat⟩:=pre_at (by rw [← hnx];exact HPR.out)
                obtain ⟨ad,ead,z0,z1,z2⟩:=at_sp HSL.out L.length hlt
                rw [hat] at z0 z1 z2
                cases ead
                have HZ0:=Aside0.mk z0
                have HZ1:=Aside0.mk z1
                have HZ2:=Aside0.mk z2
                have HNX:=Lib.hid hnx
                have g1 : decide ((spansF g l).length ≤ L.length) = false:=decide_eq_false (by omega)
                have g2 : decide (((spansF g l).length : Int) ≤ (L.length : Int)) = false:=decide_eq_false (by omega)
                have l2 : (L.length : Int) < ((spansF g l).length : Int):=by omega
                have hlm:=HLM.out
                clear hat hnx z0 z1 z2
                go_wp2_with (go_at_call 26;go_loud (rw [← hw1];refine HSY.out.mono ?_;rintro e w5 ⟨rfl,hb5⟩;have HB5:=Aside0.mk (below_then HB1.out HB1.out.size hb5);have HX5:=Aside0.mk (blk_below HX1.out hb5);clear hb5))
                have HZ5:=Aside0.mk (pw_cell_below HB5.out HZ0.out)
                have HZ6:=Aside0.mk (pw_cell_below HB5.out HZ1.out)
                have HZ7:=Aside0.mk (pw_cell_below HB5.out HZ2.out)
                refine start_ (n:=12) (S:=fun w' => Below w5.heap.size w5 w') (ds:=[]) (lb 12 0x0) (by kernel_rfl) rfl (by kernel_rfl) (below_drew1 (Below.refl _ _)) (fun hHeld => ?_)
                refine pu_ ?_ ?_ 0 (some 82) (lb 12 0x1) ?_
                refine pu_ ?_ ?_ 1 (some 83) (lb 12 0x3) ?_
                refine pu_ ?_ ?_ 2 (some 84) (lb 12 0x7) ?_
                refine pu_ ?_ ?_ 3 (some 85) (lb 12 0xf) ?_
                refine pu_ ?_ ?_ 4 (some 86) (lb 12 0x1f) ?_
                refine pu_ ?_ ?_ 5 (some 87) (lb 12 0x3f) ?_
                refine pu_ ?_ ?_ 6 (some 88) (lb 12 0x7f) ?_
                refine pu_ ?_ ?_ 7 (some 89) (lb 12 0xff) ?_
                refine ta_ ?_ ?_ 8 (some 90) (lb 12 0x1ff) hHeld ?_ (y:=by rintro w' hS;have d0:=(blk_cell (blk_below HX5.out hS) 0).trans rfl;have d1:=(blk_cell (blk_below HX5.out hS) 1).trans rfl;have d2:=(blk_cell (blk_below HX5.out hS) 2).trans rfl;have d3:=cell_at hS HZ5.out;have d4:=cell_at hS HZ6.out;have d5:=cell_at hS HZ7.out;go_simp;with_reducible rfl)
                refine ta_ ?_ ?_ 9 (some 91) (lb 12 0x3ff) hHeld ?_ (y:=by rintro w' hS;have d0:=(blk_cell (blk_below HX5.out hS) 0).trans rfl;have d1:=(blk_cell (blk_below HX5.out hS) 1).trans rfl;have d2:=(blk_cell (blk_below HX5.out hS) 2).trans rfl;have d3:=cell_at hS HZ5.out;have d4:=cell_at hS HZ6.out;have d5:=cell_at hS HZ7.out;go_simp;with_reducible rfl)
                refine pu_ ?_ ?_ 10 (some 92) (lb 12 0x7ff) ?_
                refine pu_ ?_ ?_ 11 (some 93) (lb 12 0xfff) ?_
                refine done_ (by kernel_rfl) ?_
                rename World => w6
                have HB6:=Aside0.mk (below_then HB5.out HB5.out.size hHeld)
                clear hHeld
                go_wp2
                go_roundw
                case rel => exact ⟨t + 1,by have:=HJT.out;omega,by rw [HJT.out];go_num,by rw [HNX.out,List.length_append];go_num,HB6⟩
                case measure => simp [intOf];omega
            · have hte : t = l.length + 1 - i:=by omega
              have t2 : ¬ ((i + t : Nat) : Int) ≤ (l.length : Int):=by omega
              have hnx:=told_i g l m i
              rw [← hte] at hnx
              rw [hnx]
              clear hte hnx
              go_wp2
              go_roundw
              case rel => exact ⟨i + 1,by omega,by go_num,rfl,HB⟩
              case measure => simp [intOf];omega
        · have hie : i = l.length + 1:=by omega
          have i2 : ¬ (i : Int) ≤ (l.length : Int):=by omega
          rw [hie,told_k]
          rw [hie] at i2
          clear hie
          go_wp2
          go_roundw
          case rel => exact ⟨m + 1,by omega,by rw [HS.out];go_num,rfl,HB⟩
          case measure => have:=HS.out;simp [intOf];omega
    · have hme : m = g.names.length:=by omega
      have m2 : ¬ ((g.terms.length + m : Nat) : Int) < (ns : Int):=by have:=HNS.out;omega
      rw [hme,told_end]
      rw [hme] at m2
      clear hme
      have hlm:=HLM.out
      have a3 : wm.cell? ⟨x0,2,none⟩ = some (.slice A3 g.rules.length c3):=(blk_cell (blk_below HP.out HB.out) 2).trans rfl
      go_wp2
      clear m2 a1 a2 a3 e1
      go_loopw [13] (fun rv wr => ∃ r : Nat,r ≤ g.rules.length ∧ rv = .int .i64 r ∧ Aside0 (Below v.heap.size v wr)) (fun rv _ => g.rules.length - (intOf rv).toNat)
      case atStart => exact ⟨0,Nat.zero_le _,rfl,HB⟩
      case round =>
        clear HB
        obtain ⟨r,hr,rfl,HB⟩:=hrel
        rename World => wr_
        have a3 : wr_.cell? ⟨x0,2,none⟩ = some (.slice A3 g.rules.length c3):=(blk_cell (blk_below HP.out HB.out) 2).trans rfl
        by_cases hrl : r < g.rules.length
        · have r2 : (r : Int) < (g.rules.length : Int):=by omega
          obtain ⟨ad,B1,d1,ead,hx,hy,hd1,hC1⟩:=at_rule HG.out.rules r hrl
          cases ead
          have HY:=Aside0.mk hy
          have HC1:=Aside0.mk hC1
          have HRR:=Aside0.mk (rightR_at hrl)
          have hr8:=(goodF_mem HGV.out (g.rules[r]'hrl) (List.getElem_mem _)).2.2.1
          obtain ⟨xr,hxr⟩ : ∃ xr,xr = g.rules[r]'hrl:=⟨_,rfl⟩
          rw [← hxr] at HY HC1 HRR hr8
          have HRL:=Aside0.mk hrl
          clear hx hy hC1 hxr hd1
          go_wp2
          clear a3
          go_loopw [14] (fun dv wr => ∃ dd : Nat,1 ≤ dd ∧ dd ≤ xr.right.length + 1 ∧ dv = .int .i64 dd ∧ Aside0 (Below v.heap.size v wr)) (fun dv _ => xr.right.length + 1 - (intOf dv).toNat)
          case atStart => exact ⟨1,Nat.le_refl _,by omega,rfl,HB⟩
          case round =>
            clear HB
            obtain ⟨dd,hd1,hd2,rfl,HB⟩:=hrel
            rename World => wd_
            have a3 : wd_.cell? ⟨x0,2,none⟩ = some (.slice (some ad) g.rules.length c3):=(blk_cell (blk_below HP.out HB.out) 2).trans rfl
            have ay:=pw_cell_below HB.out HY.out
            by_cases hdl : dd ≤ xr.right.length
            · have d2 : (dd : Int) ≤ (xr.right.length : Int):=by omega
              go_wp2
              clear a3 ay
              go_loopw [15] (fun iv wr => ∃ i : Nat,i ≤ l.length + 1 ∧ iv = .int .i64 i ∧ Aside0 (Below v.heap.size v wr)) (fun iv _ => l.length + 1 - (intOf iv).toNat)
              case atStart => exact ⟨0,Nat.zero_le _,rfl,HB⟩
              case round =>
                clear HB
                obtain ⟨i,hi,rfl,HB⟩:=hrel
                rename World => wi
                by_cases hil : i ≤ l.length
                · have i2 : (i : Int) ≤ (l.length : Int):=by omega
                  go_wp2
                  go_loopw [16] (fun jv wr => ∃ t : Nat,t ≤ l.length + 1 - i ∧ jv = .int .i64 ((i + t : Nat) : Int) ∧ Aside0 (Below v.heap.size v wr)) (fun jv _ => l.length + 1 - (intOf jv).toNat)
                  case atStart => exact ⟨0,Nat.zero_le _,rfl,HB⟩
                  case round =>
                    clear HB
                    obtain ⟨t,ht,rfl,HB⟩:=hrel
                    rename World => wt
                    by_cases htl : i + t ≤ l.length
                    · have t2 : ((i + t : Nat) : Int) ≤ (l.length : Int):=by omega
                      obtain ⟨j,hj⟩ : ∃ j,j = i + t:=⟨_,rfl⟩
                      rw [← hj] at t2 htl ⊢
                      have hij : i ≤ j:=by omega
                      have HJ:=Lib.hid hj
                      have HAP:=Lib.hid (anyK_part (w:=l) (i:=i) (j:=j) HRL.out hd1 (by rw [HRR.out];exact hdl) hij)
                      clear hj
                      go_wp2
                      go_loopw [18,17] (fun kv sv wr => ∃ q : Nat,q ≤ j + 1 - i ∧ kv = .int .i64 ((i + q : Nat) : Int) ∧ sv = .bool (anyK g l r dd i j q) ∧ Aside0 (Below v.heap.size v wr)) (fun kv _ _ => j + 1 - (intOf kv).toNat)
                      case atStart => exact ⟨0,Nat.zero_le _,rfl,rfl,HB⟩
                      case round =>
                        clear HB
                        obtain ⟨q,hq,rfl,rfl,HB⟩:=hrel
                        rename World => wq
                        by_cases hql : i + q ≤ j
                        · have q2 : ((i + q : Nat) : Int) ≤ (j : Int):=by omega
                          have HAS:=Lib.hid (anyK_succ g l r dd i j q)
                          obtain ⟨av,hav⟩ : ∃ av,anyK g l r dd i j q = av:=⟨_,rfl⟩
                          rw [hav] at HAS ⊢
                          obtain ⟨kk,hkk⟩ : ∃ kk,kk = i + q:=⟨_,rfl⟩
                          rw [← hkk] at q2 hql HAS ⊢
                          have HKK:=Lib.hid hkk
                          clear hkk hav
                          have hbd : (-9223372036854775808 ≤ (r : Int) ∧ (r : Int) ≤ 9223372036854775807) ∧ (-9223372036854775808 ≤ ((dd - 1 : Nat) : Int) ∧ ((dd - 1 : Nat) : Int) ≤ 9223372036854775807):=by omega
                          have ed : IntKind.i64.wrap ((dd : Int) - 1) = ((dd - 1 : Nat) : Int):=by rw [IntWalk.i64_in _ (by omega)];omega
                          cases av
                          · have hspl : splitB g l r dd i j kk = (partV g l r ((dd - 1 : Nat) : Int) i kk && symV g l ((rightR g r).getD (dd - 1) 0) kk j):=rfl
                            have hy1 : dd - 1 < xr.right.length:=by omega
                            have hyr : (rightR g r).getD (dd - 1) 0 = xr.right[dd - 1]'hy1:=by rw [HRR.out,List.getD_eq_getElem?_getD,List.getElem?_eq_getElem hy1];rfl
                            have hyin:=(goodF_mem HGV.out (g.rules[r]'hrl) (List.getElem_mem _)).2.2.2 ((rightR g r).getD (dd - 1) 0) (by rw [hyr];simp only [← rightR_at hrl,HRR.out];exact List.getElem_mem _)
                            obtain ⟨y,hy⟩ : ∃ y,y = (rightR g r).getD (dd - 1) 0:=⟨_,rfl⟩
                            rw [← hy] at hspl hyr hyin
                            have hyb : -9223372036854775808 ≤ y ∧ y ≤ 9223372036854775807:=by unfold nsym at hyin;omega
                            obtain ⟨p1,hp1⟩ : ∃ p1,partV g l r ((dd - 1 : Nat) : Int) i kk = p1:=⟨_,rfl⟩
                            obtain ⟨s1,hs1⟩ : ∃ s1,symV g l y kk j = s1:=⟨_,rfl⟩
                            rw [hp1,hs1] at hspl
                            rw [hspl,Bool.false_or] at HAS
                            have HPM:=Aside0.mk (partM_c k g l r ((dd - 1 : Nat) : Int) i kk wq (HC.out.below_ HB.out) hbd hp1)
                            have HS1:=Lib.hid hs1
                            have HYR:=Lib.hid hyr
                            have k2 : ((dd - 1 : Nat) : Int) < (xr.right.length : Int):=by omega
                            clear hp1 hs1 hspl hy hyin hyr
                            cases p1
                            · go_wp2_with (go_at_call 22;go_loud (refine HPM.out.mono ?_;rintro e w5 ⟨rfl,hb5⟩;have HB5:=Aside0.mk (below_then HB.out HB.out.size hb5);clear hb5))
                              go_roundw
                              case rel => exact ⟨q + 1,by have:=HKK.out;omega,by rw [HKK.out];go_num,by rw [HAS.out];rfl,HB5⟩
                              case measure => simp [intOf];omega
                            · go_wp2_with (first | (have hx:=HB5.out;go_at_call 26;go_loud (refine (symM_c k g l y kk j _ (HC.out.below_ HB5.out) hyb HS1.out).mono ?_;rintro e w6 ⟨rfl,hb6⟩;have HB6:=Aside0.mk (below_then HB5.out HB5.out.size hb6);clear hb6)) | (go_at_call 22;go_loud (refine HPM.out.mono ?_;rintro e w5 ⟨rfl,hb5⟩;have HB5:=Aside0.mk (below_then HB.out HB.out.size hb5);have b3 : w5.cell? ⟨x0,2,none⟩ = some (.slice (some ad) g.rules.length c3):=(blk_cell (blk_below HP.out HB5.out) 2).trans rfl;have by_:=pw_cell_below HB5.out HY.out;obtain ⟨adr,eadr,hrc⟩:=at_int (Kd.C_below HC1.out HB5.out) (dd - 1) hy1;rw [← HYR.out] at hrc;cases eadr;clear hb5;skip)))
                              go_roundw
                              case rel => exact ⟨q + 1,by have:=HKK.out;omega,by rw [HKK.out];go_num,by rw [HAS.out];rfl,HB6⟩
                              case measure => simp [intOf];omega
                          · go_wp2
                            go_roundw
                            case rel => exact ⟨q + 1,by have:=HKK.out;omega,by rw [HKK.out];go_num,by rw [HAS.out];rfl,HB⟩
                            case measure => simp [intOf];omega
                        · have hqe : q = j + 1 - i:=by omega
                          have q2 : ¬ ((i + q : Nat) : Int) ≤ (j : Int):=by omega
                          rw [hqe,HAP.out]
                          rw [hqe] at q2
                          clear hqe
                          obtain ⟨pv,hpv⟩ : ∃ pv,partV g l r dd i j = pv:=⟨_,rfl⟩
                          rw [hpv]
                          have HPV:=Lib.hid hpv
                          have hbd : (-9223372036854775808 ≤ (r : Int) ∧ (r : Int) ≤ 9223372036854775807) ∧ (-9223372036854775808 ≤ (dd : Int) ∧ (dd : Int) ≤ 9223372036854775807):=by omega
                          have hne : (pv != pv) = false:=by cases pv <;> rfl
                          clear hpv
                          go_wp2_with (go_at_call 22;go_loud (refine (partM_c k g l r dd i j _ (HC.out.below_ HB.out) hbd HPV.out).mono ?_;rintro e w5 ⟨rfl,hb5⟩;have HB5:=Aside0.mk (below_then HB.out HB.out.size hb5);clear hb5))
                          go_roundw
                          case rel => exact ⟨t + 1,by have:=HJ.out;omega,by rw [HJ.out];go_num,HB5⟩
                          case measure => simp [intOf];omega
                    · have t2 : ¬ ((i + t : Nat) : Int) ≤ (l.length : Int):=by omega
                      go_wp2
                      go_roundw
                      case rel => exact ⟨i + 1,by omega,by go_num,HB⟩
                      case measure => simp [intOf];omega
                · have i2 : ¬ (i : Int) ≤ (l.length : Int):=by omega
                  go_wp2
                  go_roundw
                  case rel => exact ⟨dd + 1,by omega,by omega,by go_num,HB⟩
                  case measure => simp [intOf];omega
            · have d2 : ¬ (dd : Int) ≤ (xr.right.length : Int):=by omega
              go_wp2
              go_roundw
              case rel => exact ⟨r + 1,by omega,by go_num,HB⟩
              case measure => simp [intOf];omega
        · have r2 : ¬ (r : Int) < (g.rules.length : Int):=by omega
          go_wp2_with (go_at_call 16;refine (wakes24_c _).mono ?_;rintro e w9 ⟨rfl,hb9⟩)
          go_ret
          exact ⟨rfl,below_then HBv.out HBv.out.size (below_then HB.out HB.out.size hb9)⟩
end Go.Proofs.Ytmkgcjhimajgiaa
