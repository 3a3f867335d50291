/- Contracts of functions of the program, and plain laws (texts T3, Y1), joined: each theorem says what it proves. -/
import Derived.Test.YtmkgcjhimajgiaaFC
import Derived.Test.YtmkgcjhimajgiaaFB
import Derived.Test.YtmkgcjhimajgiaaFA
set_option linter.unusedVariables false
set_option linter.unusedSimpArgs false
namespace Go.Proofs.Ytmkgcjhimajgiaa
open Go.RowKit Go.Proofs.YtmkgcjhimajgiaaW.PrintWords Go.Proofs.YtmkgcjhimajgiaaW.PrintLast

def Sized (g : Gram) : Prop:=(∀ s ∈ g.names,s.size ≤ maxLen) ∧ ∀ s ∈ g.terms,s.size ≤ maxLen
set_option maxRecDepth 100000 in
set_option maxHeartbeats 16000000 in
theorem good1_c (g : Gram) (A1 A2 A3 : Option Addr) (c1 c2 c3 : Nat) (w : World) (hg : RepG w g A1 A2 A3 c1 c2 c3) (hz : Sized g) :
    Calls Try.prog 28 #[.agg #[.slice A1 g.terms.length c1,.slice A2 g.names.length c2,.slice A3 g.rules.length c3]] w fun e w' => e = .returned (.bool (goodF g)) ∧ Below w.heap.size w w':=by
  have hm1:=C_max hg.terms
  have hm2:=C_max hg.names
  have hm3:=C_max hg.rules
  obtain ⟨w1,hw1⟩ : ∃ w1 : World,w1 = w.alloc (.cells #[.slice A1 g.terms.length c1,.slice A2 g.names.length c2,.slice A3 g.rules.length c3] 25 (0,0)):=⟨_,rfl⟩
  have HB1 : Aside0 (Below w.heap.size w w1):=⟨by rw [hw1];exact (Below.refl w.heap.size w).alloc (Nat.le_refl _) _⟩
  have hp : w1.heap[w.heap.size]? = some (.cells #[.slice A1 g.terms.length c1,.slice A2 g.names.length c2,.slice A3 g.rules.length c3] 25 (0,0)):=by rw [hw1];exact blk_new w _
  have HG:=Aside0.mk (hg.below_ HB1.out)
  have p0:=Aside0.mk ((blk_cell hp 0).trans rfl : w1.cell? ⟨w.heap.size,0,none⟩ = some (.slice A1 g.terms.length c1))
  have p1:=Aside0.mk ((blk_cell hp 1).trans rfl : w1.cell? ⟨w.heap.size,1,none⟩ = some (.slice A2 g.names.length c2))
  have p2:=Aside0.mk ((blk_cell hp 2).trans rfl : w1.cell? ⟨w.heap.size,2,none⟩ = some (.slice A3 g.rules.length c3))
  have HZ:=Aside0.mk hz
  clear hg hp hz
  go_enter Try.func28,Try.ntmps28
  go_wp2
  simp only [← hw1]
  clear hw1
  refine start_ (n:=8) (S:=fun w' => Below w1.heap.size w1 w') (ds:=[]) (lb 8 0x0) (by kernel_rfl) rfl (by kernel_rfl) (below_drew1 (Below.refl _ _)) (fun hHeld => ?_)
  refine pu_ ?_ ?_ 0 (some 13) (lb 8 0x1) ?_
  refine pu_ ?_ ?_ 3 (some 16) (lb 8 0x9) ?_
  refine ta_ ?_ ?_ 1 (some 14) (lb 8 0xb) hHeld ?_ (y:=by rintro w' hS;have d0:=cell_at hS p0.out;have d1:=cell_at hS p1.out;go_simp;with_reducible rfl)
  refine pu_ ?_ ?_ 2 (some 15) (lb 8 0xf) ?_
  refine pu_ ?_ ?_ 6 (some 3) (lb 8 0x4f) ?_
  refine ta_ ?_ ?_ 4 (some 17) (lb 8 0x5f) hHeld ?_ (y:=by rintro w' hS;have d0:=cell_at hS p0.out;have d1:=cell_at hS p1.out;go_simp;with_reducible rfl)
  refine pu_ ?_ ?_ 5 (some 18) (lb 8 0x7f) ?_
  refine pu_ ?_ ?_ 7 (some 4) (lb 8 0xff) ?_
  refine done_ (by kernel_rfl) ?_
  have z2:=cell_at (below_drew1 (Below.refl w1.heap.size w1)) p2.out
  by_cases hok : (1 ≤ g.names.length ∧ g.names.length ≤ 40) ∧ g.terms.length ≤ 40 ∧ 1 ≤ g.rules.length ∧ g.rules.length ≤ 60
  · obtain ⟨⟨n1,n2⟩,n3,n4,n5⟩:=hok
    have q1 : ¬ (g.names.length : Int) < 1:=by omega
    have q2 : ¬ (40 : Int) < (g.names.length : Int):=by omega
    have q3 : ¬ (40 : Int) < (g.terms.length : Int):=by omega
    have q4 : ¬ (g.rules.length : Int) < 1:=by omega
    have q5 : ¬ (60 : Int) < (g.rules.length : Int):=by omega
    go_wp2
    go_loopw [5] (fun iv wr => ∃ i : Nat,i ≤ g.names.length ∧ iv = .int .i64 i ∧ Aside0 (Below w1.heap.size w1 wr) ∧ Aside0 (∀ j (hj : j < g.names.length),j < i → nameOk (g.names[j]'hj) = true ∧ idxF g.names (g.names[j]'hj) = j)) (fun iv _ => g.names.length - (intOf iv).toNat)
    case atStart => exact ⟨0,Nat.zero_le _,rfl,⟨below_drew1 (Below.refl _ _)⟩,⟨fun j hj h => by omega⟩⟩
    case round =>
      clear z2
      obtain ⟨i,hi,rfl,HB,HN⟩:=hrel
      by_cases hlt : i < g.names.length
      · obtain ⟨ad,eA,hx⟩:=at_str HG.out.names i hlt
        subst eA
        have hsz:=HZ.out.1 _ (List.getElem_mem hlt)
        obtain ⟨s,hs⟩ : ∃ s,s = g.names[i]'hlt:=⟨_,rfl⟩
        rw [← hs] at hx hsz
        have HS:=Aside0.mk hs
        have KX:=Aside0.mk hx
        have HSZ:=Aside0.mk hsz
        have j1 : (0 : Int) ≤ (i : Int):=by omega
        have j2 : (i : Int) < (g.names.length : Int):=by omega
        clear hs hx hsz
        cases hn : isNameF (bsl s) with
        | false =>
          have HNM:=Aside0.mk hn
          clear hn
          go_wp2
          refine start_ (n:=19) (S:=fun w' => Below w1.heap.size w1 w') (ds:=[]) (lb 19 0x0) (by kernel_rfl) rfl (by kernel_rfl) (below_drew1 HB.out) (fun hHeld => ?_)
          refine pu_ ?_ ?_ 0 (some 46) (lb 19 0x1) ?_
          refine pu_ ?_ ?_ 2 (some 48) (lb 19 0x5) ?_
          refine ta_ ?_ ?_ 1 (some 47) (lb 19 0x7) hHeld ?_ (y:=by rintro w' hS;have d1:=cell_at hS p1.out;have d2:=cell_at hS KX.out;go_simp;with_reducible rfl)
          refine pu_ ?_ ?_ 3 (some 49) (lb 19 0xf) ?_
          refine ta_ ?_ ?_ 4 (some 50) (lb 19 0x1f) hHeld ?_ (y:=by rintro w' hS;have d1:=cell_at hS p1.out;have d2:=cell_at hS KX.out;go_simp;with_reducible rfl)
          refine on_ 5 (some 51) (lb 19 0x3f) (fun K hK => ?_)
          (refine goes_ Try.func54 (by kernel_rfl) rfl #[.string s] (by rfl) rfl rfl (by simp [Act.eval]) ?_;refine (isName1_c s _ HSZ.out).mono ?_;rw [HNM.out];rintro e w5 ⟨rfl,rfl⟩;refine ⟨_,rfl,?_⟩;refine hK.out _ _ hHeld (fun hHeld => ?_))
          clear hK K
          refine nm_ ?_ (some 51) ?_
          refine pu_ ?_ ?_ 6 (some 52) (lb 19 0x7f) ?_
          refine pu_ ?_ ?_ 7 (some 53) (lb 19 0xff) ?_
          refine po_ ?_ 8 (some 54) (lb 19 0x1ff) ?_
          refine po_ ?_ 10 (some 56) (lb 19 0x5ff) ?_
          refine po_ ?_ 12 (some 58) (lb 19 0x15ff) ?_
          refine po_ ?_ 16 (some 62) (lb 19 0x115ff) ?_
          refine po_ ?_ 9 (some 55) (lb 19 0x117ff) ?_
          refine po_ ?_ 11 (some 57) (lb 19 0x11fff) ?_
          refine po_ ?_ 13 (some 59) (lb 19 0x13fff) ?_
          refine po_ ?_ 14 (some 60) (lb 19 0x17fff) ?_
          refine on_ 15 (some 61) (lb 19 0x1ffff) (fun K hK => ?_)
          refine off_ (by rfl) ?_
          refine hK.out _ _ hHeld (fun hHeld => ?_)
          clear hK K
          refine nm_ ?_ (some 61) ?_
          refine po_ ?_ 17 (some 63) (lb 19 0x3ffff) ?_
          refine pu_ ?_ ?_ 18 (some 64) (lb 19 0x7ffff) ?_
          refine done_ (by kernel_rfl) ?_
          go_wp2
          go_ret
          exact ⟨ret_bool (good_not (fun h => by have:=((names_iff g).1 h.names).1 i hlt;rw [← HS.out] at this;unfold nameOk at this;rw [HNM.out] at this;cases this.1)).symm,below_then HB1.out HB1.out.size (below_drew1 HB.out)⟩
        | true =>
          have HNM:=Aside0.mk hn
          clear hn
          by_cases hid : idxF g.names s = (i : Int)
          · have hib : (idxF g.names s != (i : Int)) = false:=by rw [hid];simp
            have HID:=Aside0.mk hid
            clear hid
            go_wp2
            refine start_ (n:=19) (S:=fun w' => Below w1.heap.size w1 w') (ds:=[]) (lb 19 0x0) (by kernel_rfl) rfl (by kernel_rfl) (below_drew1 HB.out) (fun hHeld => ?_)
            refine pu_ ?_ ?_ 0 (some 46) (lb 19 0x1) ?_
            refine pu_ ?_ ?_ 2 (some 48) (lb 19 0x5) ?_
            refine ta_ ?_ ?_ 1 (some 47) (lb 19 0x7) hHeld ?_ (y:=by rintro w' hS;have d1:=cell_at hS p1.out;have d2:=cell_at hS KX.out;go_simp;with_reducible rfl)
            refine pu_ ?_ ?_ 3 (some 49) (lb 19 0xf) ?_
            refine ta_ ?_ ?_ 4 (some 50) (lb 19 0x1f) hHeld ?_ (y:=by rintro w' hS;have d1:=cell_at hS p1.out;have d2:=cell_at hS KX.out;go_simp;with_reducible rfl)
            refine on_ 5 (some 51) (lb 19 0x3f) (fun K hK => ?_)
            (refine goes_ Try.func54 (by kernel_rfl) rfl #[.string s] (by rfl) rfl rfl (by simp [Act.eval]) ?_;refine (isName1_c s _ HSZ.out).mono ?_;rw [HNM.out];rintro e w5 ⟨rfl,rfl⟩;refine ⟨_,rfl,?_⟩;refine hK.out _ _ hHeld (fun hHeld => ?_))
            clear hK K
            refine nm_ ?_ (some 51) ?_
            refine pu_ ?_ ?_ 6 (some 52) (lb 19 0x7f) ?_
            refine pu_ ?_ ?_ 7 (some 53) (lb 19 0xff) ?_
            refine pu_ ?_ ?_ 8 (some 54) (lb 19 0x1ff) ?_
            refine pu_ ?_ ?_ 10 (some 56) (lb 19 0x5ff) ?_
            refine pu_ ?_ ?_ 12 (some 58) (lb 19 0x15ff) ?_
            refine pu_ ?_ ?_ 16 (some 62) (lb 19 0x115ff) ?_
            refine ta_ ?_ ?_ 9 (some 55) (lb 19 0x117ff) hHeld ?_ (y:=by rintro w' hS;have d1:=cell_at hS p1.out;have d2:=cell_at hS KX.out;go_simp;with_reducible rfl)
            refine ta_ ?_ ?_ 11 (some 57) (lb 19 0x11fff) hHeld ?_ (y:=by rintro w' hS;have d1:=cell_at hS p1.out;have d2:=cell_at hS KX.out;go_simp;with_reducible rfl)
            refine pu_ ?_ ?_ 13 (some 59) (lb 19 0x13fff) ?_
            refine ta_ ?_ ?_ 14 (some 60) (lb 19 0x17fff) hHeld ?_ (y:=by rintro w' hS;have d1:=cell_at hS p1.out;have d2:=cell_at hS KX.out;go_simp;with_reducible rfl)
            refine on_ 15 (some 61) (lb 19 0x1ffff) (fun K hK => ?_)
            (refine goes_ Try.func55 (by kernel_rfl) rfl #[.slice (some ad) g.names.length c2,.string s] (by rfl) rfl rfl (by simp [Act.eval]) ?_;refine (at1_c _ _ _ _ _ _ (Kd.C_below HG.out.names hHeld)).mono ?_;rintro e w5 ⟨rfl,rfl⟩;refine ⟨_,rfl,?_⟩;refine hK.out _ _ hHeld (fun hHeld => ?_))
            clear hK K
            refine nm_ ?_ (some 61) ?_
            refine pu_ ?_ ?_ 17 (some 63) (lb 19 0x3ffff) ?_
            refine pu_ ?_ ?_ 18 (some 64) (lb 19 0x7ffff) ?_
            refine done_ (by kernel_rfl) ?_
            go_wp2
            go_roundw
            case rel => exact ⟨i + 1,by omega,by go_num,⟨below_drew1 HB.out⟩,⟨fun j hj hji => by
              rcases Nat.lt_or_ge j i with h | h
              · exact HN.out j hj h
              · obtain rfl : j = i:=by omega
                rw [← HS.out]
                exact ⟨HNM.out,HID.out⟩⟩⟩
            case measure => simp [intOf];omega
          · have hib : (idxF g.names s != (i : Int)) = true:=by rw [bne_iff_ne];exact hid
            have HID:=Aside0.mk hid
            clear hid
            go_wp2
            refine start_ (n:=19) (S:=fun w' => Below w1.heap.size w1 w') (ds:=[]) (lb 19 0x0) (by kernel_rfl) rfl (by kernel_rfl) (below_drew1 HB.out) (fun hHeld => ?_)
            refine pu_ ?_ ?_ 0 (some 46) (lb 19 0x1) ?_
            refine pu_ ?_ ?_ 2 (some 48) (lb 19 0x5) ?_
            refine ta_ ?_ ?_ 1 (some 47) (lb 19 0x7) hHeld ?_ (y:=by rintro w' hS;have d1:=cell_at hS p1.out;have d2:=cell_at hS KX.out;go_simp;with_reducible rfl)
            refine pu_ ?_ ?_ 3 (some 49) (lb 19 0xf) ?_
            refine ta_ ?_ ?_ 4 (some 50) (lb 19 0x1f) hHeld ?_ (y:=by rintro w' hS;have d1:=cell_at hS p1.out;have d2:=cell_at hS KX.out;go_simp;with_reducible rfl)
            refine on_ 5 (some 51) (lb 19 0x3f) (fun K hK => ?_)
            (refine goes_ Try.func54 (by kernel_rfl) rfl #[.string s] (by rfl) rfl rfl (by simp [Act.eval]) ?_;refine (isName1_c s _ HSZ.out).mono ?_;rw [HNM.out];rintro e w5 ⟨rfl,rfl⟩;refine ⟨_,rfl,?_⟩;refine hK.out _ _ hHeld (fun hHeld => ?_))
            clear hK K
            refine nm_ ?_ (some 51) ?_
            refine pu_ ?_ ?_ 6 (some 52) (lb 19 0x7f) ?_
            refine pu_ ?_ ?_ 7 (some 53) (lb 19 0xff) ?_
            refine pu_ ?_ ?_ 8 (some 54) (lb 19 0x1ff) ?_
            refine pu_ ?_ ?_ 10 (some 56) (lb 19 0x5ff) ?_
            refine pu_ ?_ ?_ 12 (some 58) (lb 19 0x15ff) ?_
            refine pu_ ?_ ?_ 16 (some 62) (lb 19 0x115ff) ?_
            refine ta_ ?_ ?_ 9 (some 55) (lb 19 0x117ff) hHeld ?_ (y:=by rintro w' hS;have d1:=cell_at hS p1.out;have d2:=cell_at hS KX.out;go_simp;with_reducible rfl)
            refine ta_ ?_ ?_ 11 (some 57) (lb 19 0x11fff) hHeld ?_ (y:=by rintro w' hS;have d1:=cell_at hS p1.out;have d2:=cell_at hS KX.out;go_simp;with_reducible rfl)
            refine pu_ ?_ ?_ 13 (some 59) (lb 19 0x13fff) ?_
            refine ta_ ?_ ?_ 14 (some 60) (lb 19 0x17fff) hHeld ?_ (y:=by rintro w' hS;have d1:=cell_at hS p1.out;have d2:=cell_at hS KX.out;go_simp;with_reducible rfl)
            refine on_ 15 (some 61) (lb 19 0x1ffff) (fun K hK => ?_)
            (refine goes_ Try.func55 (by kernel_rfl) rfl #[.slice (some ad) g.names.length c2,.string s] (by rfl) rfl rfl (by simp [Act.eval]) ?_;refine (at1_c _ _ _ _ _ _ (Kd.C_below HG.out.names hHeld)).mono ?_;rintro e w5 ⟨rfl,rfl⟩;refine ⟨_,rfl,?_⟩;refine hK.out _ _ hHeld (fun hHeld => ?_))
            clear hK K
            refine nm_ ?_ (some 61) ?_
            refine pu_ ?_ ?_ 17 (some 63) (lb 19 0x3ffff) ?_
            refine pu_ ?_ ?_ 18 (some 64) (lb 19 0x7ffff) ?_
            refine done_ (by kernel_rfl) ?_
            go_wp2
            go_ret
            exact ⟨ret_bool (good_not (fun h => by have:=((names_iff g).1 h.names).1 i hlt;rw [← HS.out] at this;exact HID.out this.2)).symm,below_then HB1.out HB1.out.size (below_drew1 HB.out)⟩
      · have HNO : Aside0 (namesOk g = true):=⟨(names_iff g).2 ⟨fun j hj => HN.out j hj (by omega),n1,n2⟩⟩
        clear HN
        go_wp2
        obtain ⟨wo,hwo⟩ : ∃ wo : World,wo = wr:=⟨_,rfl⟩
        subst hwo
        go_loopw [6] (fun iv wr => ∃ i : Nat,i ≤ g.terms.length ∧ iv = .int .i64 i ∧ Aside0 (Below w1.heap.size w1 wr) ∧ Aside0 (∀ j (hj : j < g.terms.length),j < i → termOk (g.terms[j]'hj) = true ∧ idxF g.terms (g.terms[j]'hj) = j)) (fun iv _ => g.terms.length - (intOf iv).toNat)
        case atStart => exact ⟨0,Nat.zero_le _,rfl,HB,⟨fun j hj h => by omega⟩⟩
        case round =>
          clear HB
          obtain ⟨i,hi,rfl,HB,HN⟩:=hrel
          by_cases hlt : i < g.terms.length
          · obtain ⟨ad,eA,hx⟩:=at_str HG.out.terms i hlt
            subst eA
            have hsz:=HZ.out.2 _ (List.getElem_mem hlt)
            obtain ⟨s,hs⟩ : ∃ s,s = g.terms[i]'hlt:=⟨_,rfl⟩
            rw [← hs] at hx hsz
            have HS:=Aside0.mk hs
            have KX:=Aside0.mk hx
            have HSZ:=Aside0.mk hsz
            have j1 : (0 : Int) ≤ (i : Int):=by omega
            have j2 : (i : Int) < (g.terms.length : Int):=by omega
            clear hs hx hsz
            cases hn : isTermF (bsl s) with
            | false =>
              have HNM:=Aside0.mk hn
              clear hn
              go_wp2
              refine start_ (n:=19) (S:=fun w' => Below w1.heap.size w1 w') (ds:=[]) (lb 19 0x0) (by kernel_rfl) rfl (by kernel_rfl) (below_drew1 HB.out) (fun hHeld => ?_)
              refine pu_ ?_ ?_ 0 (some 70) (lb 19 0x1) ?_
              refine pu_ ?_ ?_ 2 (some 72) (lb 19 0x5) ?_
              refine ta_ ?_ ?_ 1 (some 71) (lb 19 0x7) hHeld ?_ (y:=by rintro w' hS;have d1:=cell_at hS p0.out;have d2:=cell_at hS KX.out;go_simp;with_reducible rfl)
              refine pu_ ?_ ?_ 3 (some 73) (lb 19 0xf) ?_
              refine ta_ ?_ ?_ 4 (some 74) (lb 19 0x1f) hHeld ?_ (y:=by rintro w' hS;have d1:=cell_at hS p0.out;have d2:=cell_at hS KX.out;go_simp;with_reducible rfl)
              refine on_ 5 (some 75) (lb 19 0x3f) (fun K hK => ?_)
              (refine goes_ Try.func56 (by kernel_rfl) rfl #[.string s] (by rfl) rfl rfl (by simp [Act.eval]) ?_;refine (isTerm1_c s _ HSZ.out).mono ?_;rw [HNM.out];rintro e w5 ⟨rfl,rfl⟩;refine ⟨_,rfl,?_⟩;refine hK.out _ _ hHeld (fun hHeld => ?_))
              clear hK K
              refine nm_ ?_ (some 75) ?_
              refine pu_ ?_ ?_ 6 (some 76) (lb 19 0x7f) ?_
              refine pu_ ?_ ?_ 7 (some 77) (lb 19 0xff) ?_
              refine po_ ?_ 8 (some 78) (lb 19 0x1ff) ?_
              refine po_ ?_ 10 (some 80) (lb 19 0x5ff) ?_
              refine po_ ?_ 12 (some 82) (lb 19 0x15ff) ?_
              refine po_ ?_ 16 (some 86) (lb 19 0x115ff) ?_
              refine po_ ?_ 9 (some 79) (lb 19 0x117ff) ?_
              refine po_ ?_ 11 (some 81) (lb 19 0x11fff) ?_
              refine po_ ?_ 13 (some 83) (lb 19 0x13fff) ?_
              refine po_ ?_ 14 (some 84) (lb 19 0x17fff) ?_
              refine on_ 15 (some 85) (lb 19 0x1ffff) (fun K hK => ?_)
              refine off_ (by rfl) ?_
              refine hK.out _ _ hHeld (fun hHeld => ?_)
              clear hK K
              refine nm_ ?_ (some 85) ?_
              refine po_ ?_ 17 (some 87) (lb 19 0x3ffff) ?_
              refine pu_ ?_ ?_ 18 (some 88) (lb 19 0x7ffff) ?_
              refine done_ (by kernel_rfl) ?_
              go_wp2
              go_ret
              exact ⟨ret_bool (good_not (fun h => by have:=((terms_iff g).1 h.terms).1 i hlt;rw [← HS.out] at this;unfold termOk at this;rw [HNM.out] at this;cases this.1)).symm,below_then HB1.out HB1.out.size (below_drew1 HB.out)⟩
            | true =>
              have HNM:=Aside0.mk hn
              clear hn
              by_cases hid : idxF g.terms s = (i : Int)
              · have hib : (idxF g.terms s != (i : Int)) = false:=by rw [hid];simp
                have HID:=Aside0.mk hid
                clear hid
                go_wp2
                refine start_ (n:=19) (S:=fun w' => Below w1.heap.size w1 w') (ds:=[]) (lb 19 0x0) (by kernel_rfl) rfl (by kernel_rfl) (below_drew1 HB.out) (fun hHeld => ?_)
                refine pu_ ?_ ?_ 0 (some 70) (lb 19 0x1) ?_
                refine pu_ ?_ ?_ 2 (some 72) (lb 19 0x5) ?_
                refine ta_ ?_ ?_ 1 (some 71) (lb 19 0x7) hHeld ?_ (y:=by rintro w' hS;have d1:=cell_at hS p0.out;have d2:=cell_at hS KX.out;go_simp;with_reducible rfl)
                refine pu_ ?_ ?_ 3 (some 73) (lb 19 0xf) ?_
                refine ta_ ?_ ?_ 4 (some 74) (lb 19 0x1f) hHeld ?_ (y:=by rintro w' hS;have d1:=cell_at hS p0.out;have d2:=cell_at hS KX.out;go_simp;with_reducible rfl)
                refine on_ 5 (some 75) (lb 19 0x3f) (fun K hK => ?_)
                (refine goes_ Try.func56 (by kernel_rfl) rfl #[.string s] (by rfl) rfl rfl (by simp [Act.eval]) ?_;refine (isTerm1_c s _ HSZ.out).mono ?_;rw [HNM.out];rintro e w5 ⟨rfl,rfl⟩;refine ⟨_,rfl,?_⟩;refine hK.out _ _ hHeld (fun hHeld => ?_))
                clear hK K
                refine nm_ ?_ (some 75) ?_
                refine pu_ ?_ ?_ 6 (some 76) (lb 19 0x7f) ?_
                refine pu_ ?_ ?_ 7 (some 77) (lb 19 0xff) ?_
                refine pu_ ?_ ?_ 8 (some 78) (lb 19 0x1ff) ?_
                refine pu_ ?_ ?_ 10 (some 80) (lb 19 0x5ff) ?_
                refine pu_ ?_ ?_ 12 (some 82) (lb 19 0x15ff) ?_
                refine pu_ ?_ ?_ 16 (some 86) (lb 19 0x115ff) ?_
                refine ta_ ?_ ?_ 9 (some 79) (lb 19 0x117ff) hHeld ?_ (y:=by rintro w' hS;have d1:=cell_at hS p0.out;have d2:=cell_at hS KX.out;go_simp;with_reducible rfl)
                refine ta_ ?_ ?_ 11 (some 81) (lb 19 0x11fff) hHeld ?_ (y:=by rintro w' hS;have d1:=cell_at hS p0.out;have d2:=cell_at hS KX.out;go_simp;with_reducible rfl)
                refine pu_ ?_ ?_ 13 (some 83) (lb 19 0x13fff) ?_
                refine ta_ ?_ ?_ 14 (some 84) (lb 19 0x17fff) hHeld ?_ (y:=by rintro w' hS;have d1:=cell_at hS p0.out;have d2:=cell_at hS KX.out;go_simp;with_reducible rfl)
                refine on_ 15 (some 85) (lb 19 0x1ffff) (fun K hK => ?_)
                (refine goes_ Try.func55 (by kernel_rfl) rfl #[.slice (some ad) g.terms.length c1,.string s] (by rfl) rfl rfl (by simp [Act.eval]) ?_;refine (at1_c _ _ _ _ _ _ (Kd.C_below HG.out.terms hHeld)).mono ?_;rintro e w5 ⟨rfl,rfl⟩;refine ⟨_,rfl,?_⟩;refine hK.out _ _ hHeld (fun hHeld => ?_))
                clear hK K
                refine nm_ ?_ (some 85) ?_
                refine pu_ ?_ ?_ 17 (some 87) (lb 19 0x3ffff) ?_
                refine pu_ ?_ ?_ 18 (some 88) (lb 19 0x7ffff) ?_
                refine done_ (by kernel_rfl) ?_
                go_wp2
                go_roundw
                case rel => exact ⟨i + 1,by omega,by go_num,⟨below_drew1 HB.out⟩,⟨fun j hj hji => by
                  rcases Nat.lt_or_ge j i with h | h
                  · exact HN.out j hj h
                  · obtain rfl : j = i:=by omega
                    rw [← HS.out]
                    exact ⟨HNM.out,HID.out⟩⟩⟩
                case measure => simp [intOf];omega
              · have hib : (idxF g.terms s != (i : Int)) = true:=by rw [bne_iff_ne];exact hid
                have HID:=Aside0.mk hid
                clear hid
                go_wp2
                refine start_ (n:=19) (S:=fun w' => Below w1.heap.size w1 w') (ds:=[]) (lb 19 0x0) (by kernel_rfl) rfl (by kernel_rfl) (below_drew1 HB.out) (fun hHeld => ?_)
                refine pu_ ?_ ?_ 0 (some 70) (lb 19 0x1) ?_
                refine pu_ ?_ ?_ 2 (some 72) (lb 19 0x5) ?_
                refine ta_ ?_ ?_ 1 (some 71) (lb 19 0x7) hHeld ?_ (y:=by rintro w' hS;have d1:=cell_at hS p0.out;have d2:=cell_at hS KX.out;go_simp;with_reducible rfl)
                refine pu_ ?_ ?_ 3 (some 73) (lb 19 0xf) ?_
                refine ta_ ?_ ?_ 4 (some 74) (lb 19 0x1f) hHeld ?_ (y:=by rintro w' hS;have d1:=cell_at hS p0.out;have d2:=cell_at hS KX.out;go_simp;with_reducible rfl)
                refine on_ 5 (some 75) (lb 19 0x3f) (fun K hK => ?_)
                (refine goes_ Try.func56 (by kernel_rfl) rfl #[.string s] (by rfl) rfl rfl (by simp [Act.eval]) ?_;refine (isTerm1_c s _ HSZ.out).mono ?_;rw [HNM.out];rintro e w5 ⟨rfl,rfl⟩;refine ⟨_,rfl,?_⟩;refine hK.out _ _ hHeld (fun hHeld => ?_))
                clear hK K
                refine nm_ ?_ (some 75) ?_
                refine pu_ ?_ ?_ 6 (some 76) (lb 19 0x7f) ?_
                refine pu_ ?_ ?_ 7 (some 77) (lb 19 0xff) ?_
                refine pu_ ?_ ?_ 8 (some 78) (lb 19 0x1ff) ?_
                refine pu_ ?_ ?_ 10 (some 80) (lb 19 0x5ff) ?_
                refine pu_ ?_ ?_ 12 (some 82) (lb 19 0x15ff) ?_
                refine pu_ ?_ ?_ 16 (some 86) (lb 19 0x115ff) ?_
                refine ta_ ?_ ?_ 9 (some 79) (lb 19 0x117ff) hHeld ?_ (y:=by rintro w' hS;have d1:=cell_at hS p0.out;have d2:=cell_at hS KX.out;go_simp;with_reducible rfl)
                refine ta_ ?_ ?_ 11 (some 81) (lb 19 0x11fff) hHeld ?_ (y:=by rintro w' hS;have d1:=cell_at hS p0.out;have d2:=cell_at hS KX.out;go_simp;with_reducible rfl)
                refine pu_ ?_ ?_ 13 (some 83) (lb 19 0x13fff) ?_
                refine ta_ ?_ ?_ 14 (some 84) (lb 19 0x17fff) hHeld ?_ (y:=by rintro w' hS;have d1:=cell_at hS p0.out;have d2:=cell_at hS KX.out;go_simp;with_reducible rfl)
                refine on_ 15 (some 85) (lb 19 0x1ffff) (fun K hK => ?_)
                (refine goes_ Try.func55 (by kernel_rfl) rfl #[.slice (some ad) g.terms.length c1,.string s] (by rfl) rfl rfl (by simp [Act.eval]) ?_;refine (at1_c _ _ _ _ _ _ (Kd.C_below HG.out.terms hHeld)).mono ?_;rintro e w5 ⟨rfl,rfl⟩;refine ⟨_,rfl,?_⟩;refine hK.out _ _ hHeld (fun hHeld => ?_))
                clear hK K
                refine nm_ ?_ (some 85) ?_
                refine pu_ ?_ ?_ 17 (some 87) (lb 19 0x3ffff) ?_
                refine pu_ ?_ ?_ 18 (some 88) (lb 19 0x7ffff) ?_
                refine done_ (by kernel_rfl) ?_
                go_wp2
                go_ret
                exact ⟨ret_bool (good_not (fun h => by have:=((terms_iff g).1 h.terms).1 i hlt;rw [← HS.out] at this;exact HID.out this.2)).symm,below_then HB1.out HB1.out.size (below_drew1 HB.out)⟩
          · have HTO : Aside0 (termsOk g = true):=⟨(terms_iff g).2 ⟨fun j hj => HN.out j hj (by omega),n3⟩⟩
            clear HN
            go_wp2
            obtain ⟨wo,hwo⟩ : ∃ wo : World,wo = wr:=⟨_,rfl⟩
            subst hwo
            go_loopw [9,7,8] (fun iv nv tv wr => ∃ i nm tm : Nat,i ≤ g.rules.length ∧ iv = .int .i64 i ∧ nv = .int .i64 nm ∧ tv = .int .i64 tm ∧ nm ≤ i ∧ tm ≤ 8 * i ∧ Aside0 (Below w1.heap.size w1 wr) ∧ Aside0 (GS g i nm tm)) (fun iv _ _ _ => g.rules.length - (intOf iv).toNat)
            case atStart => exact ⟨0,0,0,Nat.zero_le _,rfl,rfl,rfl,Nat.le_refl _,Nat.le_refl _,HB,⟨GS.start g⟩⟩
            case round =>
              clear HB
              obtain ⟨i,nm,tm,hi,rfl,rfl,rfl,hnm,htm,HB,HGS⟩:=hrel
              have z2:=cell_at HB.out p2.out
              by_cases hlt : i < g.rules.length
              · obtain ⟨a3,R,cr,eA,hx1,hx2,hcr,hR⟩:=at_rule HG.out.rules i hlt
                subst eA
                obtain ⟨x,hx⟩ : ∃ x,x = g.rules[i]'hlt:=⟨_,rfl⟩
                rw [← hx] at hx1 hx2 hcr hR
                have HX:=Aside0.mk hx
                have hmx:=C_max hR
                have KXR:=Aside0.mk hR
                have y1:=cell_at HB.out hx1
                have y2:=cell_at HB.out hx2
                have j1 : (0 : Int) ≤ (i : Int):=by omega
                have j2 : (i : Int) < (g.rules.length : Int):=by omega
                have hc3:=HG.out.rulesCap
                have hc4 : (i : Int) ≤ (c3 : Int):=by omega
                have hwa : IntKind.i64.wrap ((g.terms.length : Int) + (nm : Int)) = (g.terms.length : Int) + (nm : Int):=IntWalk.i64_in _ (by omega)
                have hwb : IntKind.i64.wrap ((g.terms.length : Int) + (g.names.length : Int)) = (g.terms.length : Int) + (g.names.length : Int):=IntWalk.i64_in _ (by omega)
                clear hx hx1 hx2 hR
                obtain ⟨wq,hwq⟩ : ∃ wq : World,wq = wr.alloc (.cells #[.int .i64 x.left,.slice R x.right.length cr] 46 (0,0)):=⟨_,rfl⟩
                have HBQ : Aside0 (Below w1.heap.size w1 wq):=⟨by rw [hwq];exact below_alloc HB.out _⟩
                have hq : wq.heap[wr.heap.size]? = some (.cells #[.int .i64 x.left,.slice R x.right.length cr] 46 (0,0)):=by rw [hwq];exact blk_new wr _
                have Q0:=Aside0.mk ((blk_cell hq 0).trans rfl : wq.cell? ⟨wr.heap.size,0,none⟩ = some (.int .i64 x.left))
                have Q1:=Aside0.mk ((blk_cell hq 1).trans rfl : wq.cell? ⟨wr.heap.size,1,none⟩ = some (.slice R x.right.length cr))
                have P2Q:=Aside0.mk (cell_at HBQ.out p2.out)
                clear hq
                by_cases h1 : x.left < (g.terms.length : Int)
                · have e1 : decide (x.left < (g.terms.length : Int)) = true:=decide_eq_true h1
                  go_wp2
                  simp only [← hwq]
                  refine start_ (n:=34) (S:=fun w' => Below wq.heap.size wq w') (ds:=[]) (lb 34 0x0) (by kernel_rfl) rfl (by kernel_rfl) (below_drew1 (Below.refl _ _)) (fun hHeld => ?_)
                  refine pu_ ?_ ?_ 0 (some 101) (lb 34 0x1) ?_
                  refine pu_ ?_ ?_ 2 (some 103) (lb 34 0x5) ?_
                  refine ta_ ?_ ?_ 1 (some 102) (lb 34 0x7) hHeld ?_ (y:=by rintro w' hS;have d2:=cell_at hS P2Q.out;have d0:=cell_at hS Q0.out;have d1:=cell_at hS Q1.out;go_simp;with_reducible rfl)
                  refine pu_ ?_ ?_ 3 (some 104) (lb 34 0xf) ?_
                  refine pu_ ?_ ?_ 4 (some 105) (lb 34 0x1f) ?_
                  refine po_ ?_ 5 (some 106) (lb 34 0x3f) ?_
                  refine po_ ?_ 7 (some 108) (lb 34 0xbf) ?_
                  refine po_ ?_ 8 (some 109) (lb 34 0x1bf) ?_
                  refine po_ ?_ 9 (some 110) (lb 34 0x3bf) ?_
                  refine po_ ?_ 6 (some 107) (lb 34 0x3ff) ?_
                  refine po_ ?_ 10 (some 111) (lb 34 0x7ff) ?_
                  refine pu_ ?_ ?_ 11 (some 112) (lb 34 0xfff) ?_
                  refine pu_ ?_ ?_ 12 (some 113) (lb 34 0x1fff) ?_
                  refine po_ ?_ 13 (some 114) (lb 34 0x3fff) ?_
                  refine po_ ?_ 15 (some 116) (lb 34 0xbfff) ?_
                  refine po_ ?_ 16 (some 117) (lb 34 0x1bfff) ?_
                  refine po_ ?_ 17 (some 118) (lb 34 0x3bfff) ?_
                  refine po_ ?_ 14 (some 115) (lb 34 0x3ffff) ?_
                  refine po_ ?_ 18 (some 119) (lb 34 0x7ffff) ?_
                  refine pu_ ?_ ?_ 19 (some 120) (lb 34 0xfffff) ?_
                  refine pu_ ?_ ?_ 20 (some 121) (lb 34 0x1fffff) ?_
                  refine po_ ?_ 21 (some 122) (lb 34 0x3fffff) ?_
                  refine po_ ?_ 22 (some 123) (lb 34 0x7fffff) ?_
                  refine po_ ?_ 23 (some 124) (lb 34 0xffffff) ?_
                  refine po_ ?_ 24 (some 125) (lb 34 0x1ffffff) ?_
                  refine pu_ ?_ ?_ 25 (some 126) (lb 34 0x3ffffff) ?_
                  refine pu_ ?_ ?_ 26 (some 127) (lb 34 0x7ffffff) ?_
                  refine po_ ?_ 27 (some 128) (lb 34 0xfffffff) ?_
                  refine po_ ?_ 29 (some 130) (lb 34 0x2fffffff) ?_
                  refine po_ ?_ 28 (some 129) (lb 34 0x3fffffff) ?_
                  refine po_ ?_ 30 (some 131) (lb 34 0x7fffffff) ?_
                  refine po_ ?_ 31 (some 132) (lb 34 0xffffffff) ?_
                  refine on_ 32 (some 133) (lb 34 0x1ffffffff) (fun K hK => ?_)
                  refine off_ (by rfl) ?_
                  refine hK.out _ _ hHeld (fun hHeld => ?_)
                  clear hK K
                  refine nm_ ?_ (some 133) ?_
                  refine pu_ ?_ ?_ 33 (some 134) (lb 34 0x3ffffffff) ?_
                  refine done_ (by kernel_rfl) ?_
                  go_wp2
                  go_ret
                  exact ⟨ret_bool (good_not (fun h => by have:=GS.left_ h HGS.out hlt;rw [← HX.out] at this;exact this.1 h1)).symm,below_then HB1.out HB1.out.size (below_then HBQ.out HBQ.out.size (below_drew1 (Below.refl _ _)))⟩
                · have e1 : decide (x.left < (g.terms.length : Int)) = false:=decide_eq_false h1
                  by_cases h2 : (g.terms.length : Int) + (nm : Int) < x.left
                  · have e2 : decide ((g.terms.length : Int) + (nm : Int) < x.left) = true:=decide_eq_true h2
                    go_wp2
                    simp only [← hwq]
                    refine start_ (n:=34) (S:=fun w' => Below wq.heap.size wq w') (ds:=[]) (lb 34 0x0) (by kernel_rfl) rfl (by kernel_rfl) (below_drew1 (Below.refl _ _)) (fun hHeld => ?_)
                    refine pu_ ?_ ?_ 0 (some 101) (lb 34 0x1) ?_
                    refine pu_ ?_ ?_ 2 (some 103) (lb 34 0x5) ?_
                    refine ta_ ?_ ?_ 1 (some 102) (lb 34 0x7) hHeld ?_ (y:=by rintro w' hS;have d2:=cell_at hS P2Q.out;have d0:=cell_at hS Q0.out;have d1:=cell_at hS Q1.out;go_simp;with_reducible rfl)
                    refine pu_ ?_ ?_ 3 (some 104) (lb 34 0xf) ?_
                    refine pu_ ?_ ?_ 4 (some 105) (lb 34 0x1f) ?_
                    refine pu_ ?_ ?_ 5 (some 106) (lb 34 0x3f) ?_
                    refine pu_ ?_ ?_ 7 (some 108) (lb 34 0xbf) ?_
                    refine pu_ ?_ ?_ 8 (some 109) (lb 34 0x1bf) ?_
                    refine pu_ ?_ ?_ 9 (some 110) (lb 34 0x3bf) ?_
                    refine ta_ ?_ ?_ 6 (some 107) (lb 34 0x3ff) hHeld ?_ (y:=by rintro w' hS;have d2:=cell_at hS P2Q.out;have d0:=cell_at hS Q0.out;have d1:=cell_at hS Q1.out;go_simp;with_reducible rfl)
                    refine pu_ ?_ ?_ 10 (some 111) (lb 34 0x7ff) ?_
                    refine pu_ ?_ ?_ 11 (some 112) (lb 34 0xfff) ?_
                    refine pu_ ?_ ?_ 12 (some 113) (lb 34 0x1fff) ?_
                    refine po_ ?_ 13 (some 114) (lb 34 0x3fff) ?_
                    refine po_ ?_ 15 (some 116) (lb 34 0xbfff) ?_
                    refine po_ ?_ 16 (some 117) (lb 34 0x1bfff) ?_
                    refine po_ ?_ 17 (some 118) (lb 34 0x3bfff) ?_
                    refine po_ ?_ 14 (some 115) (lb 34 0x3ffff) ?_
                    refine po_ ?_ 18 (some 119) (lb 34 0x7ffff) ?_
                    refine pu_ ?_ ?_ 19 (some 120) (lb 34 0xfffff) ?_
                    refine pu_ ?_ ?_ 20 (some 121) (lb 34 0x1fffff) ?_
                    refine po_ ?_ 21 (some 122) (lb 34 0x3fffff) ?_
                    refine po_ ?_ 22 (some 123) (lb 34 0x7fffff) ?_
                    refine po_ ?_ 23 (some 124) (lb 34 0xffffff) ?_
                    refine po_ ?_ 24 (some 125) (lb 34 0x1ffffff) ?_
                    refine pu_ ?_ ?_ 25 (some 126) (lb 34 0x3ffffff) ?_
                    refine pu_ ?_ ?_ 26 (some 127) (lb 34 0x7ffffff) ?_
                    refine po_ ?_ 27 (some 128) (lb 34 0xfffffff) ?_
                    refine po_ ?_ 29 (some 130) (lb 34 0x2fffffff) ?_
                    refine po_ ?_ 28 (some 129) (lb 34 0x3fffffff) ?_
                    refine po_ ?_ 30 (some 131) (lb 34 0x7fffffff) ?_
                    refine po_ ?_ 31 (some 132) (lb 34 0xffffffff) ?_
                    refine on_ 32 (some 133) (lb 34 0x1ffffffff) (fun K hK => ?_)
                    refine off_ (by rfl) ?_
                    refine hK.out _ _ hHeld (fun hHeld => ?_)
                    clear hK K
                    refine nm_ ?_ (some 133) ?_
                    refine pu_ ?_ ?_ 33 (some 134) (lb 34 0x3ffffffff) ?_
                    refine done_ (by kernel_rfl) ?_
                    go_wp2
                    go_ret
                    exact ⟨ret_bool (good_not (fun h => by have:=GS.left_ h HGS.out hlt;rw [← HX.out] at this;exact absurd this.2.1 (by omega))).symm,below_then HB1.out HB1.out.size (below_then HBQ.out HBQ.out.size (below_drew1 (Below.refl _ _)))⟩
                  · have e2 : decide ((g.terms.length : Int) + (nm : Int) < x.left) = false:=decide_eq_false h2
                    by_cases h3 : (g.terms.length : Int) + (g.names.length : Int) ≤ x.left
                    · have e3 : decide ((g.terms.length : Int) + (g.names.length : Int) ≤ x.left) = true:=decide_eq_true h3
                      go_wp2
                      simp only [← hwq]
                      refine start_ (n:=34) (S:=fun w' => Below wq.heap.size wq w') (ds:=[]) (lb 34 0x0) (by kernel_rfl) rfl (by kernel_rfl) (below_drew1 (Below.refl _ _)) (fun hHeld => ?_)
                      refine pu_ ?_ ?_ 0 (some 101) (lb 34 0x1) ?_
                      refine pu_ ?_ ?_ 2 (some 103) (lb 34 0x5) ?_
                      refine ta_ ?_ ?_ 1 (some 102) (lb 34 0x7) hHeld ?_ (y:=by rintro w' hS;have d2:=cell_at hS P2Q.out;have d0:=cell_at hS Q0.out;have d1:=cell_at hS Q1.out;go_simp;with_reducible rfl)
                      refine pu_ ?_ ?_ 3 (some 104) (lb 34 0xf) ?_
                      refine pu_ ?_ ?_ 4 (some 105) (lb 34 0x1f) ?_
                      refine pu_ ?_ ?_ 5 (some 106) (lb 34 0x3f) ?_
                      refine pu_ ?_ ?_ 7 (some 108) (lb 34 0xbf) ?_
                      refine pu_ ?_ ?_ 8 (some 109) (lb 34 0x1bf) ?_
                      refine pu_ ?_ ?_ 9 (some 110) (lb 34 0x3bf) ?_
                      refine ta_ ?_ ?_ 6 (some 107) (lb 34 0x3ff) hHeld ?_ (y:=by rintro w' hS;have d2:=cell_at hS P2Q.out;have d0:=cell_at hS Q0.out;have d1:=cell_at hS Q1.out;go_simp;with_reducible rfl)
                      refine pu_ ?_ ?_ 10 (some 111) (lb 34 0x7ff) ?_
                      refine pu_ ?_ ?_ 11 (some 112) (lb 34 0xfff) ?_
                      refine pu_ ?_ ?_ 12 (some 113) (lb 34 0x1fff) ?_
                      refine pu_ ?_ ?_ 13 (some 114) (lb 34 0x3fff) ?_
                      refine pu_ ?_ ?_ 15 (some 116) (lb 34 0xbfff) ?_
                      refine pu_ ?_ ?_ 16 (some 117) (lb 34 0x1bfff) ?_
                      refine pu_ ?_ ?_ 17 (some 118) (lb 34 0x3bfff) ?_
                      refine ta_ ?_ ?_ 14 (some 115) (lb 34 0x3ffff) hHeld ?_ (y:=by rintro w' hS;have d2:=cell_at hS P2Q.out;have d0:=cell_at hS Q0.out;have d1:=cell_at hS Q1.out;go_simp;with_reducible rfl)
                      refine pu_ ?_ ?_ 18 (some 119) (lb 34 0x7ffff) ?_
                      refine pu_ ?_ ?_ 19 (some 120) (lb 34 0xfffff) ?_
                      refine pu_ ?_ ?_ 20 (some 121) (lb 34 0x1fffff) ?_
                      refine po_ ?_ 21 (some 122) (lb 34 0x3fffff) ?_
                      refine po_ ?_ 22 (some 123) (lb 34 0x7fffff) ?_
                      refine po_ ?_ 23 (some 124) (lb 34 0xffffff) ?_
                      refine po_ ?_ 24 (some 125) (lb 34 0x1ffffff) ?_
                      refine pu_ ?_ ?_ 25 (some 126) (lb 34 0x3ffffff) ?_
                      refine pu_ ?_ ?_ 26 (some 127) (lb 34 0x7ffffff) ?_
                      refine po_ ?_ 27 (some 128) (lb 34 0xfffffff) ?_
                      refine po_ ?_ 29 (some 130) (lb 34 0x2fffffff) ?_
                      refine po_ ?_ 28 (some 129) (lb 34 0x3fffffff) ?_
                      refine po_ ?_ 30 (some 131) (lb 34 0x7fffffff) ?_
                      refine po_ ?_ 31 (some 132) (lb 34 0xffffffff) ?_
                      refine on_ 32 (some 133) (lb 34 0x1ffffffff) (fun K hK => ?_)
                      refine off_ (by rfl) ?_
                      refine hK.out _ _ hHeld (fun hHeld => ?_)
                      clear hK K
                      refine nm_ ?_ (some 133) ?_
                      refine pu_ ?_ ?_ 33 (some 134) (lb 34 0x3ffffffff) ?_
                      refine done_ (by kernel_rfl) ?_
                      go_wp2
                      go_ret
                      exact ⟨ret_bool (good_not (fun h => by have:=GS.left_ h HGS.out hlt;rw [← HX.out] at this;exact absurd this.2.2.1 (by omega))).symm,below_then HB1.out HB1.out.size (below_then HBQ.out HBQ.out.size (below_drew1 (Below.refl _ _)))⟩
                    · have e3 : decide ((g.terms.length : Int) + (g.names.length : Int) ≤ x.left) = false:=decide_eq_false h3
                      by_cases h4 : (8 : Int) < (x.right.length : Int)
                      · have e4 : decide ((8 : Int) < (x.right.length : Int)) = true:=decide_eq_true h4
                        go_wp2
                        simp only [← hwq]
                        refine start_ (n:=34) (S:=fun w' => Below wq.heap.size wq w') (ds:=[]) (lb 34 0x0) (by kernel_rfl) rfl (by kernel_rfl) (below_drew1 (Below.refl _ _)) (fun hHeld => ?_)
                        refine pu_ ?_ ?_ 0 (some 101) (lb 34 0x1) ?_
                        refine pu_ ?_ ?_ 2 (some 103) (lb 34 0x5) ?_
                        refine ta_ ?_ ?_ 1 (some 102) (lb 34 0x7) hHeld ?_ (y:=by rintro w' hS;have d2:=cell_at hS P2Q.out;have d0:=cell_at hS Q0.out;have d1:=cell_at hS Q1.out;go_simp;with_reducible rfl)
                        refine pu_ ?_ ?_ 3 (some 104) (lb 34 0xf) ?_
                        refine pu_ ?_ ?_ 4 (some 105) (lb 34 0x1f) ?_
                        refine pu_ ?_ ?_ 5 (some 106) (lb 34 0x3f) ?_
                        refine pu_ ?_ ?_ 7 (some 108) (lb 34 0xbf) ?_
                        refine pu_ ?_ ?_ 8 (some 109) (lb 34 0x1bf) ?_
                        refine pu_ ?_ ?_ 9 (some 110) (lb 34 0x3bf) ?_
                        refine ta_ ?_ ?_ 6 (some 107) (lb 34 0x3ff) hHeld ?_ (y:=by rintro w' hS;have d2:=cell_at hS P2Q.out;have d0:=cell_at hS Q0.out;have d1:=cell_at hS Q1.out;go_simp;with_reducible rfl)
                        refine pu_ ?_ ?_ 10 (some 111) (lb 34 0x7ff) ?_
                        refine pu_ ?_ ?_ 11 (some 112) (lb 34 0xfff) ?_
                        refine pu_ ?_ ?_ 12 (some 113) (lb 34 0x1fff) ?_
                        refine pu_ ?_ ?_ 13 (some 114) (lb 34 0x3fff) ?_
                        refine pu_ ?_ ?_ 15 (some 116) (lb 34 0xbfff) ?_
                        refine pu_ ?_ ?_ 16 (some 117) (lb 34 0x1bfff) ?_
                        refine pu_ ?_ ?_ 17 (some 118) (lb 34 0x3bfff) ?_
                        refine ta_ ?_ ?_ 14 (some 115) (lb 34 0x3ffff) hHeld ?_ (y:=by rintro w' hS;have d2:=cell_at hS P2Q.out;have d0:=cell_at hS Q0.out;have d1:=cell_at hS Q1.out;go_simp;with_reducible rfl)
                        refine pu_ ?_ ?_ 18 (some 119) (lb 34 0x7ffff) ?_
                        refine pu_ ?_ ?_ 19 (some 120) (lb 34 0xfffff) ?_
                        refine pu_ ?_ ?_ 20 (some 121) (lb 34 0x1fffff) ?_
                        refine pu_ ?_ ?_ 21 (some 122) (lb 34 0x3fffff) ?_
                        refine ta_ ?_ ?_ 22 (some 123) (lb 34 0x7fffff) hHeld ?_ (y:=by rintro w' hS;have d2:=cell_at hS P2Q.out;have d0:=cell_at hS Q0.out;have d1:=cell_at hS Q1.out;go_simp;with_reducible rfl)
                        refine pu_ ?_ ?_ 23 (some 124) (lb 34 0xffffff) ?_
                        refine pu_ ?_ ?_ 24 (some 125) (lb 34 0x1ffffff) ?_
                        refine pu_ ?_ ?_ 25 (some 126) (lb 34 0x3ffffff) ?_
                        refine pu_ ?_ ?_ 26 (some 127) (lb 34 0x7ffffff) ?_
                        refine po_ ?_ 27 (some 128) (lb 34 0xfffffff) ?_
                        refine po_ ?_ 29 (some 130) (lb 34 0x2fffffff) ?_
                        refine po_ ?_ 28 (some 129) (lb 34 0x3fffffff) ?_
                        refine po_ ?_ 30 (some 131) (lb 34 0x7fffffff) ?_
                        refine po_ ?_ 31 (some 132) (lb 34 0xffffffff) ?_
                        refine on_ 32 (some 133) (lb 34 0x1ffffffff) (fun K hK => ?_)
                        refine off_ (by rfl) ?_
                        refine hK.out _ _ hHeld (fun hHeld => ?_)
                        clear hK K
                        refine nm_ ?_ (some 133) ?_
                        refine pu_ ?_ ?_ 33 (some 134) (lb 34 0x3ffffffff) ?_
                        refine done_ (by kernel_rfl) ?_
                        go_wp2
                        go_ret
                        exact ⟨ret_bool (good_not (fun h => by have:=GS.left_ h HGS.out hlt;rw [← HX.out] at this;exact absurd this.2.2.2.1 (by omega))).symm,below_then HB1.out HB1.out.size (below_then HBQ.out HBQ.out.size (below_drew1 (Below.refl _ _)))⟩
                      · have e4 : decide ((8 : Int) < (x.right.length : Int)) = false:=decide_eq_false h4
                        cases hh : (g.rules.take i).any fun y => decide (y = x) with
                        | true =>
                          have HHAS:=Aside0.mk hh
                          clear hh
                          go_wp2
                          simp only [← hwq]
                          refine start_ (n:=34) (S:=fun w' => Below wq.heap.size wq w') (ds:=[]) (lb 34 0x0) (by kernel_rfl) rfl (by kernel_rfl) (below_drew1 (Below.refl _ _)) (fun hHeld => ?_)
                          refine pu_ ?_ ?_ 0 (some 101) (lb 34 0x1) ?_
                          refine pu_ ?_ ?_ 2 (some 103) (lb 34 0x5) ?_
                          refine ta_ ?_ ?_ 1 (some 102) (lb 34 0x7) hHeld ?_ (y:=by rintro w' hS;have d2:=cell_at hS P2Q.out;have d0:=cell_at hS Q0.out;have d1:=cell_at hS Q1.out;go_simp;with_reducible rfl)
                          refine pu_ ?_ ?_ 3 (some 104) (lb 34 0xf) ?_
                          refine pu_ ?_ ?_ 4 (some 105) (lb 34 0x1f) ?_
                          refine pu_ ?_ ?_ 5 (some 106) (lb 34 0x3f) ?_
                          refine pu_ ?_ ?_ 7 (some 108) (lb 34 0xbf) ?_
                          refine pu_ ?_ ?_ 8 (some 109) (lb 34 0x1bf) ?_
                          refine pu_ ?_ ?_ 9 (some 110) (lb 34 0x3bf) ?_
                          refine ta_ ?_ ?_ 6 (some 107) (lb 34 0x3ff) hHeld ?_ (y:=by rintro w' hS;have d2:=cell_at hS P2Q.out;have d0:=cell_at hS Q0.out;have d1:=cell_at hS Q1.out;go_simp;with_reducible rfl)
                          refine pu_ ?_ ?_ 10 (some 111) (lb 34 0x7ff) ?_
                          refine pu_ ?_ ?_ 11 (some 112) (lb 34 0xfff) ?_
                          refine pu_ ?_ ?_ 12 (some 113) (lb 34 0x1fff) ?_
                          refine pu_ ?_ ?_ 13 (some 114) (lb 34 0x3fff) ?_
                          refine pu_ ?_ ?_ 15 (some 116) (lb 34 0xbfff) ?_
                          refine pu_ ?_ ?_ 16 (some 117) (lb 34 0x1bfff) ?_
                          refine pu_ ?_ ?_ 17 (some 118) (lb 34 0x3bfff) ?_
                          refine ta_ ?_ ?_ 14 (some 115) (lb 34 0x3ffff) hHeld ?_ (y:=by rintro w' hS;have d2:=cell_at hS P2Q.out;have d0:=cell_at hS Q0.out;have d1:=cell_at hS Q1.out;go_simp;with_reducible rfl)
                          refine pu_ ?_ ?_ 18 (some 119) (lb 34 0x7ffff) ?_
                          refine pu_ ?_ ?_ 19 (some 120) (lb 34 0xfffff) ?_
                          refine pu_ ?_ ?_ 20 (some 121) (lb 34 0x1fffff) ?_
                          refine pu_ ?_ ?_ 21 (some 122) (lb 34 0x3fffff) ?_
                          refine ta_ ?_ ?_ 22 (some 123) (lb 34 0x7fffff) hHeld ?_ (y:=by rintro w' hS;have d2:=cell_at hS P2Q.out;have d0:=cell_at hS Q0.out;have d1:=cell_at hS Q1.out;go_simp;with_reducible rfl)
                          refine pu_ ?_ ?_ 23 (some 124) (lb 34 0xffffff) ?_
                          refine pu_ ?_ ?_ 24 (some 125) (lb 34 0x1ffffff) ?_
                          refine pu_ ?_ ?_ 25 (some 126) (lb 34 0x3ffffff) ?_
                          refine pu_ ?_ ?_ 26 (some 127) (lb 34 0x7ffffff) ?_
                          refine pu_ ?_ ?_ 27 (some 128) (lb 34 0xfffffff) ?_
                          refine pu_ ?_ ?_ 29 (some 130) (lb 34 0x2fffffff) ?_
                          refine ta_ ?_ ?_ 28 (some 129) (lb 34 0x3fffffff) hHeld ?_ (y:=by rintro w' hS;have d2:=cell_at hS P2Q.out;have d0:=cell_at hS Q0.out;have d1:=cell_at hS Q1.out;go_simp;with_reducible rfl)
                          refine pu_ ?_ ?_ 30 (some 131) (lb 34 0x7fffffff) ?_
                          refine ta_ ?_ ?_ 31 (some 132) (lb 34 0xffffffff) hHeld ?_ (y:=by rintro w' hS;have d2:=cell_at hS P2Q.out;have d0:=cell_at hS Q0.out;have d1:=cell_at hS Q1.out;go_simp;with_reducible rfl)
                          refine on_ 32 (some 133) (lb 34 0x1ffffffff) (fun K hK => ?_)
                          (refine goes_ Try.func57 (by kernel_rfl) rfl #[.slice (some a3) i c3,.agg #[.int .i64 x.left,.slice R x.right.length cr]] (by rfl) rfl rfl (by simp [Act.eval]) ?_;refine (has1_c (some a3) R c3 cr i (g.rules.take i) x _ (C_take' (Kd.C_below HG.out.rules (below_then HBQ.out HBQ.out.size hHeld)) (Nat.le_of_lt hlt)) (Kd.C_below KXR.out (below_then HBQ.out HBQ.out.size hHeld))).mono ?_;rw [HHAS.out];rintro e w5 ⟨rfl,hb5⟩;refine ⟨_,rfl,?_⟩;have HB5:=Aside0.mk (below_then HBQ.out HBQ.out.size (below_then hHeld hHeld.size hb5));have HQ5:=Aside0.mk (below_then hHeld hHeld.size hb5);clear hb5;refine hK.out _ _ HQ5.out (fun hHeld => ?_))
                          clear hK K
                          refine nm_ ?_ (some 133) ?_
                          refine pu_ ?_ ?_ 33 (some 134) (lb 34 0x3ffffffff) ?_
                          refine done_ (by kernel_rfl) ?_
                          go_wp2
                          go_ret
                          exact ⟨ret_bool (good_not (fun h => by have:=GS.left_ h HGS.out hlt;rw [← HX.out] at this;exact absurd this.2.2.2.2.1 (by rw [HHAS.out];decide))).symm,below_then HB1.out HB1.out.size (HB5.out)⟩
                        | false =>
                          have HHAS:=Aside0.mk hh
                          clear hh
                          go_wp2
                          simp only [← hwq]
                          refine start_ (n:=34) (S:=fun w' => Below wq.heap.size wq w') (ds:=[]) (lb 34 0x0) (by kernel_rfl) rfl (by kernel_rfl) (below_drew1 (Below.refl _ _)) (fun hHeld => ?_)
                          refine pu_ ?_ ?_ 0 (some 101) (lb 34 0x1) ?_
                          refine pu_ ?_ ?_ 2 (some 103) (lb 34 0x5) ?_
                          refine ta_ ?_ ?_ 1 (some 102) (lb 34 0x7) hHeld ?_ (y:=by rintro w' hS;have d2:=cell_at hS P2Q.out;have d0:=cell_at hS Q0.out;have d1:=cell_at hS Q1.out;go_simp;with_reducible rfl)
                          refine pu_ ?_ ?_ 3 (some 104) (lb 34 0xf) ?_
                          refine pu_ ?_ ?_ 4 (some 105) (lb 34 0x1f) ?_
                          refine pu_ ?_ ?_ 5 (some 106) (lb 34 0x3f) ?_
                          refine pu_ ?_ ?_ 7 (some 108) (lb 34 0xbf) ?_
                          refine pu_ ?_ ?_ 8 (some 109) (lb 34 0x1bf) ?_
                          refine pu_ ?_ ?_ 9 (some 110) (lb 34 0x3bf) ?_
                          refine ta_ ?_ ?_ 6 (some 107) (lb 34 0x3ff) hHeld ?_ (y:=by rintro w' hS;have d2:=cell_at hS P2Q.out;have d0:=cell_at hS Q0.out;have d1:=cell_at hS Q1.out;go_simp;with_reducible rfl)
                          refine pu_ ?_ ?_ 10 (some 111) (lb 34 0x7ff) ?_
                          refine pu_ ?_ ?_ 11 (some 112) (lb 34 0xfff) ?_
                          refine pu_ ?_ ?_ 12 (some 113) (lb 34 0x1fff) ?_
                          refine pu_ ?_ ?_ 13 (some 114) (lb 34 0x3fff) ?_
                          refine pu_ ?_ ?_ 15 (some 116) (lb 34 0xbfff) ?_
                          refine pu_ ?_ ?_ 16 (some 117) (lb 34 0x1bfff) ?_
                          refine pu_ ?_ ?_ 17 (some 118) (lb 34 0x3bfff) ?_
                          refine ta_ ?_ ?_ 14 (some 115) (lb 34 0x3ffff) hHeld ?_ (y:=by rintro w' hS;have d2:=cell_at hS P2Q.out;have d0:=cell_at hS Q0.out;have d1:=cell_at hS Q1.out;go_simp;with_reducible rfl)
                          refine pu_ ?_ ?_ 18 (some 119) (lb 34 0x7ffff) ?_
                          refine pu_ ?_ ?_ 19 (some 120) (lb 34 0xfffff) ?_
                          refine pu_ ?_ ?_ 20 (some 121) (lb 34 0x1fffff) ?_
                          refine pu_ ?_ ?_ 21 (some 122) (lb 34 0x3fffff) ?_
                          refine ta_ ?_ ?_ 22 (some 123) (lb 34 0x7fffff) hHeld ?_ (y:=by rintro w' hS;have d2:=cell_at hS P2Q.out;have d0:=cell_at hS Q0.out;have d1:=cell_at hS Q1.out;go_simp;with_reducible rfl)
                          refine pu_ ?_ ?_ 23 (some 124) (lb 34 0xffffff) ?_
                          refine pu_ ?_ ?_ 24 (some 125) (lb 34 0x1ffffff) ?_
                          refine pu_ ?_ ?_ 25 (some 126) (lb 34 0x3ffffff) ?_
                          refine pu_ ?_ ?_ 26 (some 127) (lb 34 0x7ffffff) ?_
                          refine pu_ ?_ ?_ 27 (some 128) (lb 34 0xfffffff) ?_
                          refine pu_ ?_ ?_ 29 (some 130) (lb 34 0x2fffffff) ?_
                          refine ta_ ?_ ?_ 28 (some 129) (lb 34 0x3fffffff) hHeld ?_ (y:=by rintro w' hS;have d2:=cell_at hS P2Q.out;have d0:=cell_at hS Q0.out;have d1:=cell_at hS Q1.out;go_simp;with_reducible rfl)
                          refine pu_ ?_ ?_ 30 (some 131) (lb 34 0x7fffffff) ?_
                          refine ta_ ?_ ?_ 31 (some 132) (lb 34 0xffffffff) hHeld ?_ (y:=by rintro w' hS;have d2:=cell_at hS P2Q.out;have d0:=cell_at hS Q0.out;have d1:=cell_at hS Q1.out;go_simp;with_reducible rfl)
                          refine on_ 32 (some 133) (lb 34 0x1ffffffff) (fun K hK => ?_)
                          (refine goes_ Try.func57 (by kernel_rfl) rfl #[.slice (some a3) i c3,.agg #[.int .i64 x.left,.slice R x.right.length cr]] (by rfl) rfl rfl (by simp [Act.eval]) ?_;refine (has1_c (some a3) R c3 cr i (g.rules.take i) x _ (C_take' (Kd.C_below HG.out.rules (below_then HBQ.out HBQ.out.size hHeld)) (Nat.le_of_lt hlt)) (Kd.C_below KXR.out (below_then HBQ.out HBQ.out.size hHeld))).mono ?_;rw [HHAS.out];rintro e w5 ⟨rfl,hb5⟩;refine ⟨_,rfl,?_⟩;have HB5:=Aside0.mk (below_then HBQ.out HBQ.out.size (below_then hHeld hHeld.size hb5));have HQ5:=Aside0.mk (below_then hHeld hHeld.size hb5);clear hb5;refine hK.out _ _ HQ5.out (fun hHeld => ?_))
                          clear hK K
                          refine nm_ ?_ (some 133) ?_
                          refine pu_ ?_ ?_ 33 (some 134) (lb 34 0x3ffffffff) ?_
                          refine done_ (by kernel_rfl) ?_
                          have y0:=cell_at HQ5.out Q0.out
                          have y3:=cell_at HQ5.out Q1.out
                          by_cases h5 : x.left = (g.terms.length : Int) + (nm : Int)
                          · have b5 : (x.left == (g.terms.length : Int) + (nm : Int)) = true:=by rw [h5];simp
                            have H5:=Aside0.mk h5
                            clear h5 y1 y2 z2
                            go_wp2
                            have z1:=cell_at HQ5.out Q1.out
                            go_loop [11,8] (fun kv tv => ∃ k tm' : Nat,k ≤ x.right.length ∧ kv = .int .i64 k ∧ tv = .int .i64 tm' ∧ tm' ≤ tm + k ∧ Aside0 (risS ((x.right.take k).filter (termF g)) tm = some (tm' : Int)) ∧ Aside0 (∀ s ∈ x.right.take k,0 ≤ s ∧ s < (g.terms.length : Int) + g.names.length)) (fun kv _ => x.right.length - (intOf kv).toNat)
                            case atStart => exact ⟨0,tm,Nat.zero_le _,rfl,rfl,by omega,⟨rfl⟩,⟨fun s hs => by simp at hs⟩⟩
                            case round =>
                              obtain ⟨k,tm',hk,rfl,rfl,htm',HT,HM⟩:=hrel
                              by_cases hkl : k < x.right.length
                              · obtain ⟨xd,eX,hxv⟩:=at_int KXR.out k hkl
                                subst eX
                                have hxv5:=cell_at HB5.out hxv
                                obtain ⟨s,hs⟩ : ∃ s,s = x.right[k]'hkl:=⟨_,rfl⟩
                                rw [← hs] at hxv5
                                have HSS:=Aside0.mk hs
                                have j3 : (0 : Int) ≤ (k : Int):=by omega
                                have j4 : (k : Int) < (x.right.length : Int):=by omega
                                have HC : Aside0 (GoodP g → 0 ≤ s ∧ s < (g.terms.length : Int) + g.names.length ∧ (s < (g.terms.length : Int) → s ≤ (tm' : Int))):=⟨fun h => by
                                  have:=(GS.left_ h HGS.out hlt).2.2.2.2.2
                                  rw [← HX.out] at this
                                  have:=this k hkl tm' HT.out
                                  rw [← HSS.out] at this
                                  exact this⟩
                                clear hs hxv
                                by_cases g1 : s < 0
                                · go_wp2
                                  go_ret
                                  exact ⟨ret_bool (good_not (fun h => by have:=HC.out h;omega)).symm,below_then HB1.out HB1.out.size HB5.out⟩
                                · by_cases g2 : (g.terms.length : Int) + (g.names.length : Int) ≤ s
                                  · go_wp2
                                    go_ret
                                    exact ⟨ret_bool (good_not (fun h => by have:=HC.out h;omega)).symm,below_then HB1.out HB1.out.size HB5.out⟩
                                  · by_cases g3 : s < (g.terms.length : Int)
                                    · by_cases g4 : (tm' : Int) < s
                                      · go_wp2
                                        go_ret
                                        exact ⟨ret_bool (good_not (fun h => by have:=HC.out h;omega)).symm,below_then HB1.out HB1.out.size HB5.out⟩
                                      · have hf:=filter_succ (p:=termF g) hkl
                                        rw [← HSS.out,if_pos (show termF g s = true from decide_eq_true ⟨by omega,g3⟩)] at hf
                                        have HF:=Aside0.mk hf
                                        clear hf
                                        by_cases g5 : s = (tm' : Int)
                                        · have b5 : (s == (tm' : Int)) = true:=by rw [g5];simp
                                          have H5:=Aside0.mk g5
                                          clear g5
                                          go_wp2
                                          go_round
                                          case rel => exact ⟨k + 1,tm' + 1,by omega,by go_num,by go_num,by omega,⟨by rw [HF.out,risS_append,HT.out];show risS [s] _ = _;rw [risS_one (by have:=H5.out;omega),if_pos H5.out];congr 1⟩,⟨fun y hy => by
                                            rw [List.take_succ_eq_append_getElem hkl] at hy
                                            rcases List.mem_append.1 hy with hy | hy
                                            · exact HM.out y hy
                                            · rw [List.mem_singleton.1 hy,← HSS.out];omega⟩⟩
                                          case measure => simp [intOf];omega
                                        · have b5 : (s == (tm' : Int)) = false:=by rw [beq_eq_false_iff_ne];exact g5
                                          have H5:=Aside0.mk g5
                                          clear g5
                                          go_wp2
                                          go_round
                                          case rel => exact ⟨k + 1,tm',by omega,by go_num,rfl,by omega,⟨by rw [HF.out,risS_append,HT.out];show risS [s] _ = _;rw [risS_one (by omega),if_neg H5.out]⟩,⟨fun y hy => by
                                            rw [List.take_succ_eq_append_getElem hkl] at hy
                                            rcases List.mem_append.1 hy with hy | hy
                                            · exact HM.out y hy
                                            · rw [List.mem_singleton.1 hy,← HSS.out];omega⟩⟩
                                          case measure => simp [intOf];omega
                                    · have hf:=filter_succ (p:=termF g) hkl
                                      rw [← HSS.out,if_neg (show ¬ termF g s = true by rw [show termF g s = false from decide_eq_false (by omega)];decide),List.append_nil] at hf
                                      have HF:=Aside0.mk hf
                                      clear hf
                                      go_wp2
                                      all_goals
                                        go_round
                                        case rel => exact ⟨k + 1,tm',by omega,by go_num,rfl,by omega,⟨by rw [HF.out];exact HT.out⟩,⟨fun y hy => by
                                          rw [List.take_succ_eq_append_getElem hkl] at hy
                                          rcases List.mem_append.1 hy with hy | hy
                                          · exact HM.out y hy
                                          · rw [List.mem_singleton.1 hy,← HSS.out];omega⟩⟩
                                        case measure => simp [intOf];omega
                              · obtain rfl : k = x.right.length:=by omega
                                rw [List.take_length] at HT HM
                                have hnx:=GS.next (tm':=tm') HGS.out hlt (by rw [← HX.out];omega) (by rw [← HX.out];omega) (by rw [← HX.out];omega) (by rw [← HX.out];omega) (by rw [← HX.out];exact HHAS.out) (by rw [← HX.out];exact HM.out) (by rw [← HX.out];exact HT.out)
                                rw [← HX.out,if_pos H5.out] at hnx
                                have HNX:=Aside0.mk hnx
                                clear hnx
                                go_wp2
                                go_roundw
                                case rel => exact ⟨i + 1,nm + 1,tm',by omega,by go_num,by go_num,rfl,by omega,by omega,HB5,HNX⟩
                                case measure => simp [intOf];omega
                          · have b5 : (x.left == (g.terms.length : Int) + (nm : Int)) = false:=by rw [beq_eq_false_iff_ne];exact h5
                            have H5:=Aside0.mk h5
                            clear h5 y1 y2 z2
                            go_wp2
                            have z1:=cell_at HQ5.out Q1.out
                            go_loop [11,8] (fun kv tv => ∃ k tm' : Nat,k ≤ x.right.length ∧ kv = .int .i64 k ∧ tv = .int .i64 tm' ∧ tm' ≤ tm + k ∧ Aside0 (risS ((x.right.take k).filter (termF g)) tm = some (tm' : Int)) ∧ Aside0 (∀ s ∈ x.right.take k,0 ≤ s ∧ s < (g.terms.length : Int) + g.names.length)) (fun kv _ => x.right.length - (intOf kv).toNat)
                            case atStart => exact ⟨0,tm,Nat.zero_le _,rfl,rfl,by omega,⟨rfl⟩,⟨fun s hs => by simp at hs⟩⟩
                            case round =>
                              obtain ⟨k,tm',hk,rfl,rfl,htm',HT,HM⟩:=hrel
                              by_cases hkl : k < x.right.length
                              · obtain ⟨xd,eX,hxv⟩:=at_int KXR.out k hkl
                                subst eX
                                have hxv5:=cell_at HB5.out hxv
                                obtain ⟨s,hs⟩ : ∃ s,s = x.right[k]'hkl:=⟨_,rfl⟩
                                rw [← hs] at hxv5
                                have HSS:=Aside0.mk hs
                                have j3 : (0 : Int) ≤ (k : Int):=by omega
                                have j4 : (k : Int) < (x.right.length : Int):=by omega
                                have HC : Aside0 (GoodP g → 0 ≤ s ∧ s < (g.terms.length : Int) + g.names.length ∧ (s < (g.terms.length : Int) → s ≤ (tm' : Int))):=⟨fun h => by
                                  have:=(GS.left_ h HGS.out hlt).2.2.2.2.2
                                  rw [← HX.out] at this
                                  have:=this k hkl tm' HT.out
                                  rw [← HSS.out] at this
                                  exact this⟩
                                clear hs hxv
                                by_cases g1 : s < 0
                                · go_wp2
                                  go_ret
                                  exact ⟨ret_bool (good_not (fun h => by have:=HC.out h;omega)).symm,below_then HB1.out HB1.out.size HB5.out⟩
                                · by_cases g2 : (g.terms.length : Int) + (g.names.length : Int) ≤ s
                                  · go_wp2
                                    go_ret
                                    exact ⟨ret_bool (good_not (fun h => by have:=HC.out h;omega)).symm,below_then HB1.out HB1.out.size HB5.out⟩
                                  · by_cases g3 : s < (g.terms.length : Int)
                                    · by_cases g4 : (tm' : Int) < s
                                      · go_wp2
                                        go_ret
                                        exact ⟨ret_bool (good_not (fun h => by have:=HC.out h;omega)).symm,below_then HB1.out HB1.out.size HB5.out⟩
                                      · have hf:=filter_succ (p:=termF g) hkl
                                        rw [← HSS.out,if_pos (show termF g s = true from decide_eq_true ⟨by omega,g3⟩)] at hf
                                        have HF:=Aside0.mk hf
                                        clear hf
                                        by_cases g5 : s = (tm' : Int)
                                        · have b5 : (s == (tm' : Int)) = true:=by rw [g5];simp
                                          have H5:=Aside0.mk g5
                                          clear g5
                                          go_wp2
                                          go_round
                                          case rel => exact ⟨k + 1,tm' + 1,by omega,by go_num,by go_num,by omega,⟨by rw [HF.out,risS_append,HT.out];show risS [s] _ = _;rw [risS_one (by have:=H5.out;omega),if_pos H5.out];congr 1⟩,⟨fun y hy => by
                                            rw [List.take_succ_eq_append_getElem hkl] at hy
                                            rcases List.mem_append.1 hy with hy | hy
                                            · exact HM.out y hy
                                            · rw [List.mem_singleton.1 hy,← HSS.out];omega⟩⟩
                                          case measure => simp [intOf];omega
                                        · have b5 : (s == (tm' : Int)) = false:=by rw [beq_eq_false_iff_ne];exact g5
                                          have H5:=Aside0.mk g5
                                          clear g5
                                          go_wp2
                                          go_round
                                          case rel => exact ⟨k + 1,tm',by omega,by go_num,rfl,by omega,⟨by rw [HF.out,risS_append,HT.out];show risS [s] _ = _;rw [risS_one (by omega),if_neg H5.out]⟩,⟨fun y hy => by
                                            rw [List.take_succ_eq_append_getElem hkl] at hy
                                            rcases List.mem_append.1 hy with hy | hy
                                            · exact HM.out y hy
                                            · rw [List.mem_singleton.1 hy,← HSS.out];omega⟩⟩
                                          case measure => simp [intOf];omega
                                    · have hf:=filter_succ (p:=termF g) hkl
                                      rw [← HSS.out,if_neg (show ¬ termF g s = true by rw [show termF g s = false from decide_eq_false (by omega)];decide),List.append_nil] at hf
                                      have HF:=Aside0.mk hf
                                      clear hf
                                      go_wp2
                                      all_goals
                                        go_round
                                        case rel => exact ⟨k + 1,tm',by omega,by go_num,rfl,by omega,⟨by rw [HF.out];exact HT.out⟩,⟨fun y hy => by
                                          rw [List.take_succ_eq_append_getElem hkl] at hy
                                          rcases List.mem_append.1 hy with hy | hy
                                          · exact HM.out y hy
                                          · rw [List.mem_singleton.1 hy,← HSS.out];omega⟩⟩
                                        case measure => simp [intOf];omega
                              · obtain rfl : k = x.right.length:=by omega
                                rw [List.take_length] at HT HM
                                have hnx:=GS.next (tm':=tm') HGS.out hlt (by rw [← HX.out];omega) (by rw [← HX.out];omega) (by rw [← HX.out];omega) (by rw [← HX.out];omega) (by rw [← HX.out];exact HHAS.out) (by rw [← HX.out];exact HM.out) (by rw [← HX.out];exact HT.out)
                                rw [← HX.out,if_neg H5.out] at hnx
                                have HNX:=Aside0.mk hnx
                                clear hnx
                                go_wp2
                                go_roundw
                                case rel => exact ⟨i + 1,nm,tm',by omega,by go_num,by go_num,rfl,by omega,by omega,HB5,HNX⟩
                                case measure => simp [intOf];omega
              · obtain rfl : i = g.rules.length:=by omega
                have HE:=Aside0.mk (good_end HGS.out HNO.out HTO.out n4 n5)
                by_cases e1 : nm = g.names.length
                · have b1 : ((nm : Int) == (g.names.length : Int)) = true:=by rw [e1];simp
                  by_cases e2 : tm = g.terms.length
                  · have b2 : ((tm : Int) == (g.terms.length : Int)) = true:=by rw [e2];simp
                    have HE1:=Aside0.mk e1
                    have HE2:=Aside0.mk e2
                    clear e1 e2
                    go_wp2
                    go_ret
                    exact ⟨ret_bool (by rw [HE.out,decide_eq_true HE1.out,decide_eq_true HE2.out];rfl),below_then HB1.out HB1.out.size HB.out⟩
                  · have b2 : ((tm : Int) == (g.terms.length : Int)) = false:=by rw [beq_eq_false_iff_ne];omega
                    have HE2:=Aside0.mk e2
                    have HE1:=Aside0.mk e1
                    clear e1 e2
                    go_wp2
                    go_ret
                    exact ⟨ret_bool (by rw [HE.out,decide_eq_false HE2.out,Bool.and_false]),below_then HB1.out HB1.out.size HB.out⟩
                · have b1 : ((nm : Int) == (g.names.length : Int)) = false:=by rw [beq_eq_false_iff_ne];omega
                  have HE1:=Aside0.mk e1
                  clear e1
                  go_wp2
                  go_ret
                  exact ⟨ret_bool (by rw [HE.out,decide_eq_false HE1.out,Bool.false_and]),below_then HB1.out HB1.out.size HB.out⟩
  · have HF : Aside0 (goodF g = false):=⟨good_not (fun h => hok ⟨((names_iff g).1 h.names).2,((terms_iff g).1 h.terms).2,h.one,h.most⟩)⟩
    by_cases m1 : (g.names.length : Int) < 1
    · go_wp2
      go_ret
      exact ⟨ret_bool HF.out.symm,below_then HB1.out HB1.out.size (below_drew1 (Below.refl _ _))⟩
    · by_cases m2 : (40 : Int) < (g.names.length : Int)
      · go_wp2
        go_ret
        exact ⟨ret_bool HF.out.symm,below_then HB1.out HB1.out.size (below_drew1 (Below.refl _ _))⟩
      · by_cases m3 : (40 : Int) < (g.terms.length : Int)
        · go_wp2
          go_ret
          exact ⟨ret_bool HF.out.symm,below_then HB1.out HB1.out.size (below_drew1 (Below.refl _ _))⟩
        · by_cases m4 : (g.rules.length : Int) < 1
          · go_wp2
            go_ret
            exact ⟨ret_bool HF.out.symm,below_then HB1.out HB1.out.size (below_drew1 (Below.refl _ _))⟩
          · have m5 : (60 : Int) < (g.rules.length : Int):=by omega
            go_wp2
            go_ret
            exact ⟨ret_bool HF.out.symm,below_then HB1.out HB1.out.size (below_drew1 (Below.refl _ _))⟩
end Go.Proofs.Ytmkgcjhimajgiaa


set_option linter.unusedVariables false
set_option linter.unusedSimpArgs false
namespace Go.Proofs.Ytmkgcjhimajgiaa
open Go.RowKit Go.Proofs.YtmkgcjhimajgiaaW.PrintWords Go.Proofs.YtmkgcjhimajgiaaW.PrintLast

/-- Two rows that are being made,and a block that may have been made. -/
structure OF (w W : World) (g : Gram) (A1 A2 A3 : Option Addr) (c1 c2 c3 : Nat) (v : Value) (xs : List ByteArray) (u : Value) (ys : List ByteArray) (ob : Option Nat) : Prop where
  below : Below w.heap.size w W
  p : W.heap[w.heap.size]? = some (.cells #[.slice A1 g.terms.length c1,.slice A2 g.names.length c2,.slice A3 g.rules.length c3] 25 (0,0))
  r : W.heap[w.heap.size + 1]? = some (.cells #[.slice none 0 0,.slice none 0 0,.slice none 0 0] 25 (0,0))
  rv : kStr.R 9 W w.heap.size (fun k => some k ≠ ob ∧ some k ≠ u.ownBlock) v xs
  ru : kStr.R 9 W w.heap.size (fun k => some k ≠ ob ∧ some k ≠ v.ownBlock) u ys
  cell : ∀ b,ob = some b → w.heap.size + 1 < b ∧ W.heap[b]? = some (.cells #[.slice none 0 0,.slice none 0 0,.slice none 0 0] 25 (0,0))
section
variable {w W W1 : World} {g : Gram} {A1 A2 A3 : Option Addr} {c1 c2 c3 : Nat} {v u v1 : Value} {xs ys zs : List ByteArray} {ob : Option Nat}
end
end Go.Proofs.Ytmkgcjhimajgiaa

