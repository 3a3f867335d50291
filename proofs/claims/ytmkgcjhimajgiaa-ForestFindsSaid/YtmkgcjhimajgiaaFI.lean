/- Contracts of functions of the program, and plain laws (texts H9, H10, H11, H12, H13, H14), joined: each theorem says what it proves. -/
import Derived.Test.YtmkgcjhimajgiaaFH
import Derived.Test.YtmkgcjhimajgiaaFA
import Derived.Test.YtmkgcjhimajgiaaFK
import Derived.Test.YtmkgcjhimajgiaaFN
set_option linter.unusedVariables false
set_option linter.unusedSimpArgs false
namespace Go.Proofs.Ytmkgcjhimajgiaa
open Go.RowKit Go.Proofs.YtmkgcjhimajgiaaW.PrintWords Go.Proofs.YtmkgcjhimajgiaaW.PrintLast Go.Conc

open Classical in
noncomputable def symV (g : Gram) (w : List Int) (s i j : Int) : Bool:=decide (0 ≤ i ∧ 0 ≤ j ∧ Ch g w (.sym s i.toNat j.toNat))
open Classical in
noncomputable def partV (g : Gram) (w : List Int) (r d i j : Int) : Bool:=decide (0 ≤ r ∧ 0 ≤ d ∧ 0 ≤ i ∧ 0 ≤ j ∧ Ch g w (.part r.toNat d.toNat i.toNat j.toNat))
theorem symV_iff {g : Gram} {w : List Int} {s i j : Int} : symV g w s i j = true ↔ 0 ≤ i ∧ 0 ≤ j ∧ Ch g w (.sym s i.toNat j.toNat):=by unfold symV;simp only [decide_eq_true_eq]
theorem partV_iff {g : Gram} {w : List Int} {r d i j : Int} : partV g w r d i j = true ↔ 0 ≤ r ∧ 0 ≤ d ∧ 0 ≤ i ∧ 0 ≤ j ∧ Ch g w (.part r.toNat d.toNat i.toNat j.toNat):=by unfold partV;simp only [decide_eq_true_eq]
theorem symV_nat {g : Gram} {w : List Int} {s : Int} {i j : Nat} : symV g w s i j = true ↔ Ch g w (.sym s i j):=by rw [symV_iff];simp
theorem partV_nat {g : Gram} {w : List Int} {r d i j : Nat} : partV g w r d i j = true ↔ Ch g w (.part r d i j):=by rw [partV_iff];simp
theorem symV_out {g : Gram} {w : List Int} {s i j : Int} (h : (decide (0 ≤ i) && decide (0 ≤ j) && decide (i ≤ w.length) && decide (j ≤ w.length)) = false) : symV g w s i j = false:=by
  rw [← Bool.not_eq_true,symV_iff]
  rintro ⟨h1,h2,h3⟩
  have:=h3.ok
  simp only [Itm.ok] at this
  simp only [Bool.and_eq_false_iff,decide_eq_false_iff_not] at h
  omega
theorem nameF_none {g : Gram} {s : Int} (h : nameF g s = none) : ¬ (0 ≤ s ∧ s < nsym g):=by
  rintro ⟨h1,h2⟩
  unfold nameF nsym at *
  rw [if_neg (by omega)] at h
  split at h
  · rw [List.getElem?_eq_none_iff] at h;omega
  · rw [List.getElem?_eq_none_iff] at h;omega
theorem nameF_some {g : Gram} {s : Int} {x : ByteArray} (h : nameF g s = some x) : 0 ≤ s ∧ s < nsym g:=by
  unfold nameF nsym at *
  by_cases h0 : s < 0
  · rw [if_pos h0] at h;cases h
  · rw [if_neg h0] at h
    split at h
    · have:=(List.getElem?_eq_some_iff.1 h).1;omega
    · have:=(List.getElem?_eq_some_iff.1 h).1;omega
theorem nameS_v (g : Gram) (A1 A2 A3 : Option Addr) (c1 c2 c3 : Nat) (sym : Int) (w : World) (hg : RepG w g A1 A2 A3 c1 c2 c3) (hsz : g.terms.length + g.names.length ≤ 4000000000000000) (hi : -9223372036854775808 ≤ sym ∧ sym ≤ 9223372036854775807) {s : ByteArray} (hs : nameF g sym = some s) :
    Calls Try.prog 53 #[.agg #[.slice A1 g.terms.length c1,.slice A2 g.names.length c2,.slice A3 g.rules.length c3],.int .i64 sym] w fun e w' => e = .returned (.tuple #[.string s,.bool true]) ∧ Below w.heap.size w w':=by
  have:=name_c g A1 A2 A3 c1 c2 c3 sym w hg hsz hi
  rw [hs] at this
  exact this
theorem nameN_v (g : Gram) (A1 A2 A3 : Option Addr) (c1 c2 c3 : Nat) (sym : Int) (w : World) (hg : RepG w g A1 A2 A3 c1 c2 c3) (hsz : g.terms.length + g.names.length ≤ 4000000000000000) (hi : -9223372036854775808 ≤ sym ∧ sym ≤ 9223372036854775807) (hs : nameF g sym = none) :
    Calls Try.prog 53 #[.agg #[.slice A1 g.terms.length c1,.slice A2 g.names.length c2,.slice A3 g.rules.length c3],.int .i64 sym] w fun e w' => e = .returned (.tuple #[.string ⟨#[]⟩,.bool false]) ∧ Below w.heap.size w w':=by
  have:=name_c g A1 A2 A3 c1 c2 c3 sym w hg hsz hi
  rw [hs] at this
  exact this
set_option maxRecDepth 100000 in
set_option maxHeartbeats 8000000 in
theorem symM_c (k : CB) (g : Gram) (wd : List Int) (s i j : Int) (W : World) (h : CF W k g wd) (hs : -9223372036854775808 ≤ s ∧ s ≤ 9223372036854775807) {v : Bool} (hv : symV g wd s i j = v) :
    Calls Try.prog 26 #[.pointer (some ⟨k.b,0,none⟩),.agg #[.int .i64 s,.int .i64 i,.int .i64 j]] W fun e W' => e = .returned (.bool v) ∧ Below W.heap.size W W':=by
  obtain ⟨w0,vq,st,r,hcm,htab,hpb⟩:=h
  subst hv
  obtain ⟨x0,hx0⟩ : ∃ x0,x0 = W.heap.size:=⟨_,rfl⟩
  obtain ⟨W1,hW1⟩ : ∃ W1,W1 = W.alloc (.cells #[.int .i64 s,.int .i64 i,.int .i64 j] 28 (0,0)):=⟨_,rfl⟩
  have HB0:=Aside0.mk (show Below W.heap.size W W1 from by rw [hW1];exact below_alloc (Below.refl _ _) _)
  have H:=Aside0.mk (hcm.below_ HB0.out)
  have HX:=Aside0.mk (show W1.heap[x0]? = some (.cells #[.int .i64 s,.int .i64 i,.int .i64 j] 28 (0,0)) from by rw [hW1,hx0];exact blk_new W _)
  have hnn:=hpb.nn
  obtain ⟨q1,q2,q3,q4⟩:=goodF_small hpb.gd
  have HPB:=Aside0.mk hpb
  have HT:=Aside0.mk htab
  have HS:=Aside0.mk hs
  have HG:=Aside0.mk (H.out.g.below_ H.out.below)
  have HX0:=Lib.hid hx0
  have HW:=Lib.hid hW1
  have x1 : W1.cell? ⟨x0,1,none⟩ = some (.int .i64 i):=(blk_cell HX.out 1).trans rfl
  have x2 : W1.cell? ⟨x0,2,none⟩ = some (.int .i64 j):=(blk_cell HX.out 2).trans rfl
  have o3:=Aside0.mk (show W1.cell? ⟨k.b,3,none⟩ = some (.int .i64 (wd.length : Int)) from (blk_cell H.out.o 3).trans rfl)
  have hslt : x0 = W.heap.size:=hx0
  rw [HX0.out,HW.out] at x1 x2
  clear hcm htab hpb hs hslt hx0 hW1
  cases hin : (decide (0 ≤ i) && decide (0 ≤ j) && decide (i ≤ wd.length) && decide (j ≤ wd.length))
  · have HE:=Aside0.mk (symV_out (g:=g) (s:=s) hin)
    have HIN:=Aside0.mk hin
    clear hin
    rw [HE.out]
    go_enter Try.func26,Try.ntmps26
    go_wp2_with (go_at_call 51;go_loud (simp only [← HX0.out,← HW.out];refine (in_c k.b wd.length i j _ o3.out HIN.out).mono ?_;rintro e w9 ⟨rfl,rfl⟩))
    go_ret
    exact ⟨rfl,HB0.out⟩
  · have HIN:=Aside0.mk hin
    simp only [Bool.and_eq_true,decide_eq_true_eq] at hin
    obtain ⟨⟨⟨h1,h2⟩,h3⟩,h4⟩:=hin
    obtain ⟨ii,rfl⟩:=Int.eq_ofNat_of_zero_le h1
    obtain ⟨jj,rfl⟩:=Int.eq_ofNat_of_zero_le h2
    have hii : ii ≤ wd.length:=by omega
    have hjj : jj ≤ wd.length:=by omega
    have HK:=Aside0.mk H.out.o
    cases hnm : nameF g s with
    | none =>
      have HE : Aside0 (symV g wd s ii jj = false):=⟨by
        rw [← Bool.not_eq_true,symV_nat]
        intro hc
        exact nameF_none hnm (ch_in HPB.out.gd hc)⟩
      have HNM:=Lib.hid hnm
      clear hnm
      rw [HE.out]
      go_enter Try.func26,Try.ntmps26
      go_wp2_with (go_at_call 51;go_loud (simp only [← HX0.out,← HW.out];refine (in_c k.b wd.length ii jj _ o3.out HIN.out).mono ?_;rintro e w9 ⟨rfl,rfl⟩))
      refine start_ (n:=12) (S:=fun w' => Below W1.heap.size W1 w') (ds:=[]) (lb 12 0x0) (by kernel_rfl) rfl (by kernel_rfl) (below_drew1 (Below.refl _ _)) (fun hHeld => ?_)
      refine pu_ ?_ ?_ 0 (some 19) (lb 12 0x1) ?_
      refine pu_ ?_ ?_ 1 (some 20) (lb 12 0x3) ?_
      refine pu_ ?_ ?_ 2 (some 21) (lb 12 0x7) ?_
      refine pu_ ?_ ?_ 4 (some 23) (lb 12 0x17) ?_
      refine ta_ ?_ ?_ 3 (some 22) (lb 12 0x1f) hHeld ?_ (y:=by rintro w' hS;have d0:=(blk_cell (blk_below HK.out hS) 0).trans rfl;have d1:=(blk_cell (blk_below HK.out hS) 1).trans rfl;have d2:=(blk_cell (blk_below HK.out hS) 2).trans rfl;have d3:=(blk_cell (blk_below HK.out hS) 3).trans rfl;have d4:=(blk_cell (blk_below HK.out hS) 4).trans rfl;have d5:=(blk_cell (blk_below HK.out hS) 5).trans rfl;have d6:=(blk_cell (blk_below HK.out hS) 6).trans rfl;have d7:=(blk_cell (blk_below HK.out hS) 7).trans rfl;have d8:=(blk_cell (blk_below HK.out hS) 8).trans rfl;have d9:=(blk_cell (blk_below HX.out hS) 0).trans rfl;have d10:=(blk_cell (blk_below HX.out hS) 1).trans rfl;have d11:=(blk_cell (blk_below HX.out hS) 2).trans rfl;go_simp;with_reducible rfl)
      refine ta_ ?_ ?_ 5 (some 24) (lb 12 0x3f) hHeld ?_ (y:=by rintro w' hS;have d0:=(blk_cell (blk_below HK.out hS) 0).trans rfl;have d1:=(blk_cell (blk_below HK.out hS) 1).trans rfl;have d2:=(blk_cell (blk_below HK.out hS) 2).trans rfl;have d3:=(blk_cell (blk_below HK.out hS) 3).trans rfl;have d4:=(blk_cell (blk_below HK.out hS) 4).trans rfl;have d5:=(blk_cell (blk_below HK.out hS) 5).trans rfl;have d6:=(blk_cell (blk_below HK.out hS) 6).trans rfl;have d7:=(blk_cell (blk_below HK.out hS) 7).trans rfl;have d8:=(blk_cell (blk_below HK.out hS) 8).trans rfl;have d9:=(blk_cell (blk_below HX.out hS) 0).trans rfl;have d10:=(blk_cell (blk_below HX.out hS) 1).trans rfl;have d11:=(blk_cell (blk_below HX.out hS) 2).trans rfl;go_simp;with_reducible rfl)
      refine on_ 6 (some 25) (lb 12 0x7f) (fun K hK => ?_)
      (refine goesC_ Try.func53 (by kernel_rfl) rfl (by rfl) rfl rfl (nameN_v g k.A1 k.A2 k.A3 k.c1 k.c2 k.c3 s _ (HG.out.below_ hHeld) (by omega) HS.out HNM.out) (by simp [Act.eval]) ?_;rintro e w9 ⟨rfl,hb9⟩;refine ⟨_,rfl,?_⟩;have HQ9:=Aside0.mk (below_then hHeld hHeld.size hb9);clear hb9;refine hK.out _ _ HQ9.out (fun hHeld => ?_))
      clear hK K
      refine nm_ ?_ (some 25) ?_
      refine pu_ ?_ ?_ 7 (some 18) (lb 12 0xff) ?_
      refine pu_ ?_ ?_ 8 (some 26) (lb 12 0x1ff) ?_
      refine pu_ ?_ ?_ 9 (some 27) (lb 12 0x3ff) ?_
      refine pu_ ?_ ?_ 10 (some 5) (lb 12 0x7ff) ?_
      refine pu_ ?_ ?_ 11 (some 6) (lb 12 0xfff) ?_
      refine done_ (by kernel_rfl) ?_
      rename World => W2
      have HB2:=Aside0.mk (below_then HB0.out HB0.out.size hHeld)
      have HK2:=Aside0.mk (blk_below HK.out hHeld)
      have HX2:=Aside0.mk (blk_below HX.out hHeld)
      go_upto_region 4 with (fail)
      refine start_ (n:=18) (S:=fun w' => Below W2.heap.size W2 w') (ds:=[]) (lb 18 0x0) (by kernel_rfl) rfl (by kernel_rfl) (below_drew1 (Below.refl _ _)) (fun hHeld => ?_)
      refine pu_ ?_ ?_ 0 (some 28) (lb 18 0x1) ?_
      refine pu_ ?_ ?_ 1 (some 29) (lb 18 0x3) ?_
      refine po_ ?_ 2 (some 30) (lb 18 0x7) ?_
      refine po_ ?_ 3 (some 31) (lb 18 0xf) ?_
      refine po_ ?_ 4 (some 32) (lb 18 0x1f) ?_
      refine po_ ?_ 6 (some 34) (lb 18 0x5f) ?_
      refine po_ ?_ 7 (some 35) (lb 18 0xdf) ?_
      refine po_ ?_ 9 (some 37) (lb 18 0x2df) ?_
      refine po_ ?_ 11 (some 39) (lb 18 0xadf) ?_
      refine po_ ?_ 5 (some 33) (lb 18 0xaff) ?_
      refine po_ ?_ 8 (some 36) (lb 18 0xbff) ?_
      refine po_ ?_ 10 (some 38) (lb 18 0xfff) ?_
      refine po_ ?_ 12 (some 40) (lb 18 0x1fff) ?_
      refine on_ 13 (some 41) (lb 18 0x3fff) (fun K hK => ?_)
      refine off_ (by rfl) ?_
      refine hK.out _ _ hHeld (fun hHeld => ?_)
      clear hK K
      refine nm_ ?_ (some 41) ?_
      refine po_ ?_ 14 (some 42) (lb 18 0x7fff) ?_
      refine po_ ?_ 15 (some 43) (lb 18 0xffff) ?_
      refine pu_ ?_ ?_ 16 (some 44) (lb 18 0x1ffff) ?_
      refine pu_ ?_ ?_ 17 (some 4) (lb 18 0x3ffff) ?_
      refine done_ (by kernel_rfl) ?_
      go_wp2
      go_ret
      exact ⟨rfl,below_then HB2.out HB2.out.size hHeld⟩
    | some nm =>
      have hsr:=nameF_some hnm
      have HNM:=Lib.hid hnm
      obtain ⟨sn,rfl⟩:=Int.eq_ofNat_of_zero_le hsr.1
      have hsn : sn ≤ 80:=by have:=hsr.2;unfold nsym at this;omega
      obtain ⟨v,hv⟩ : ∃ v,symV g wd (sn : Int) ii jj = v:=⟨_,rfl⟩
      rw [hv]
      obtain ⟨z,hz⟩ : ∃ z,z = atF wd.length sn ii jj:=⟨_,rfl⟩
      have hzl : z < k.ls:=by rw [hz,HPB.out.ls];exact atF_lt (by have:=hsr.2;omega) hii hjj
      have hzv : getB st.sy (z : Int) = v:=by
        rw [← hv,Bool.eq_iff_iff,symV_nat,getB_nat,hz]
        exact HT.out.sy (sn : Int) ii jj hsr.1 hsr.2 hii hjj
      have HZC:=Aside0.mk (H.out.sy.cell' (i:=z) (by rw [H.out.ls];exact hzl) hzv)
      have HZ:=Lib.hid hz
      have z2 : (z : Int) < (k.ls : Int):=by omega
      clear hnm hv hz hzv hsr
      go_enter Try.func26,Try.ntmps26
      go_wp2_with (go_at_call 51;go_loud (simp only [← HX0.out,← HW.out];refine (in_c k.b wd.length ii jj _ o3.out HIN.out).mono ?_;rintro e w9 ⟨rfl,rfl⟩))
      refine start_ (n:=12) (S:=fun w' => Below W1.heap.size W1 w') (ds:=[]) (lb 12 0x0) (by kernel_rfl) rfl (by kernel_rfl) (below_drew1 (Below.refl _ _)) (fun hHeld => ?_)
      refine pu_ ?_ ?_ 0 (some 19) (lb 12 0x1) ?_
      refine pu_ ?_ ?_ 1 (some 20) (lb 12 0x3) ?_
      refine pu_ ?_ ?_ 2 (some 21) (lb 12 0x7) ?_
      refine pu_ ?_ ?_ 4 (some 23) (lb 12 0x17) ?_
      refine ta_ ?_ ?_ 3 (some 22) (lb 12 0x1f) hHeld ?_ (y:=by rintro w' hS;have d0:=(blk_cell (blk_below HK.out hS) 0).trans rfl;have d1:=(blk_cell (blk_below HK.out hS) 1).trans rfl;have d2:=(blk_cell (blk_below HK.out hS) 2).trans rfl;have d3:=(blk_cell (blk_below HK.out hS) 3).trans rfl;have d4:=(blk_cell (blk_below HK.out hS) 4).trans rfl;have d5:=(blk_cell (blk_below HK.out hS) 5).trans rfl;have d6:=(blk_cell (blk_below HK.out hS) 6).trans rfl;have d7:=(blk_cell (blk_below HK.out hS) 7).trans rfl;have d8:=(blk_cell (blk_below HK.out hS) 8).trans rfl;have d9:=(blk_cell (blk_below HX.out hS) 0).trans rfl;have d10:=(blk_cell (blk_below HX.out hS) 1).trans rfl;have d11:=(blk_cell (blk_below HX.out hS) 2).trans rfl;go_simp;with_reducible rfl)
      refine ta_ ?_ ?_ 5 (some 24) (lb 12 0x3f) hHeld ?_ (y:=by rintro w' hS;have d0:=(blk_cell (blk_below HK.out hS) 0).trans rfl;have d1:=(blk_cell (blk_below HK.out hS) 1).trans rfl;have d2:=(blk_cell (blk_below HK.out hS) 2).trans rfl;have d3:=(blk_cell (blk_below HK.out hS) 3).trans rfl;have d4:=(blk_cell (blk_below HK.out hS) 4).trans rfl;have d5:=(blk_cell (blk_below HK.out hS) 5).trans rfl;have d6:=(blk_cell (blk_below HK.out hS) 6).trans rfl;have d7:=(blk_cell (blk_below HK.out hS) 7).trans rfl;have d8:=(blk_cell (blk_below HK.out hS) 8).trans rfl;have d9:=(blk_cell (blk_below HX.out hS) 0).trans rfl;have d10:=(blk_cell (blk_below HX.out hS) 1).trans rfl;have d11:=(blk_cell (blk_below HX.out hS) 2).trans rfl;go_simp;with_reducible rfl)
      refine on_ 6 (some 25) (lb 12 0x7f) (fun K hK => ?_)
      (refine goesC_ Try.func53 (by kernel_rfl) rfl (by rfl) rfl rfl (nameS_v g k.A1 k.A2 k.A3 k.c1 k.c2 k.c3 (sn : Int) _ (HG.out.below_ hHeld) (by omega) HS.out HNM.out) (by simp [Act.eval]) ?_;rintro e w9 ⟨rfl,hb9⟩;refine ⟨_,rfl,?_⟩;have HQ9:=Aside0.mk (below_then hHeld hHeld.size hb9);clear hb9;refine hK.out _ _ HQ9.out (fun hHeld => ?_))
      clear hK K
      refine nm_ ?_ (some 25) ?_
      refine pu_ ?_ ?_ 7 (some 18) (lb 12 0xff) ?_
      refine pu_ ?_ ?_ 8 (some 26) (lb 12 0x1ff) ?_
      refine pu_ ?_ ?_ 9 (some 27) (lb 12 0x3ff) ?_
      refine pu_ ?_ ?_ 10 (some 5) (lb 12 0x7ff) ?_
      refine pu_ ?_ ?_ 11 (some 6) (lb 12 0xfff) ?_
      refine done_ (by kernel_rfl) ?_
      rename World => W2
      have HB2:=Aside0.mk (below_then HB0.out HB0.out.size hHeld)
      have HK2:=Aside0.mk (blk_below HK.out hHeld)
      have HX2:=Aside0.mk (blk_below HX.out hHeld)
      have HZC2:=Aside0.mk (pw_cell_below hHeld HZC.out)
      go_upto_region 4 with (fail)
      refine start_ (n:=18) (S:=fun w' => Below W2.heap.size W2 w') (ds:=[]) (lb 18 0x0) (by kernel_rfl) rfl (by kernel_rfl) (below_drew1 (Below.refl _ _)) (fun hHeld => ?_)
      refine pu_ ?_ ?_ 0 (some 28) (lb 18 0x1) ?_
      refine pu_ ?_ ?_ 1 (some 29) (lb 18 0x3) ?_
      refine pu_ ?_ ?_ 2 (some 30) (lb 18 0x7) ?_
      refine pu_ ?_ ?_ 3 (some 31) (lb 18 0xf) ?_
      refine pu_ ?_ ?_ 4 (some 32) (lb 18 0x1f) ?_
      refine pu_ ?_ ?_ 6 (some 34) (lb 18 0x5f) ?_
      refine pu_ ?_ ?_ 7 (some 35) (lb 18 0xdf) ?_
      refine pu_ ?_ ?_ 9 (some 37) (lb 18 0x2df) ?_
      refine pu_ ?_ ?_ 11 (some 39) (lb 18 0xadf) ?_
      refine ta_ ?_ ?_ 5 (some 33) (lb 18 0xaff) hHeld ?_ (y:=by rintro w' hS;have d0:=(blk_cell (blk_below HK2.out hS) 0).trans rfl;have d1:=(blk_cell (blk_below HK2.out hS) 1).trans rfl;have d2:=(blk_cell (blk_below HK2.out hS) 2).trans rfl;have d3:=(blk_cell (blk_below HK2.out hS) 3).trans rfl;have d4:=(blk_cell (blk_below HK2.out hS) 4).trans rfl;have d5:=(blk_cell (blk_below HK2.out hS) 5).trans rfl;have d6:=(blk_cell (blk_below HK2.out hS) 6).trans rfl;have d7:=(blk_cell (blk_below HK2.out hS) 7).trans rfl;have d8:=(blk_cell (blk_below HK2.out hS) 8).trans rfl;have d9:=(blk_cell (blk_below HX2.out hS) 0).trans rfl;have d10:=(blk_cell (blk_below HX2.out hS) 1).trans rfl;have d11:=(blk_cell (blk_below HX2.out hS) 2).trans rfl;have d12:=cell_at hS HZC2.out;go_simp;with_reducible rfl)
      refine ta_ ?_ ?_ 8 (some 36) (lb 18 0xbff) hHeld ?_ (y:=by rintro w' hS;have d0:=(blk_cell (blk_below HK2.out hS) 0).trans rfl;have d1:=(blk_cell (blk_below HK2.out hS) 1).trans rfl;have d2:=(blk_cell (blk_below HK2.out hS) 2).trans rfl;have d3:=(blk_cell (blk_below HK2.out hS) 3).trans rfl;have d4:=(blk_cell (blk_below HK2.out hS) 4).trans rfl;have d5:=(blk_cell (blk_below HK2.out hS) 5).trans rfl;have d6:=(blk_cell (blk_below HK2.out hS) 6).trans rfl;have d7:=(blk_cell (blk_below HK2.out hS) 7).trans rfl;have d8:=(blk_cell (blk_below HK2.out hS) 8).trans rfl;have d9:=(blk_cell (blk_below HX2.out hS) 0).trans rfl;have d10:=(blk_cell (blk_below HX2.out hS) 1).trans rfl;have d11:=(blk_cell (blk_below HX2.out hS) 2).trans rfl;have d12:=cell_at hS HZC2.out;go_simp;with_reducible rfl)
      refine ta_ ?_ ?_ 10 (some 38) (lb 18 0xfff) hHeld ?_ (y:=by rintro w' hS;have d0:=(blk_cell (blk_below HK2.out hS) 0).trans rfl;have d1:=(blk_cell (blk_below HK2.out hS) 1).trans rfl;have d2:=(blk_cell (blk_below HK2.out hS) 2).trans rfl;have d3:=(blk_cell (blk_below HK2.out hS) 3).trans rfl;have d4:=(blk_cell (blk_below HK2.out hS) 4).trans rfl;have d5:=(blk_cell (blk_below HK2.out hS) 5).trans rfl;have d6:=(blk_cell (blk_below HK2.out hS) 6).trans rfl;have d7:=(blk_cell (blk_below HK2.out hS) 7).trans rfl;have d8:=(blk_cell (blk_below HK2.out hS) 8).trans rfl;have d9:=(blk_cell (blk_below HX2.out hS) 0).trans rfl;have d10:=(blk_cell (blk_below HX2.out hS) 1).trans rfl;have d11:=(blk_cell (blk_below HX2.out hS) 2).trans rfl;have d12:=cell_at hS HZC2.out;go_simp;with_reducible rfl)
      refine ta_ ?_ ?_ 12 (some 40) (lb 18 0x1fff) hHeld ?_ (y:=by rintro w' hS;have d0:=(blk_cell (blk_below HK2.out hS) 0).trans rfl;have d1:=(blk_cell (blk_below HK2.out hS) 1).trans rfl;have d2:=(blk_cell (blk_below HK2.out hS) 2).trans rfl;have d3:=(blk_cell (blk_below HK2.out hS) 3).trans rfl;have d4:=(blk_cell (blk_below HK2.out hS) 4).trans rfl;have d5:=(blk_cell (blk_below HK2.out hS) 5).trans rfl;have d6:=(blk_cell (blk_below HK2.out hS) 6).trans rfl;have d7:=(blk_cell (blk_below HK2.out hS) 7).trans rfl;have d8:=(blk_cell (blk_below HK2.out hS) 8).trans rfl;have d9:=(blk_cell (blk_below HX2.out hS) 0).trans rfl;have d10:=(blk_cell (blk_below HX2.out hS) 1).trans rfl;have d11:=(blk_cell (blk_below HX2.out hS) 2).trans rfl;have d12:=cell_at hS HZC2.out;go_simp;with_reducible rfl)
      refine on_ 13 (some 41) (lb 18 0x3fff) (fun K hK => ?_)
      (refine goesC_ Try.func46 (by kernel_rfl) rfl (by rfl) rfl rfl (at_c k.b wd.length _ _ _ sn ii jj _ (t:=97) (cs:=#[]) ((blk_cell (blk_below HK2.out hHeld) 3).trans rfl) (by omega) rfl rfl rfl (by omega) (by omega) (by omega)) (by simp [Act.eval]) ?_;rintro e w9 ⟨rfl,hb9⟩;refine ⟨_,rfl,?_⟩;have HQ9:=Aside0.mk (below_then hHeld hHeld.size hb9);simp only [← HZ.out];clear hb9;refine hK.out _ _ HQ9.out (fun hHeld => ?_))
      clear hK K
      refine nm_ ?_ (some 41) ?_
      refine pu_ ?_ ?_ 14 (some 42) (lb 18 0x7fff) ?_
      refine ta_ ?_ ?_ 15 (some 43) (lb 18 0xffff) hHeld ?_ (y:=by rintro w' hS;have d0:=(blk_cell (blk_below HK2.out hS) 0).trans rfl;have d1:=(blk_cell (blk_below HK2.out hS) 1).trans rfl;have d2:=(blk_cell (blk_below HK2.out hS) 2).trans rfl;have d3:=(blk_cell (blk_below HK2.out hS) 3).trans rfl;have d4:=(blk_cell (blk_below HK2.out hS) 4).trans rfl;have d5:=(blk_cell (blk_below HK2.out hS) 5).trans rfl;have d6:=(blk_cell (blk_below HK2.out hS) 6).trans rfl;have d7:=(blk_cell (blk_below HK2.out hS) 7).trans rfl;have d8:=(blk_cell (blk_below HK2.out hS) 8).trans rfl;have d9:=(blk_cell (blk_below HX2.out hS) 0).trans rfl;have d10:=(blk_cell (blk_below HX2.out hS) 1).trans rfl;have d11:=(blk_cell (blk_below HX2.out hS) 2).trans rfl;have d12:=cell_at hS HZC2.out;go_simp;with_reducible rfl)
      refine pu_ ?_ ?_ 16 (some 44) (lb 18 0x1ffff) ?_
      refine pu_ ?_ ?_ 17 (some 4) (lb 18 0x3ffff) ?_
      refine done_ (by kernel_rfl) ?_
      go_wp2
      go_ret
      exact ⟨rfl,below_then HB2.out HB2.out.size hHeld⟩
end Go.Proofs.Ytmkgcjhimajgiaa


set_option linter.unusedVariables false
set_option linter.unusedSimpArgs false
namespace Go.Proofs.Ytmkgcjhimajgiaa
open Go.RowKit Go.Proofs.YtmkgcjhimajgiaaW.PrintWords Go.Proofs.YtmkgcjhimajgiaaW.PrintLast Go.Conc

theorem in_b (b n : Nat) (i j : Int) (W : World) (ho : W.cell? ⟨b,3,none⟩ = some (.int .i64 n)) {v : Bool} (hv : (decide (0 ≤ i) && decide (0 ≤ j) && decide (i ≤ n) && decide (j ≤ n)) = v) :
    Calls Try.prog 51 #[.pointer (some ⟨b,0,none⟩),.int .i64 i,.int .i64 j] W fun e W' => e = .returned (.bool v) ∧ Below W.heap.size W W':=(in_c b n i j W ho hv).mono fun e w' ⟨h1,h2⟩ => ⟨h1,h2 ▸ Below.refl _ _⟩
theorem right_b (b : Nat) (A3 : Option Addr) (c3 : Nat) (l : List Rule) (i : Nat) (hi : i < l.length) (w0 W : World) (hb : Below w0.heap.size w0 W) (ho : W.cell? ⟨b,2,none⟩ = some (.slice A3 l.length c3)) (hr : kRule.C w0 A3 l.length l) :
    Calls Try.prog 52 #[.pointer (some ⟨b,0,none⟩),.int .i64 (i : Nat)] W fun e W' => (∃ A c,e = .returned (.slice A (l[i]'hi).right.length c) ∧ kInt.C w0 A (l[i]'hi).right.length (l[i]'hi).right) ∧ Below W.heap.size W W':=(right_c b A3 c3 l i hi w0 W hb ho hr).mono fun e w' ⟨h1,h2⟩ => ⟨h1,h2 ▸ Below.refl _ _⟩
theorem partV_in {g : Gram} {w : List Int} {r d i j : Int} (h : partV g w r d i j = true) : (0 ≤ i ∧ 0 ≤ j ∧ i ≤ w.length ∧ j ≤ w.length) ∧ (0 ≤ r ∧ r < g.rules.length) ∧ 0 ≤ d ∧ d ≤ (rightR g r.toNat).length:=by
  obtain ⟨h1,h2,h3,h4,h5⟩:=partV_iff.1 h
  have h6:=h5.ok
  obtain ⟨h7,h8,_,_⟩:=part_iff.1 h5
  simp only [Itm.ok] at h6
  omega
set_option maxRecDepth 100000 in
set_option maxHeartbeats 16000000 in
theorem partM_c (k : CB) (g : Gram) (wd : List Int) (r d i j : Int) (W : World) (h : CF W k g wd) (hs : (-9223372036854775808 ≤ r ∧ r ≤ 9223372036854775807) ∧ (-9223372036854775808 ≤ d ∧ d ≤ 9223372036854775807)) {v : Bool} (hv : partV g wd r d i j = v) :
    Calls Try.prog 22 #[.pointer (some ⟨k.b,0,none⟩),.agg #[.int .i64 r,.int .i64 d,.int .i64 i,.int .i64 j]] W fun e W' => e = .returned (.bool v) ∧ Below W.heap.size W W':=by
  obtain ⟨w0,vq,st,rr,hcm,htab,hpb⟩:=h
  subst hv
  obtain ⟨x0,hx0⟩ : ∃ x0,x0 = W.heap.size:=⟨_,rfl⟩
  obtain ⟨W1,hW1⟩ : ∃ W1,W1 = W.alloc (.cells #[.int .i64 r,.int .i64 d,.int .i64 i,.int .i64 j] 30 (0,0)):=⟨_,rfl⟩
  have HB0:=Aside0.mk (show Below W.heap.size W W1 from by rw [hW1];exact below_alloc (Below.refl _ _) _)
  have H:=Aside0.mk (hcm.below_ HB0.out)
  have HX:=Aside0.mk (show W1.heap[x0]? = some (.cells #[.int .i64 r,.int .i64 d,.int .i64 i,.int .i64 j] 30 (0,0)) from by rw [hW1,hx0];exact blk_new W _)
  have hnn:=hpb.nn
  obtain ⟨q1,q2,q3,q4⟩:=goodF_small hpb.gd
  have HPB:=Aside0.mk hpb
  have HT:=Aside0.mk htab
  have HS:=Aside0.mk hs
  have HX0:=Lib.hid hx0
  have HW:=Lib.hid hW1
  have HK:=Aside0.mk H.out.o
  have hslt : x0 = W.heap.size:=hx0
  clear hcm htab hpb hs hslt hx0 hW1
  obtain ⟨v,hv⟩ : ∃ v,partV g wd r d i j = v:=⟨_,rfl⟩
  rw [hv]
  have HV:=Lib.hid hv
  clear hv
  cases hin : (decide (0 ≤ i) && decide (0 ≤ j) && decide (i ≤ wd.length) && decide (j ≤ wd.length))
  · have HE : Aside0 (v = false):=⟨by
      rw [← Bool.not_eq_true,← HV.out]
      intro hc
      have:=partV_in hc
      simp only [Bool.and_eq_false_iff,decide_eq_false_iff_not] at hin
      omega⟩
    have HIN:=Aside0.mk hin
    clear hin
    rw [HE.out]
    go_enter Try.func22,Try.ntmps22
    go_wp2
    simp only [← HX0.out,← HW.out]
    refine start_ (n:=42) (S:=fun w' => Below W1.heap.size W1 w') (ds:=[]) (lb 42 0x0) (by kernel_rfl) rfl (by kernel_rfl) (below_drew1 (Below.refl _ _)) (fun hHeld => ?_)
    refine pu_ ?_ ?_ 0 (some 5) (lb 42 0x1) ?_
    refine pu_ ?_ ?_ 1 (some 6) (lb 42 0x3) ?_
    refine pu_ ?_ ?_ 2 (some 7) (lb 42 0x7) ?_
    refine pu_ ?_ ?_ 3 (some 8) (lb 42 0xf) ?_
    refine pu_ ?_ ?_ 4 (some 9) (lb 42 0x1f) ?_
    refine pu_ ?_ ?_ 6 (some 11) (lb 42 0x5f) ?_
    refine ta_ ?_ ?_ 5 (some 10) (lb 42 0x7f) hHeld ?_ (y:=by rintro w' hS;have d0:=(blk_cell (blk_below HK.out hS) 0).trans rfl;have d1:=(blk_cell (blk_below HK.out hS) 1).trans rfl;have d2:=(blk_cell (blk_below HK.out hS) 2).trans rfl;have d3:=(blk_cell (blk_below HK.out hS) 3).trans rfl;have d4:=(blk_cell (blk_below HK.out hS) 4).trans rfl;have d5:=(blk_cell (blk_below HK.out hS) 5).trans rfl;have d6:=(blk_cell (blk_below HK.out hS) 6).trans rfl;have d7:=(blk_cell (blk_below HK.out hS) 7).trans rfl;have d8:=(blk_cell (blk_below HK.out hS) 8).trans rfl;have d9:=(blk_cell (blk_below HX.out hS) 0).trans rfl;have d10:=(blk_cell (blk_below HX.out hS) 1).trans rfl;have d11:=(blk_cell (blk_below HX.out hS) 2).trans rfl;have d12:=(blk_cell (blk_below HX.out hS) 3).trans rfl;go_simp;with_reducible rfl)
    refine ta_ ?_ ?_ 7 (some 12) (lb 42 0xff) hHeld ?_ (y:=by rintro w' hS;have d0:=(blk_cell (blk_below HK.out hS) 0).trans rfl;have d1:=(blk_cell (blk_below HK.out hS) 1).trans rfl;have d2:=(blk_cell (blk_below HK.out hS) 2).trans rfl;have d3:=(blk_cell (blk_below HK.out hS) 3).trans rfl;have d4:=(blk_cell (blk_below HK.out hS) 4).trans rfl;have d5:=(blk_cell (blk_below HK.out hS) 5).trans rfl;have d6:=(blk_cell (blk_below HK.out hS) 6).trans rfl;have d7:=(blk_cell (blk_below HK.out hS) 7).trans rfl;have d8:=(blk_cell (blk_below HK.out hS) 8).trans rfl;have d9:=(blk_cell (blk_below HX.out hS) 0).trans rfl;have d10:=(blk_cell (blk_below HX.out hS) 1).trans rfl;have d11:=(blk_cell (blk_below HX.out hS) 2).trans rfl;have d12:=(blk_cell (blk_below HX.out hS) 3).trans rfl;go_simp;with_reducible rfl)
    refine on_ 8 (some 13) (lb 42 0x1ff) (fun K hK => ?_)
    (refine goesC_ Try.func51 (by kernel_rfl) rfl (by rfl) rfl rfl (in_b k.b wd.length i j _ ((blk_cell (blk_below HK.out hHeld) 3).trans rfl) HIN.out) (by simp [Act.eval]) ?_;rintro e w9 ⟨rfl,hb9⟩;refine ⟨_,rfl,?_⟩;have HQ9:=Aside0.mk (below_then hHeld hHeld.size hb9);clear hb9;refine hK.out _ _ HQ9.out (fun hHeld => ?_))
    clear hK K
    refine nm_ ?_ (some 13) ?_
    refine pu_ ?_ ?_ 9 (some 14) (lb 42 0x3ff) ?_
    refine pu_ ?_ ?_ 10 (some 15) (lb 42 0x7ff) ?_
    refine pu_ ?_ ?_ 11 (some 16) (lb 42 0xfff) ?_
    refine po_ ?_ 12 (some 17) (lb 42 0x1fff) ?_
    refine po_ ?_ 13 (some 18) (lb 42 0x3fff) ?_
    refine po_ ?_ 14 (some 19) (lb 42 0x7fff) ?_
    refine pu_ ?_ ?_ 15 (some 20) (lb 42 0xffff) ?_
    refine pu_ ?_ ?_ 16 (some 21) (lb 42 0x1ffff) ?_
    refine po_ ?_ 17 (some 22) (lb 42 0x3ffff) ?_
    refine po_ ?_ 19 (some 24) (lb 42 0xbffff) ?_
    refine po_ ?_ 20 (some 25) (lb 42 0x1bffff) ?_
    refine po_ ?_ 21 (some 26) (lb 42 0x3bffff) ?_
    refine po_ ?_ 22 (some 27) (lb 42 0x7bffff) ?_
    refine po_ ?_ 18 (some 23) (lb 42 0x7fffff) ?_
    refine po_ ?_ 23 (some 28) (lb 42 0xffffff) ?_
    refine po_ ?_ 24 (some 29) (lb 42 0x1ffffff) ?_
    refine po_ ?_ 25 (some 30) (lb 42 0x3ffffff) ?_
    refine pu_ ?_ ?_ 26 (some 31) (lb 42 0x7ffffff) ?_
    refine pu_ ?_ ?_ 27 (some 32) (lb 42 0xfffffff) ?_
    refine po_ ?_ 28 (some 33) (lb 42 0x1fffffff) ?_
    refine po_ ?_ 29 (some 34) (lb 42 0x3fffffff) ?_
    refine po_ ?_ 30 (some 35) (lb 42 0x7fffffff) ?_
    refine pu_ ?_ ?_ 31 (some 36) (lb 42 0xffffffff) ?_
    refine pu_ ?_ ?_ 32 (some 37) (lb 42 0x1ffffffff) ?_
    refine po_ ?_ 33 (some 38) (lb 42 0x3ffffffff) ?_
    refine po_ ?_ 35 (some 40) (lb 42 0xbffffffff) ?_
    refine po_ ?_ 36 (some 41) (lb 42 0x1bffffffff) ?_
    refine po_ ?_ 34 (some 39) (lb 42 0x1fffffffff) ?_
    refine po_ ?_ 37 (some 42) (lb 42 0x3fffffffff) ?_
    refine on_ 38 (some 43) (lb 42 0x7fffffffff) (fun K hK => ?_)
    refine off_ (by rfl) ?_
    refine hK.out _ _ hHeld (fun hHeld => ?_)
    clear hK K
    refine nm_ ?_ (some 43) ?_
    refine po_ ?_ 39 (some 44) (lb 42 0xffffffffff) ?_
    refine po_ ?_ 40 (some 45) (lb 42 0x1ffffffffff) ?_
    refine pu_ ?_ ?_ 41 (some 46) (lb 42 0x3ffffffffff) ?_
    refine done_ (by kernel_rfl) ?_
    rename World => W2
    go_wp2
    go_ret
    exact ⟨rfl,below_then HB0.out HB0.out.size hHeld⟩
  · have HIN:=Aside0.mk hin
    simp only [Bool.and_eq_true,decide_eq_true_eq] at hin
    obtain ⟨⟨⟨h1,h2⟩,h3⟩,h4⟩:=hin
    obtain ⟨ii,rfl⟩:=Int.eq_ofNat_of_zero_le h1
    obtain ⟨jj,rfl⟩:=Int.eq_ofNat_of_zero_le h2
    have hii : ii ≤ wd.length:=by omega
    have hjj : jj ≤ wd.length:=by omega
    clear h1 h2 h3 h4
    have hno : ∀ (hx : ¬ ((0 ≤ r ∧ r < g.rules.length) ∧ 0 ≤ d ∧ d ≤ (rightR g r.toNat).length)),v = false:=fun hx => by
      rw [← Bool.not_eq_true,← HV.out]
      intro hc
      exact hx (partV_in hc).2
    by_cases r0 : r < 0
    · have HE:=Aside0.mk (hno (by omega))
      have g1 : decide (r < 0) = true:=decide_eq_true r0
      clear hno
      rw [HE.out]
      go_enter Try.func22,Try.ntmps22
      go_wp2
      simp only [← HX0.out,← HW.out]
      refine start_ (n:=42) (S:=fun w' => Below W1.heap.size W1 w') (ds:=[]) (lb 42 0x0) (by kernel_rfl) rfl (by kernel_rfl) (below_drew1 (Below.refl _ _)) (fun hHeld => ?_)
      refine pu_ ?_ ?_ 0 (some 5) (lb 42 0x1) ?_
      refine pu_ ?_ ?_ 1 (some 6) (lb 42 0x3) ?_
      refine pu_ ?_ ?_ 2 (some 7) (lb 42 0x7) ?_
      refine pu_ ?_ ?_ 3 (some 8) (lb 42 0xf) ?_
      refine pu_ ?_ ?_ 4 (some 9) (lb 42 0x1f) ?_
      refine pu_ ?_ ?_ 6 (some 11) (lb 42 0x5f) ?_
      refine ta_ ?_ ?_ 5 (some 10) (lb 42 0x7f) hHeld ?_ (y:=by rintro w' hS;have d0:=(blk_cell (blk_below HK.out hS) 0).trans rfl;have d1:=(blk_cell (blk_below HK.out hS) 1).trans rfl;have d2:=(blk_cell (blk_below HK.out hS) 2).trans rfl;have d3:=(blk_cell (blk_below HK.out hS) 3).trans rfl;have d4:=(blk_cell (blk_below HK.out hS) 4).trans rfl;have d5:=(blk_cell (blk_below HK.out hS) 5).trans rfl;have d6:=(blk_cell (blk_below HK.out hS) 6).trans rfl;have d7:=(blk_cell (blk_below HK.out hS) 7).trans rfl;have d8:=(blk_cell (blk_below HK.out hS) 8).trans rfl;have d9:=(blk_cell (blk_below HX.out hS) 0).trans rfl;have d10:=(blk_cell (blk_below HX.out hS) 1).trans rfl;have d11:=(blk_cell (blk_below HX.out hS) 2).trans rfl;have d12:=(blk_cell (blk_below HX.out hS) 3).trans rfl;go_simp;with_reducible rfl)
      refine ta_ ?_ ?_ 7 (some 12) (lb 42 0xff) hHeld ?_ (y:=by rintro w' hS;have d0:=(blk_cell (blk_below HK.out hS) 0).trans rfl;have d1:=(blk_cell (blk_below HK.out hS) 1).trans rfl;have d2:=(blk_cell (blk_below HK.out hS) 2).trans rfl;have d3:=(blk_cell (blk_below HK.out hS) 3).trans rfl;have d4:=(blk_cell (blk_below HK.out hS) 4).trans rfl;have d5:=(blk_cell (blk_below HK.out hS) 5).trans rfl;have d6:=(blk_cell (blk_below HK.out hS) 6).trans rfl;have d7:=(blk_cell (blk_below HK.out hS) 7).trans rfl;have d8:=(blk_cell (blk_below HK.out hS) 8).trans rfl;have d9:=(blk_cell (blk_below HX.out hS) 0).trans rfl;have d10:=(blk_cell (blk_below HX.out hS) 1).trans rfl;have d11:=(blk_cell (blk_below HX.out hS) 2).trans rfl;have d12:=(blk_cell (blk_below HX.out hS) 3).trans rfl;go_simp;with_reducible rfl)
      refine on_ 8 (some 13) (lb 42 0x1ff) (fun K hK => ?_)
      (refine goesC_ Try.func51 (by kernel_rfl) rfl (by rfl) rfl rfl (in_b k.b wd.length _ _ _ ((blk_cell (blk_below HK.out hHeld) 3).trans rfl) HIN.out) (by simp [Act.eval]) ?_;rintro e w9 ⟨rfl,hb9⟩;refine ⟨_,rfl,?_⟩;have HQ9:=Aside0.mk (below_then hHeld hHeld.size hb9);clear hb9;refine hK.out _ _ HQ9.out (fun hHeld => ?_))
      clear hK K
      refine nm_ ?_ (some 13) ?_
      refine pu_ ?_ ?_ 9 (some 14) (lb 42 0x3ff) ?_
      refine pu_ ?_ ?_ 10 (some 15) (lb 42 0x7ff) ?_
      refine pu_ ?_ ?_ 11 (some 16) (lb 42 0xfff) ?_
      refine pu_ ?_ ?_ 12 (some 17) (lb 42 0x1fff) ?_
      refine ta_ ?_ ?_ 13 (some 18) (lb 42 0x3fff) hHeld ?_ (y:=by rintro w' hS;have d0:=(blk_cell (blk_below HK.out hS) 0).trans rfl;have d1:=(blk_cell (blk_below HK.out hS) 1).trans rfl;have d2:=(blk_cell (blk_below HK.out hS) 2).trans rfl;have d3:=(blk_cell (blk_below HK.out hS) 3).trans rfl;have d4:=(blk_cell (blk_below HK.out hS) 4).trans rfl;have d5:=(blk_cell (blk_below HK.out hS) 5).trans rfl;have d6:=(blk_cell (blk_below HK.out hS) 6).trans rfl;have d7:=(blk_cell (blk_below HK.out hS) 7).trans rfl;have d8:=(blk_cell (blk_below HK.out hS) 8).trans rfl;have d9:=(blk_cell (blk_below HX.out hS) 0).trans rfl;have d10:=(blk_cell (blk_below HX.out hS) 1).trans rfl;have d11:=(blk_cell (blk_below HX.out hS) 2).trans rfl;have d12:=(blk_cell (blk_below HX.out hS) 3).trans rfl;go_simp;with_reducible rfl)
      refine pu_ ?_ ?_ 14 (some 19) (lb 42 0x7fff) ?_
      refine pu_ ?_ ?_ 15 (some 20) (lb 42 0xffff) ?_
      refine pu_ ?_ ?_ 16 (some 21) (lb 42 0x1ffff) ?_
      refine po_ ?_ 17 (some 22) (lb 42 0x3ffff) ?_
      refine po_ ?_ 19 (some 24) (lb 42 0xbffff) ?_
      refine po_ ?_ 20 (some 25) (lb 42 0x1bffff) ?_
      refine po_ ?_ 21 (some 26) (lb 42 0x3bffff) ?_
      refine po_ ?_ 22 (some 27) (lb 42 0x7bffff) ?_
      refine po_ ?_ 18 (some 23) (lb 42 0x7fffff) ?_
      refine po_ ?_ 23 (some 28) (lb 42 0xffffff) ?_
      refine po_ ?_ 24 (some 29) (lb 42 0x1ffffff) ?_
      refine po_ ?_ 25 (some 30) (lb 42 0x3ffffff) ?_
      refine pu_ ?_ ?_ 26 (some 31) (lb 42 0x7ffffff) ?_
      refine pu_ ?_ ?_ 27 (some 32) (lb 42 0xfffffff) ?_
      refine po_ ?_ 28 (some 33) (lb 42 0x1fffffff) ?_
      refine po_ ?_ 29 (some 34) (lb 42 0x3fffffff) ?_
      refine po_ ?_ 30 (some 35) (lb 42 0x7fffffff) ?_
      refine pu_ ?_ ?_ 31 (some 36) (lb 42 0xffffffff) ?_
      refine pu_ ?_ ?_ 32 (some 37) (lb 42 0x1ffffffff) ?_
      refine po_ ?_ 33 (some 38) (lb 42 0x3ffffffff) ?_
      refine po_ ?_ 35 (some 40) (lb 42 0xbffffffff) ?_
      refine po_ ?_ 36 (some 41) (lb 42 0x1bffffffff) ?_
      refine po_ ?_ 34 (some 39) (lb 42 0x1fffffffff) ?_
      refine po_ ?_ 37 (some 42) (lb 42 0x3fffffffff) ?_
      refine on_ 38 (some 43) (lb 42 0x7fffffffff) (fun K hK => ?_)
      refine off_ (by rfl) ?_
      refine hK.out _ _ hHeld (fun hHeld => ?_)
      clear hK K
      refine nm_ ?_ (some 43) ?_
      refine po_ ?_ 39 (some 44) (lb 42 0xffffffffff) ?_
      refine po_ ?_ 40 (some 45) (lb 42 0x1ffffffffff) ?_
      refine pu_ ?_ ?_ 41 (some 46) (lb 42 0x3ffffffffff) ?_
      refine done_ (by kernel_rfl) ?_
      rename World => W2
      go_wp2
      go_ret
      exact ⟨rfl,below_then HB0.out HB0.out.size hHeld⟩
    have r0' : 0 ≤ r:=by omega
    have g1 : decide (r < 0) = false:=decide_eq_false r0
    by_cases r1 : (g.rules.length : Int) ≤ r
    · have g2 : decide ((g.rules.length : Int) ≤ r) = true:=decide_eq_true r1
      have HE:=Aside0.mk (hno (by omega))
      clear hno
      rw [HE.out]
      go_enter Try.func22,Try.ntmps22
      go_wp2
      simp only [← HX0.out,← HW.out]
      refine start_ (n:=42) (S:=fun w' => Below W1.heap.size W1 w') (ds:=[]) (lb 42 0x0) (by kernel_rfl) rfl (by kernel_rfl) (below_drew1 (Below.refl _ _)) (fun hHeld => ?_)
      refine pu_ ?_ ?_ 0 (some 5) (lb 42 0x1) ?_
      refine pu_ ?_ ?_ 1 (some 6) (lb 42 0x3) ?_
      refine pu_ ?_ ?_ 2 (some 7) (lb 42 0x7) ?_
      refine pu_ ?_ ?_ 3 (some 8) (lb 42 0xf) ?_
      refine pu_ ?_ ?_ 4 (some 9) (lb 42 0x1f) ?_
      refine pu_ ?_ ?_ 6 (some 11) (lb 42 0x5f) ?_
      refine ta_ ?_ ?_ 5 (some 10) (lb 42 0x7f) hHeld ?_ (y:=by rintro w' hS;have d0:=(blk_cell (blk_below HK.out hS) 0).trans rfl;have d1:=(blk_cell (blk_below HK.out hS) 1).trans rfl;have d2:=(blk_cell (blk_below HK.out hS) 2).trans rfl;have d3:=(blk_cell (blk_below HK.out hS) 3).trans rfl;have d4:=(blk_cell (blk_below HK.out hS) 4).trans rfl;have d5:=(blk_cell (blk_below HK.out hS) 5).trans rfl;have d6:=(blk_cell (blk_below HK.out hS) 6).trans rfl;have d7:=(blk_cell (blk_below HK.out hS) 7).trans rfl;have d8:=(blk_cell (blk_below HK.out hS) 8).trans rfl;have d9:=(blk_cell (blk_below HX.out hS) 0).trans rfl;have d10:=(blk_cell (blk_below HX.out hS) 1).trans rfl;have d11:=(blk_cell (blk_below HX.out hS) 2).trans rfl;have d12:=(blk_cell (blk_below HX.out hS) 3).trans rfl;go_simp;with_reducible rfl)
      refine ta_ ?_ ?_ 7 (some 12) (lb 42 0xff) hHeld ?_ (y:=by rintro w' hS;have d0:=(blk_cell (blk_below HK.out hS) 0).trans rfl;have d1:=(blk_cell (blk_below HK.out hS) 1).trans rfl;have d2:=(blk_cell (blk_below HK.out hS) 2).trans rfl;have d3:=(blk_cell (blk_below HK.out hS) 3).trans rfl;have d4:=(blk_cell (blk_below HK.out hS) 4).trans rfl;have d5:=(blk_cell (blk_below HK.out hS) 5).trans rfl;have d6:=(blk_cell (blk_below HK.out hS) 6).trans rfl;have d7:=(blk_cell (blk_below HK.out hS) 7).trans rfl;have d8:=(blk_cell (blk_below HK.out hS) 8).trans rfl;have d9:=(blk_cell (blk_below HX.out hS) 0).trans rfl;have d10:=(blk_cell (blk_below HX.out hS) 1).trans rfl;have d11:=(blk_cell (blk_below HX.out hS) 2).trans rfl;have d12:=(blk_cell (blk_below HX.out hS) 3).trans rfl;go_simp;with_reducible rfl)
      refine on_ 8 (some 13) (lb 42 0x1ff) (fun K hK => ?_)
      (refine goesC_ Try.func51 (by kernel_rfl) rfl (by rfl) rfl rfl (in_b k.b wd.length _ _ _ ((blk_cell (blk_below HK.out hHeld) 3).trans rfl) HIN.out) (by simp [Act.eval]) ?_;rintro e w9 ⟨rfl,hb9⟩;refine ⟨_,rfl,?_⟩;have HQ9:=Aside0.mk (below_then hHeld hHeld.size hb9);clear hb9;refine hK.out _ _ HQ9.out (fun hHeld => ?_))
      clear hK K
      refine nm_ ?_ (some 13) ?_
      refine pu_ ?_ ?_ 9 (some 14) (lb 42 0x3ff) ?_
      refine pu_ ?_ ?_ 10 (some 15) (lb 42 0x7ff) ?_
      refine pu_ ?_ ?_ 11 (some 16) (lb 42 0xfff) ?_
      refine pu_ ?_ ?_ 12 (some 17) (lb 42 0x1fff) ?_
      refine ta_ ?_ ?_ 13 (some 18) (lb 42 0x3fff) hHeld ?_ (y:=by rintro w' hS;have d0:=(blk_cell (blk_below HK.out hS) 0).trans rfl;have d1:=(blk_cell (blk_below HK.out hS) 1).trans rfl;have d2:=(blk_cell (blk_below HK.out hS) 2).trans rfl;have d3:=(blk_cell (blk_below HK.out hS) 3).trans rfl;have d4:=(blk_cell (blk_below HK.out hS) 4).trans rfl;have d5:=(blk_cell (blk_below HK.out hS) 5).trans rfl;have d6:=(blk_cell (blk_below HK.out hS) 6).trans rfl;have d7:=(blk_cell (blk_below HK.out hS) 7).trans rfl;have d8:=(blk_cell (blk_below HK.out hS) 8).trans rfl;have d9:=(blk_cell (blk_below HX.out hS) 0).trans rfl;have d10:=(blk_cell (blk_below HX.out hS) 1).trans rfl;have d11:=(blk_cell (blk_below HX.out hS) 2).trans rfl;have d12:=(blk_cell (blk_below HX.out hS) 3).trans rfl;go_simp;with_reducible rfl)
      refine pu_ ?_ ?_ 14 (some 19) (lb 42 0x7fff) ?_
      refine pu_ ?_ ?_ 15 (some 20) (lb 42 0xffff) ?_
      refine pu_ ?_ ?_ 16 (some 21) (lb 42 0x1ffff) ?_
      refine pu_ ?_ ?_ 17 (some 22) (lb 42 0x3ffff) ?_
      refine pu_ ?_ ?_ 19 (some 24) (lb 42 0xbffff) ?_
      refine pu_ ?_ ?_ 20 (some 25) (lb 42 0x1bffff) ?_
      refine pu_ ?_ ?_ 21 (some 26) (lb 42 0x3bffff) ?_
      refine pu_ ?_ ?_ 22 (some 27) (lb 42 0x7bffff) ?_
      refine ta_ ?_ ?_ 18 (some 23) (lb 42 0x7fffff) hHeld ?_ (y:=by rintro w' hS;have d0:=(blk_cell (blk_below HK.out hS) 0).trans rfl;have d1:=(blk_cell (blk_below HK.out hS) 1).trans rfl;have d2:=(blk_cell (blk_below HK.out hS) 2).trans rfl;have d3:=(blk_cell (blk_below HK.out hS) 3).trans rfl;have d4:=(blk_cell (blk_below HK.out hS) 4).trans rfl;have d5:=(blk_cell (blk_below HK.out hS) 5).trans rfl;have d6:=(blk_cell (blk_below HK.out hS) 6).trans rfl;have d7:=(blk_cell (blk_below HK.out hS) 7).trans rfl;have d8:=(blk_cell (blk_below HK.out hS) 8).trans rfl;have d9:=(blk_cell (blk_below HX.out hS) 0).trans rfl;have d10:=(blk_cell (blk_below HX.out hS) 1).trans rfl;have d11:=(blk_cell (blk_below HX.out hS) 2).trans rfl;have d12:=(blk_cell (blk_below HX.out hS) 3).trans rfl;go_simp;with_reducible rfl)
      refine ta_ ?_ ?_ 23 (some 28) (lb 42 0xffffff) hHeld ?_ (y:=by rintro w' hS;have d0:=(blk_cell (blk_below HK.out hS) 0).trans rfl;have d1:=(blk_cell (blk_below HK.out hS) 1).trans rfl;have d2:=(blk_cell (blk_below HK.out hS) 2).trans rfl;have d3:=(blk_cell (blk_below HK.out hS) 3).trans rfl;have d4:=(blk_cell (blk_below HK.out hS) 4).trans rfl;have d5:=(blk_cell (blk_below HK.out hS) 5).trans rfl;have d6:=(blk_cell (blk_below HK.out hS) 6).trans rfl;have d7:=(blk_cell (blk_below HK.out hS) 7).trans rfl;have d8:=(blk_cell (blk_below HK.out hS) 8).trans rfl;have d9:=(blk_cell (blk_below HX.out hS) 0).trans rfl;have d10:=(blk_cell (blk_below HX.out hS) 1).trans rfl;have d11:=(blk_cell (blk_below HX.out hS) 2).trans rfl;have d12:=(blk_cell (blk_below HX.out hS) 3).trans rfl;go_simp;with_reducible rfl)
      refine pu_ ?_ ?_ 24 (some 29) (lb 42 0x1ffffff) ?_
      refine pu_ ?_ ?_ 25 (some 30) (lb 42 0x3ffffff) ?_
      refine pu_ ?_ ?_ 26 (some 31) (lb 42 0x7ffffff) ?_
      refine pu_ ?_ ?_ 27 (some 32) (lb 42 0xfffffff) ?_
      refine po_ ?_ 28 (some 33) (lb 42 0x1fffffff) ?_
      refine po_ ?_ 29 (some 34) (lb 42 0x3fffffff) ?_
      refine po_ ?_ 30 (some 35) (lb 42 0x7fffffff) ?_
      refine pu_ ?_ ?_ 31 (some 36) (lb 42 0xffffffff) ?_
      refine pu_ ?_ ?_ 32 (some 37) (lb 42 0x1ffffffff) ?_
      refine po_ ?_ 33 (some 38) (lb 42 0x3ffffffff) ?_
      refine po_ ?_ 35 (some 40) (lb 42 0xbffffffff) ?_
      refine po_ ?_ 36 (some 41) (lb 42 0x1bffffffff) ?_
      refine po_ ?_ 34 (some 39) (lb 42 0x1fffffffff) ?_
      refine po_ ?_ 37 (some 42) (lb 42 0x3fffffffff) ?_
      refine on_ 38 (some 43) (lb 42 0x7fffffffff) (fun K hK => ?_)
      refine off_ (by rfl) ?_
      refine hK.out _ _ hHeld (fun hHeld => ?_)
      clear hK K
      refine nm_ ?_ (some 43) ?_
      refine po_ ?_ 39 (some 44) (lb 42 0xffffffffff) ?_
      refine po_ ?_ 40 (some 45) (lb 42 0x1ffffffffff) ?_
      refine pu_ ?_ ?_ 41 (some 46) (lb 42 0x3ffffffffff) ?_
      refine done_ (by kernel_rfl) ?_
      rename World => W2
      go_wp2
      go_ret
      exact ⟨rfl,below_then HB0.out HB0.out.size hHeld⟩
    have g2 : decide ((g.rules.length : Int) ≤ r) = false:=decide_eq_false r1
    obtain ⟨rn,rfl⟩:=Int.eq_ofNat_of_zero_le r0'
    have g2n : decide (g.rules.length ≤ rn) = false:=decide_eq_false (by omega)
    have hrn : rn < g.rules.length:=by omega
    by_cases d0 : d < 0
    · have g3 : decide (d < 0) = true:=decide_eq_true d0
      have HE:=Aside0.mk (hno (by omega))
      clear hno
      rw [HE.out]
      go_enter Try.func22,Try.ntmps22
      go_wp2
      simp only [← HX0.out,← HW.out]
      refine start_ (n:=42) (S:=fun w' => Below W1.heap.size W1 w') (ds:=[]) (lb 42 0x0) (by kernel_rfl) rfl (by kernel_rfl) (below_drew1 (Below.refl _ _)) (fun hHeld => ?_)
      refine pu_ ?_ ?_ 0 (some 5) (lb 42 0x1) ?_
      refine pu_ ?_ ?_ 1 (some 6) (lb 42 0x3) ?_
      refine pu_ ?_ ?_ 2 (some 7) (lb 42 0x7) ?_
      refine pu_ ?_ ?_ 3 (some 8) (lb 42 0xf) ?_
      refine pu_ ?_ ?_ 4 (some 9) (lb 42 0x1f) ?_
      refine pu_ ?_ ?_ 6 (some 11) (lb 42 0x5f) ?_
      refine ta_ ?_ ?_ 5 (some 10) (lb 42 0x7f) hHeld ?_ (y:=by rintro w' hS;have d0:=(blk_cell (blk_below HK.out hS) 0).trans rfl;have d1:=(blk_cell (blk_below HK.out hS) 1).trans rfl;have d2:=(blk_cell (blk_below HK.out hS) 2).trans rfl;have d3:=(blk_cell (blk_below HK.out hS) 3).trans rfl;have d4:=(blk_cell (blk_below HK.out hS) 4).trans rfl;have d5:=(blk_cell (blk_below HK.out hS) 5).trans rfl;have d6:=(blk_cell (blk_below HK.out hS) 6).trans rfl;have d7:=(blk_cell (blk_below HK.out hS) 7).trans rfl;have d8:=(blk_cell (blk_below HK.out hS) 8).trans rfl;have d9:=(blk_cell (blk_below HX.out hS) 0).trans rfl;have d10:=(blk_cell (blk_below HX.out hS) 1).trans rfl;have d11:=(blk_cell (blk_below HX.out hS) 2).trans rfl;have d12:=(blk_cell (blk_below HX.out hS) 3).trans rfl;go_simp;with_reducible rfl)
      refine ta_ ?_ ?_ 7 (some 12) (lb 42 0xff) hHeld ?_ (y:=by rintro w' hS;have d0:=(blk_cell (blk_below HK.out hS) 0).trans rfl;have d1:=(blk_cell (blk_below HK.out hS) 1).trans rfl;have d2:=(blk_cell (blk_below HK.out hS) 2).trans rfl;have d3:=(blk_cell (blk_below HK.out hS) 3).trans rfl;have d4:=(blk_cell (blk_below HK.out hS) 4).trans rfl;have d5:=(blk_cell (blk_below HK.out hS) 5).trans rfl;have d6:=(blk_cell (blk_below HK.out hS) 6).trans rfl;have d7:=(blk_cell (blk_below HK.out hS) 7).trans rfl;have d8:=(blk_cell (blk_below HK.out hS) 8).trans rfl;have d9:=(blk_cell (blk_below HX.out hS) 0).trans rfl;have d10:=(blk_cell (blk_below HX.out hS) 1).trans rfl;have d11:=(blk_cell (blk_below HX.out hS) 2).trans rfl;have d12:=(blk_cell (blk_below HX.out hS) 3).trans rfl;go_simp;with_reducible rfl)
      refine on_ 8 (some 13) (lb 42 0x1ff) (fun K hK => ?_)
      (refine goesC_ Try.func51 (by kernel_rfl) rfl (by rfl) rfl rfl (in_b k.b wd.length _ _ _ ((blk_cell (blk_below HK.out hHeld) 3).trans rfl) HIN.out) (by simp [Act.eval]) ?_;rintro e w9 ⟨rfl,hb9⟩;refine ⟨_,rfl,?_⟩;have HQ9:=Aside0.mk (below_then hHeld hHeld.size hb9);clear hb9;refine hK.out _ _ HQ9.out (fun hHeld => ?_))
      clear hK K
      refine nm_ ?_ (some 13) ?_
      refine pu_ ?_ ?_ 9 (some 14) (lb 42 0x3ff) ?_
      refine pu_ ?_ ?_ 10 (some 15) (lb 42 0x7ff) ?_
      refine pu_ ?_ ?_ 11 (some 16) (lb 42 0xfff) ?_
      refine pu_ ?_ ?_ 12 (some 17) (lb 42 0x1fff) ?_
      refine ta_ ?_ ?_ 13 (some 18) (lb 42 0x3fff) hHeld ?_ (y:=by rintro w' hS;have d0:=(blk_cell (blk_below HK.out hS) 0).trans rfl;have d1:=(blk_cell (blk_below HK.out hS) 1).trans rfl;have d2:=(blk_cell (blk_below HK.out hS) 2).trans rfl;have d3:=(blk_cell (blk_below HK.out hS) 3).trans rfl;have d4:=(blk_cell (blk_below HK.out hS) 4).trans rfl;have d5:=(blk_cell (blk_below HK.out hS) 5).trans rfl;have d6:=(blk_cell (blk_below HK.out hS) 6).trans rfl;have d7:=(blk_cell (blk_below HK.out hS) 7).trans rfl;have d8:=(blk_cell (blk_below HK.out hS) 8).trans rfl;have d9:=(blk_cell (blk_below HX.out hS) 0).trans rfl;have d10:=(blk_cell (blk_below HX.out hS) 1).trans rfl;have d11:=(blk_cell (blk_below HX.out hS) 2).trans rfl;have d12:=(blk_cell (blk_below HX.out hS) 3).trans rfl;go_simp;with_reducible rfl)
      refine pu_ ?_ ?_ 14 (some 19) (lb 42 0x7fff) ?_
      refine pu_ ?_ ?_ 15 (some 20) (lb 42 0xffff) ?_
      refine pu_ ?_ ?_ 16 (some 21) (lb 42 0x1ffff) ?_
      refine pu_ ?_ ?_ 17 (some 22) (lb 42 0x3ffff) ?_
      refine pu_ ?_ ?_ 19 (some 24) (lb 42 0xbffff) ?_
      refine pu_ ?_ ?_ 20 (some 25) (lb 42 0x1bffff) ?_
      refine pu_ ?_ ?_ 21 (some 26) (lb 42 0x3bffff) ?_
      refine pu_ ?_ ?_ 22 (some 27) (lb 42 0x7bffff) ?_
      refine ta_ ?_ ?_ 18 (some 23) (lb 42 0x7fffff) hHeld ?_ (y:=by rintro w' hS;have d0:=(blk_cell (blk_below HK.out hS) 0).trans rfl;have d1:=(blk_cell (blk_below HK.out hS) 1).trans rfl;have d2:=(blk_cell (blk_below HK.out hS) 2).trans rfl;have d3:=(blk_cell (blk_below HK.out hS) 3).trans rfl;have d4:=(blk_cell (blk_below HK.out hS) 4).trans rfl;have d5:=(blk_cell (blk_below HK.out hS) 5).trans rfl;have d6:=(blk_cell (blk_below HK.out hS) 6).trans rfl;have d7:=(blk_cell (blk_below HK.out hS) 7).trans rfl;have d8:=(blk_cell (blk_below HK.out hS) 8).trans rfl;have d9:=(blk_cell (blk_below HX.out hS) 0).trans rfl;have d10:=(blk_cell (blk_below HX.out hS) 1).trans rfl;have d11:=(blk_cell (blk_below HX.out hS) 2).trans rfl;have d12:=(blk_cell (blk_below HX.out hS) 3).trans rfl;go_simp;with_reducible rfl)
      refine ta_ ?_ ?_ 23 (some 28) (lb 42 0xffffff) hHeld ?_ (y:=by rintro w' hS;have d0:=(blk_cell (blk_below HK.out hS) 0).trans rfl;have d1:=(blk_cell (blk_below HK.out hS) 1).trans rfl;have d2:=(blk_cell (blk_below HK.out hS) 2).trans rfl;have d3:=(blk_cell (blk_below HK.out hS) 3).trans rfl;have d4:=(blk_cell (blk_below HK.out hS) 4).trans rfl;have d5:=(blk_cell (blk_below HK.out hS) 5).trans rfl;have d6:=(blk_cell (blk_below HK.out hS) 6).trans rfl;have d7:=(blk_cell (blk_below HK.out hS) 7).trans rfl;have d8:=(blk_cell (blk_below HK.out hS) 8).trans rfl;have d9:=(blk_cell (blk_below HX.out hS) 0).trans rfl;have d10:=(blk_cell (blk_below HX.out hS) 1).trans rfl;have d11:=(blk_cell (blk_below HX.out hS) 2).trans rfl;have d12:=(blk_cell (blk_below HX.out hS) 3).trans rfl;go_simp;with_reducible rfl)
      refine pu_ ?_ ?_ 24 (some 29) (lb 42 0x1ffffff) ?_
      refine pu_ ?_ ?_ 25 (some 30) (lb 42 0x3ffffff) ?_
      refine pu_ ?_ ?_ 26 (some 31) (lb 42 0x7ffffff) ?_
      refine pu_ ?_ ?_ 27 (some 32) (lb 42 0xfffffff) ?_
      refine pu_ ?_ ?_ 28 (some 33) (lb 42 0x1fffffff) ?_
      refine ta_ ?_ ?_ 29 (some 34) (lb 42 0x3fffffff) hHeld ?_ (y:=by rintro w' hS;have d0:=(blk_cell (blk_below HK.out hS) 0).trans rfl;have d1:=(blk_cell (blk_below HK.out hS) 1).trans rfl;have d2:=(blk_cell (blk_below HK.out hS) 2).trans rfl;have d3:=(blk_cell (blk_below HK.out hS) 3).trans rfl;have d4:=(blk_cell (blk_below HK.out hS) 4).trans rfl;have d5:=(blk_cell (blk_below HK.out hS) 5).trans rfl;have d6:=(blk_cell (blk_below HK.out hS) 6).trans rfl;have d7:=(blk_cell (blk_below HK.out hS) 7).trans rfl;have d8:=(blk_cell (blk_below HK.out hS) 8).trans rfl;have d9:=(blk_cell (blk_below HX.out hS) 0).trans rfl;have d10:=(blk_cell (blk_below HX.out hS) 1).trans rfl;have d11:=(blk_cell (blk_below HX.out hS) 2).trans rfl;have d12:=(blk_cell (blk_below HX.out hS) 3).trans rfl;go_simp;with_reducible rfl)
      refine pu_ ?_ ?_ 30 (some 35) (lb 42 0x7fffffff) ?_
      refine pu_ ?_ ?_ 31 (some 36) (lb 42 0xffffffff) ?_
      refine pu_ ?_ ?_ 32 (some 37) (lb 42 0x1ffffffff) ?_
      refine po_ ?_ 33 (some 38) (lb 42 0x3ffffffff) ?_
      refine po_ ?_ 35 (some 40) (lb 42 0xbffffffff) ?_
      refine po_ ?_ 36 (some 41) (lb 42 0x1bffffffff) ?_
      refine po_ ?_ 34 (some 39) (lb 42 0x1fffffffff) ?_
      refine po_ ?_ 37 (some 42) (lb 42 0x3fffffffff) ?_
      refine on_ 38 (some 43) (lb 42 0x7fffffffff) (fun K hK => ?_)
      refine off_ (by rfl) ?_
      refine hK.out _ _ hHeld (fun hHeld => ?_)
      clear hK K
      refine nm_ ?_ (some 43) ?_
      refine po_ ?_ 39 (some 44) (lb 42 0xffffffffff) ?_
      refine po_ ?_ 40 (some 45) (lb 42 0x1ffffffffff) ?_
      refine pu_ ?_ ?_ 41 (some 46) (lb 42 0x3ffffffffff) ?_
      refine done_ (by kernel_rfl) ?_
      rename World => W2
      go_wp2
      go_ret
      exact ⟨rfl,below_then HB0.out HB0.out.size hHeld⟩
    have d0' : 0 ≤ d:=by omega
    have g3 : decide (d < 0) = false:=decide_eq_false d0
    obtain ⟨dn,rfl⟩:=Int.eq_ofNat_of_zero_le d0'
    have HRR:=Aside0.mk (rightR_at hrn)
    have hr8:=(goodF_mem HPB.out.gd (g.rules[rn]'hrn) (List.getElem_mem _)).2.2.1
    have hno' : ¬ dn ≤ (g.rules[rn]'hrn).right.length → v = false:=fun hx => hno (by rw [Int.toNat_natCast,HRR.out];omega)
    obtain ⟨xr,hxr⟩ : ∃ xr,xr = g.rules[rn]'hrn:=⟨_,rfl⟩
    rw [← hxr] at HRR hr8 hno'
    have HXR:=Lib.hid hxr
    have HRN:=Aside0.mk hrn
    clear hno hxr
    by_cases d1 : (xr.right.length : Int) < (dn : Int)
    · have g4 : decide (xr.right.length < dn) = true:=decide_eq_true (by omega)
      have HE:=Aside0.mk (hno' (by omega))
      clear hno'
      rw [HE.out]
      go_enter Try.func22,Try.ntmps22
      go_wp2
      simp only [← HX0.out,← HW.out]
      refine start_ (n:=42) (S:=fun w' => Below W1.heap.size W1 w') (ds:=[]) (lb 42 0x0) (by kernel_rfl) rfl (by kernel_rfl) (below_drew1 (Below.refl _ _)) (fun hHeld => ?_)
      refine pu_ ?_ ?_ 0 (some 5) (lb 42 0x1) ?_
      refine pu_ ?_ ?_ 1 (some 6) (lb 42 0x3) ?_
      refine pu_ ?_ ?_ 2 (some 7) (lb 42 0x7) ?_
      refine pu_ ?_ ?_ 3 (some 8) (lb 42 0xf) ?_
      refine pu_ ?_ ?_ 4 (some 9) (lb 42 0x1f) ?_
      refine pu_ ?_ ?_ 6 (some 11) (lb 42 0x5f) ?_
      refine ta_ ?_ ?_ 5 (some 10) (lb 42 0x7f) hHeld ?_ (y:=by rintro w' hS;have d0:=(blk_cell (blk_below HK.out hS) 0).trans rfl;have d1:=(blk_cell (blk_below HK.out hS) 1).trans rfl;have d2:=(blk_cell (blk_below HK.out hS) 2).trans rfl;have d3:=(blk_cell (blk_below HK.out hS) 3).trans rfl;have d4:=(blk_cell (blk_below HK.out hS) 4).trans rfl;have d5:=(blk_cell (blk_below HK.out hS) 5).trans rfl;have d6:=(blk_cell (blk_below HK.out hS) 6).trans rfl;have d7:=(blk_cell (blk_below HK.out hS) 7).trans rfl;have d8:=(blk_cell (blk_below HK.out hS) 8).trans rfl;have d9:=(blk_cell (blk_below HX.out hS) 0).trans rfl;have d10:=(blk_cell (blk_below HX.out hS) 1).trans rfl;have d11:=(blk_cell (blk_below HX.out hS) 2).trans rfl;have d12:=(blk_cell (blk_below HX.out hS) 3).trans rfl;go_simp;with_reducible rfl)
      refine ta_ ?_ ?_ 7 (some 12) (lb 42 0xff) hHeld ?_ (y:=by rintro w' hS;have d0:=(blk_cell (blk_below HK.out hS) 0).trans rfl;have d1:=(blk_cell (blk_below HK.out hS) 1).trans rfl;have d2:=(blk_cell (blk_below HK.out hS) 2).trans rfl;have d3:=(blk_cell (blk_below HK.out hS) 3).trans rfl;have d4:=(blk_cell (blk_below HK.out hS) 4).trans rfl;have d5:=(blk_cell (blk_below HK.out hS) 5).trans rfl;have d6:=(blk_cell (blk_below HK.out hS) 6).trans rfl;have d7:=(blk_cell (blk_below HK.out hS) 7).trans rfl;have d8:=(blk_cell (blk_below HK.out hS) 8).trans rfl;have d9:=(blk_cell (blk_below HX.out hS) 0).trans rfl;have d10:=(blk_cell (blk_below HX.out hS) 1).trans rfl;have d11:=(blk_cell (blk_below HX.out hS) 2).trans rfl;have d12:=(blk_cell (blk_below HX.out hS) 3).trans rfl;go_simp;with_reducible rfl)
      refine on_ 8 (some 13) (lb 42 0x1ff) (fun K hK => ?_)
      (refine goesC_ Try.func51 (by kernel_rfl) rfl (by rfl) rfl rfl (in_b k.b wd.length _ _ _ ((blk_cell (blk_below HK.out hHeld) 3).trans rfl) HIN.out) (by simp [Act.eval]) ?_;rintro e w9 ⟨rfl,hb9⟩;refine ⟨_,rfl,?_⟩;have HQ9:=Aside0.mk (below_then hHeld hHeld.size hb9);clear hb9;refine hK.out _ _ HQ9.out (fun hHeld => ?_))
      clear hK K
      refine nm_ ?_ (some 13) ?_
      refine pu_ ?_ ?_ 9 (some 14) (lb 42 0x3ff) ?_
      refine pu_ ?_ ?_ 10 (some 15) (lb 42 0x7ff) ?_
      refine pu_ ?_ ?_ 11 (some 16) (lb 42 0xfff) ?_
      refine pu_ ?_ ?_ 12 (some 17) (lb 42 0x1fff) ?_
      refine ta_ ?_ ?_ 13 (some 18) (lb 42 0x3fff) hHeld ?_ (y:=by rintro w' hS;have d0:=(blk_cell (blk_below HK.out hS) 0).trans rfl;have d1:=(blk_cell (blk_below HK.out hS) 1).trans rfl;have d2:=(blk_cell (blk_below HK.out hS) 2).trans rfl;have d3:=(blk_cell (blk_below HK.out hS) 3).trans rfl;have d4:=(blk_cell (blk_below HK.out hS) 4).trans rfl;have d5:=(blk_cell (blk_below HK.out hS) 5).trans rfl;have d6:=(blk_cell (blk_below HK.out hS) 6).trans rfl;have d7:=(blk_cell (blk_below HK.out hS) 7).trans rfl;have d8:=(blk_cell (blk_below HK.out hS) 8).trans rfl;have d9:=(blk_cell (blk_below HX.out hS) 0).trans rfl;have d10:=(blk_cell (blk_below HX.out hS) 1).trans rfl;have d11:=(blk_cell (blk_below HX.out hS) 2).trans rfl;have d12:=(blk_cell (blk_below HX.out hS) 3).trans rfl;go_simp;with_reducible rfl)
      refine pu_ ?_ ?_ 14 (some 19) (lb 42 0x7fff) ?_
      refine pu_ ?_ ?_ 15 (some 20) (lb 42 0xffff) ?_
      refine pu_ ?_ ?_ 16 (some 21) (lb 42 0x1ffff) ?_
      refine pu_ ?_ ?_ 17 (some 22) (lb 42 0x3ffff) ?_
      refine pu_ ?_ ?_ 19 (some 24) (lb 42 0xbffff) ?_
      refine pu_ ?_ ?_ 20 (some 25) (lb 42 0x1bffff) ?_
      refine pu_ ?_ ?_ 21 (some 26) (lb 42 0x3bffff) ?_
      refine pu_ ?_ ?_ 22 (some 27) (lb 42 0x7bffff) ?_
      refine ta_ ?_ ?_ 18 (some 23) (lb 42 0x7fffff) hHeld ?_ (y:=by rintro w' hS;have d0:=(blk_cell (blk_below HK.out hS) 0).trans rfl;have d1:=(blk_cell (blk_below HK.out hS) 1).trans rfl;have d2:=(blk_cell (blk_below HK.out hS) 2).trans rfl;have d3:=(blk_cell (blk_below HK.out hS) 3).trans rfl;have d4:=(blk_cell (blk_below HK.out hS) 4).trans rfl;have d5:=(blk_cell (blk_below HK.out hS) 5).trans rfl;have d6:=(blk_cell (blk_below HK.out hS) 6).trans rfl;have d7:=(blk_cell (blk_below HK.out hS) 7).trans rfl;have d8:=(blk_cell (blk_below HK.out hS) 8).trans rfl;have d9:=(blk_cell (blk_below HX.out hS) 0).trans rfl;have d10:=(blk_cell (blk_below HX.out hS) 1).trans rfl;have d11:=(blk_cell (blk_below HX.out hS) 2).trans rfl;have d12:=(blk_cell (blk_below HX.out hS) 3).trans rfl;go_simp;with_reducible rfl)
      refine ta_ ?_ ?_ 23 (some 28) (lb 42 0xffffff) hHeld ?_ (y:=by rintro w' hS;have d0:=(blk_cell (blk_below HK.out hS) 0).trans rfl;have d1:=(blk_cell (blk_below HK.out hS) 1).trans rfl;have d2:=(blk_cell (blk_below HK.out hS) 2).trans rfl;have d3:=(blk_cell (blk_below HK.out hS) 3).trans rfl;have d4:=(blk_cell (blk_below HK.out hS) 4).trans rfl;have d5:=(blk_cell (blk_below HK.out hS) 5).trans rfl;have d6:=(blk_cell (blk_below HK.out hS) 6).trans rfl;have d7:=(blk_cell (blk_below HK.out hS) 7).trans rfl;have d8:=(blk_cell (blk_below HK.out hS) 8).trans rfl;have d9:=(blk_cell (blk_below HX.out hS) 0).trans rfl;have d10:=(blk_cell (blk_below HX.out hS) 1).trans rfl;have d11:=(blk_cell (blk_below HX.out hS) 2).trans rfl;have d12:=(blk_cell (blk_below HX.out hS) 3).trans rfl;go_simp;with_reducible rfl)
      refine pu_ ?_ ?_ 24 (some 29) (lb 42 0x1ffffff) ?_
      refine pu_ ?_ ?_ 25 (some 30) (lb 42 0x3ffffff) ?_
      refine pu_ ?_ ?_ 26 (some 31) (lb 42 0x7ffffff) ?_
      refine pu_ ?_ ?_ 27 (some 32) (lb 42 0xfffffff) ?_
      refine pu_ ?_ ?_ 28 (some 33) (lb 42 0x1fffffff) ?_
      refine ta_ ?_ ?_ 29 (some 34) (lb 42 0x3fffffff) hHeld ?_ (y:=by rintro w' hS;have d0:=(blk_cell (blk_below HK.out hS) 0).trans rfl;have d1:=(blk_cell (blk_below HK.out hS) 1).trans rfl;have d2:=(blk_cell (blk_below HK.out hS) 2).trans rfl;have d3:=(blk_cell (blk_below HK.out hS) 3).trans rfl;have d4:=(blk_cell (blk_below HK.out hS) 4).trans rfl;have d5:=(blk_cell (blk_below HK.out hS) 5).trans rfl;have d6:=(blk_cell (blk_below HK.out hS) 6).trans rfl;have d7:=(blk_cell (blk_below HK.out hS) 7).trans rfl;have d8:=(blk_cell (blk_below HK.out hS) 8).trans rfl;have d9:=(blk_cell (blk_below HX.out hS) 0).trans rfl;have d10:=(blk_cell (blk_below HX.out hS) 1).trans rfl;have d11:=(blk_cell (blk_below HX.out hS) 2).trans rfl;have d12:=(blk_cell (blk_below HX.out hS) 3).trans rfl;go_simp;with_reducible rfl)
      refine pu_ ?_ ?_ 30 (some 35) (lb 42 0x7fffffff) ?_
      refine pu_ ?_ ?_ 31 (some 36) (lb 42 0xffffffff) ?_
      refine pu_ ?_ ?_ 32 (some 37) (lb 42 0x1ffffffff) ?_
      refine pu_ ?_ ?_ 33 (some 38) (lb 42 0x3ffffffff) ?_
      refine pu_ ?_ ?_ 35 (some 40) (lb 42 0xbffffffff) ?_
      refine pu_ ?_ ?_ 36 (some 41) (lb 42 0x1bffffffff) ?_
      refine ta_ ?_ ?_ 34 (some 39) (lb 42 0x1fffffffff) hHeld ?_ (y:=by rintro w' hS;have d0:=(blk_cell (blk_below HK.out hS) 0).trans rfl;have d1:=(blk_cell (blk_below HK.out hS) 1).trans rfl;have d2:=(blk_cell (blk_below HK.out hS) 2).trans rfl;have d3:=(blk_cell (blk_below HK.out hS) 3).trans rfl;have d4:=(blk_cell (blk_below HK.out hS) 4).trans rfl;have d5:=(blk_cell (blk_below HK.out hS) 5).trans rfl;have d6:=(blk_cell (blk_below HK.out hS) 6).trans rfl;have d7:=(blk_cell (blk_below HK.out hS) 7).trans rfl;have d8:=(blk_cell (blk_below HK.out hS) 8).trans rfl;have d9:=(blk_cell (blk_below HX.out hS) 0).trans rfl;have d10:=(blk_cell (blk_below HX.out hS) 1).trans rfl;have d11:=(blk_cell (blk_below HX.out hS) 2).trans rfl;have d12:=(blk_cell (blk_below HX.out hS) 3).trans rfl;go_simp;with_reducible rfl)
      refine ta_ ?_ ?_ 37 (some 42) (lb 42 0x3fffffffff) hHeld ?_ (y:=by rintro w' hS;have d0:=(blk_cell (blk_below HK.out hS) 0).trans rfl;have d1:=(blk_cell (blk_below HK.out hS) 1).trans rfl;have d2:=(blk_cell (blk_below HK.out hS) 2).trans rfl;have d3:=(blk_cell (blk_below HK.out hS) 3).trans rfl;have d4:=(blk_cell (blk_below HK.out hS) 4).trans rfl;have d5:=(blk_cell (blk_below HK.out hS) 5).trans rfl;have d6:=(blk_cell (blk_below HK.out hS) 6).trans rfl;have d7:=(blk_cell (blk_below HK.out hS) 7).trans rfl;have d8:=(blk_cell (blk_below HK.out hS) 8).trans rfl;have d9:=(blk_cell (blk_below HX.out hS) 0).trans rfl;have d10:=(blk_cell (blk_below HX.out hS) 1).trans rfl;have d11:=(blk_cell (blk_below HX.out hS) 2).trans rfl;have d12:=(blk_cell (blk_below HX.out hS) 3).trans rfl;go_simp;with_reducible rfl)
      refine on_ 38 (some 43) (lb 42 0x7fffffffff) (fun K hK => ?_)
      (refine goesC_ Try.func52 (by kernel_rfl) rfl (by rfl) rfl rfl (right_b k.b k.A3 k.c3 g.rules rn HRN.out w0 _ (below_then H.out.below H.out.below.size hHeld) ((blk_cell (blk_below HK.out hHeld) 2).trans rfl) H.out.g.rules) (by simp [Act.eval]) ?_;rintro e w9 ⟨⟨Ar,cr,rfl,hcr⟩,hb9⟩;refine ⟨_,rfl,?_⟩;have HQ9:=Aside0.mk (below_then hHeld hHeld.size hb9);simp only [← HXR.out];clear hb9;refine hK.out _ _ HQ9.out (fun hHeld => ?_))
      clear hK K
      refine nm_ ?_ (some 43) ?_
      refine pu_ ?_ ?_ 39 (some 44) (lb 42 0xffffffffff) ?_
      refine pu_ ?_ ?_ 40 (some 45) (lb 42 0x1ffffffffff) ?_
      refine pu_ ?_ ?_ 41 (some 46) (lb 42 0x3ffffffffff) ?_
      refine done_ (by kernel_rfl) ?_
      rename World => W2
      go_wp2
      go_ret
      exact ⟨rfl,below_then HB0.out HB0.out.size hHeld⟩
    have hdl : dn ≤ xr.right.length:=by omega
    have g4 : decide (xr.right.length < dn) = false:=decide_eq_false (by omega)
    have hpok : PN.ok g wd.length ⟨rn,dn,ii,jj⟩:=⟨hrn,by simp only;rw [HRR.out];exact hdl,hii,hjj⟩
    obtain ⟨hrow,_⟩:=HPB.out.row hpok.1 hpok.2.1
    simp only at hrow
    obtain ⟨bz,hbz⟩ : ∃ bz,bz = baseF g rn:=⟨_,rfl⟩
    have hix : ixP g wd.length ⟨rn,dn,ii,jj⟩ = atF wd.length (bz + dn) ii jj:=by rw [hbz];rfl
    obtain ⟨z,hz⟩ : ∃ z,z = atF wd.length (bz + dn) ii jj:=⟨_,rfl⟩
    rw [← hz] at hix
    have hzl : z < k.lp:=by rw [HPB.out.lp,← hix];exact ixP_lt hpok
    have hzv : getB st.pa (z : Int) = v:=by
      rw [← HV.out,Bool.eq_iff_iff,partV_nat,getB_nat,← hix]
      exact HT.out.pa ⟨rn,dn,ii,jj⟩ hpok
    have HZC:=Aside0.mk (H.out.pa.cell' (i:=z) (by rw [H.out.lp];exact hzl) hzv)
    have HZ:=Lib.hid hz
    have z2 : (z : Int) < (k.lp : Int):=by omega
    obtain ⟨adb,eadb,hbc⟩:=H.out.base_ hrn
    rw [← hbz] at hbc hrow
    have HBC:=Aside0.mk hbc
    have e1 : IntKind.i64.wrap ((bz : Int) + (dn : Int)) = ((bz + dn : Nat) : Int):=by rw [IntWalk.i64_in _ (by omega)];omega
    have b2 : (rn : Int) < (g.rules.length : Int):=by omega
    have ho:=H.out.o
    rw [eadb] at ho
    have HKB:=Aside0.mk ho
    clear hno' hpok hbz hix hz hzv hbc ho eadb
    go_enter Try.func22,Try.ntmps22
    go_wp2
    simp only [← HX0.out,← HW.out]
    refine start_ (n:=42) (S:=fun w' => Below W1.heap.size W1 w') (ds:=[]) (lb 42 0x0) (by kernel_rfl) rfl (by kernel_rfl) (below_drew1 (Below.refl _ _)) (fun hHeld => ?_)
    refine pu_ ?_ ?_ 0 (some 5) (lb 42 0x1) ?_
    refine pu_ ?_ ?_ 1 (some 6) (lb 42 0x3) ?_
    refine pu_ ?_ ?_ 2 (some 7) (lb 42 0x7) ?_
    refine pu_ ?_ ?_ 3 (some 8) (lb 42 0xf) ?_
    refine pu_ ?_ ?_ 4 (some 9) (lb 42 0x1f) ?_
    refine pu_ ?_ ?_ 6 (some 11) (lb 42 0x5f) ?_
    refine ta_ ?_ ?_ 5 (some 10) (lb 42 0x7f) hHeld ?_ (y:=by rintro w' hS;have d0:=(blk_cell (blk_below HK.out hS) 0).trans rfl;have d1:=(blk_cell (blk_below HK.out hS) 1).trans rfl;have d2:=(blk_cell (blk_below HK.out hS) 2).trans rfl;have d3:=(blk_cell (blk_below HK.out hS) 3).trans rfl;have d4:=(blk_cell (blk_below HK.out hS) 4).trans rfl;have d5:=(blk_cell (blk_below HK.out hS) 5).trans rfl;have d6:=(blk_cell (blk_below HK.out hS) 6).trans rfl;have d7:=(blk_cell (blk_below HK.out hS) 7).trans rfl;have d8:=(blk_cell (blk_below HK.out hS) 8).trans rfl;have d9:=(blk_cell (blk_below HX.out hS) 0).trans rfl;have d10:=(blk_cell (blk_below HX.out hS) 1).trans rfl;have d11:=(blk_cell (blk_below HX.out hS) 2).trans rfl;have d12:=(blk_cell (blk_below HX.out hS) 3).trans rfl;go_simp;with_reducible rfl)
    refine ta_ ?_ ?_ 7 (some 12) (lb 42 0xff) hHeld ?_ (y:=by rintro w' hS;have d0:=(blk_cell (blk_below HK.out hS) 0).trans rfl;have d1:=(blk_cell (blk_below HK.out hS) 1).trans rfl;have d2:=(blk_cell (blk_below HK.out hS) 2).trans rfl;have d3:=(blk_cell (blk_below HK.out hS) 3).trans rfl;have d4:=(blk_cell (blk_below HK.out hS) 4).trans rfl;have d5:=(blk_cell (blk_below HK.out hS) 5).trans rfl;have d6:=(blk_cell (blk_below HK.out hS) 6).trans rfl;have d7:=(blk_cell (blk_below HK.out hS) 7).trans rfl;have d8:=(blk_cell (blk_below HK.out hS) 8).trans rfl;have d9:=(blk_cell (blk_below HX.out hS) 0).trans rfl;have d10:=(blk_cell (blk_below HX.out hS) 1).trans rfl;have d11:=(blk_cell (blk_below HX.out hS) 2).trans rfl;have d12:=(blk_cell (blk_below HX.out hS) 3).trans rfl;go_simp;with_reducible rfl)
    refine on_ 8 (some 13) (lb 42 0x1ff) (fun K hK => ?_)
    (refine goesC_ Try.func51 (by kernel_rfl) rfl (by rfl) rfl rfl (in_b k.b wd.length _ _ _ ((blk_cell (blk_below HK.out hHeld) 3).trans rfl) HIN.out) (by simp [Act.eval]) ?_;rintro e w9 ⟨rfl,hb9⟩;refine ⟨_,rfl,?_⟩;have HQ9:=Aside0.mk (below_then hHeld hHeld.size hb9);clear hb9;refine hK.out _ _ HQ9.out (fun hHeld => ?_))
    clear hK K
    refine nm_ ?_ (some 13) ?_
    refine pu_ ?_ ?_ 9 (some 14) (lb 42 0x3ff) ?_
    refine pu_ ?_ ?_ 10 (some 15) (lb 42 0x7ff) ?_
    refine pu_ ?_ ?_ 11 (some 16) (lb 42 0xfff) ?_
    refine pu_ ?_ ?_ 12 (some 17) (lb 42 0x1fff) ?_
    refine ta_ ?_ ?_ 13 (some 18) (lb 42 0x3fff) hHeld ?_ (y:=by rintro w' hS;have d0:=(blk_cell (blk_below HK.out hS) 0).trans rfl;have d1:=(blk_cell (blk_below HK.out hS) 1).trans rfl;have d2:=(blk_cell (blk_below HK.out hS) 2).trans rfl;have d3:=(blk_cell (blk_below HK.out hS) 3).trans rfl;have d4:=(blk_cell (blk_below HK.out hS) 4).trans rfl;have d5:=(blk_cell (blk_below HK.out hS) 5).trans rfl;have d6:=(blk_cell (blk_below HK.out hS) 6).trans rfl;have d7:=(blk_cell (blk_below HK.out hS) 7).trans rfl;have d8:=(blk_cell (blk_below HK.out hS) 8).trans rfl;have d9:=(blk_cell (blk_below HX.out hS) 0).trans rfl;have d10:=(blk_cell (blk_below HX.out hS) 1).trans rfl;have d11:=(blk_cell (blk_below HX.out hS) 2).trans rfl;have d12:=(blk_cell (blk_below HX.out hS) 3).trans rfl;go_simp;with_reducible rfl)
    refine pu_ ?_ ?_ 14 (some 19) (lb 42 0x7fff) ?_
    refine pu_ ?_ ?_ 15 (some 20) (lb 42 0xffff) ?_
    refine pu_ ?_ ?_ 16 (some 21) (lb 42 0x1ffff) ?_
    refine pu_ ?_ ?_ 17 (some 22) (lb 42 0x3ffff) ?_
    refine pu_ ?_ ?_ 19 (some 24) (lb 42 0xbffff) ?_
    refine pu_ ?_ ?_ 20 (some 25) (lb 42 0x1bffff) ?_
    refine pu_ ?_ ?_ 21 (some 26) (lb 42 0x3bffff) ?_
    refine pu_ ?_ ?_ 22 (some 27) (lb 42 0x7bffff) ?_
    refine ta_ ?_ ?_ 18 (some 23) (lb 42 0x7fffff) hHeld ?_ (y:=by rintro w' hS;have d0:=(blk_cell (blk_below HK.out hS) 0).trans rfl;have d1:=(blk_cell (blk_below HK.out hS) 1).trans rfl;have d2:=(blk_cell (blk_below HK.out hS) 2).trans rfl;have d3:=(blk_cell (blk_below HK.out hS) 3).trans rfl;have d4:=(blk_cell (blk_below HK.out hS) 4).trans rfl;have d5:=(blk_cell (blk_below HK.out hS) 5).trans rfl;have d6:=(blk_cell (blk_below HK.out hS) 6).trans rfl;have d7:=(blk_cell (blk_below HK.out hS) 7).trans rfl;have d8:=(blk_cell (blk_below HK.out hS) 8).trans rfl;have d9:=(blk_cell (blk_below HX.out hS) 0).trans rfl;have d10:=(blk_cell (blk_below HX.out hS) 1).trans rfl;have d11:=(blk_cell (blk_below HX.out hS) 2).trans rfl;have d12:=(blk_cell (blk_below HX.out hS) 3).trans rfl;go_simp;with_reducible rfl)
    refine ta_ ?_ ?_ 23 (some 28) (lb 42 0xffffff) hHeld ?_ (y:=by rintro w' hS;have d0:=(blk_cell (blk_below HK.out hS) 0).trans rfl;have d1:=(blk_cell (blk_below HK.out hS) 1).trans rfl;have d2:=(blk_cell (blk_below HK.out hS) 2).trans rfl;have d3:=(blk_cell (blk_below HK.out hS) 3).trans rfl;have d4:=(blk_cell (blk_below HK.out hS) 4).trans rfl;have d5:=(blk_cell (blk_below HK.out hS) 5).trans rfl;have d6:=(blk_cell (blk_below HK.out hS) 6).trans rfl;have d7:=(blk_cell (blk_below HK.out hS) 7).trans rfl;have d8:=(blk_cell (blk_below HK.out hS) 8).trans rfl;have d9:=(blk_cell (blk_below HX.out hS) 0).trans rfl;have d10:=(blk_cell (blk_below HX.out hS) 1).trans rfl;have d11:=(blk_cell (blk_below HX.out hS) 2).trans rfl;have d12:=(blk_cell (blk_below HX.out hS) 3).trans rfl;go_simp;with_reducible rfl)
    refine pu_ ?_ ?_ 24 (some 29) (lb 42 0x1ffffff) ?_
    refine pu_ ?_ ?_ 25 (some 30) (lb 42 0x3ffffff) ?_
    refine pu_ ?_ ?_ 26 (some 31) (lb 42 0x7ffffff) ?_
    refine pu_ ?_ ?_ 27 (some 32) (lb 42 0xfffffff) ?_
    refine pu_ ?_ ?_ 28 (some 33) (lb 42 0x1fffffff) ?_
    refine ta_ ?_ ?_ 29 (some 34) (lb 42 0x3fffffff) hHeld ?_ (y:=by rintro w' hS;have d0:=(blk_cell (blk_below HK.out hS) 0).trans rfl;have d1:=(blk_cell (blk_below HK.out hS) 1).trans rfl;have d2:=(blk_cell (blk_below HK.out hS) 2).trans rfl;have d3:=(blk_cell (blk_below HK.out hS) 3).trans rfl;have d4:=(blk_cell (blk_below HK.out hS) 4).trans rfl;have d5:=(blk_cell (blk_below HK.out hS) 5).trans rfl;have d6:=(blk_cell (blk_below HK.out hS) 6).trans rfl;have d7:=(blk_cell (blk_below HK.out hS) 7).trans rfl;have d8:=(blk_cell (blk_below HK.out hS) 8).trans rfl;have d9:=(blk_cell (blk_below HX.out hS) 0).trans rfl;have d10:=(blk_cell (blk_below HX.out hS) 1).trans rfl;have d11:=(blk_cell (blk_below HX.out hS) 2).trans rfl;have d12:=(blk_cell (blk_below HX.out hS) 3).trans rfl;go_simp;with_reducible rfl)
    refine pu_ ?_ ?_ 30 (some 35) (lb 42 0x7fffffff) ?_
    refine pu_ ?_ ?_ 31 (some 36) (lb 42 0xffffffff) ?_
    refine pu_ ?_ ?_ 32 (some 37) (lb 42 0x1ffffffff) ?_
    refine pu_ ?_ ?_ 33 (some 38) (lb 42 0x3ffffffff) ?_
    refine pu_ ?_ ?_ 35 (some 40) (lb 42 0xbffffffff) ?_
    refine pu_ ?_ ?_ 36 (some 41) (lb 42 0x1bffffffff) ?_
    refine ta_ ?_ ?_ 34 (some 39) (lb 42 0x1fffffffff) hHeld ?_ (y:=by rintro w' hS;have d0:=(blk_cell (blk_below HK.out hS) 0).trans rfl;have d1:=(blk_cell (blk_below HK.out hS) 1).trans rfl;have d2:=(blk_cell (blk_below HK.out hS) 2).trans rfl;have d3:=(blk_cell (blk_below HK.out hS) 3).trans rfl;have d4:=(blk_cell (blk_below HK.out hS) 4).trans rfl;have d5:=(blk_cell (blk_below HK.out hS) 5).trans rfl;have d6:=(blk_cell (blk_below HK.out hS) 6).trans rfl;have d7:=(blk_cell (blk_below HK.out hS) 7).trans rfl;have d8:=(blk_cell (blk_below HK.out hS) 8).trans rfl;have d9:=(blk_cell (blk_below HX.out hS) 0).trans rfl;have d10:=(blk_cell (blk_below HX.out hS) 1).trans rfl;have d11:=(blk_cell (blk_below HX.out hS) 2).trans rfl;have d12:=(blk_cell (blk_below HX.out hS) 3).trans rfl;go_simp;with_reducible rfl)
    refine ta_ ?_ ?_ 37 (some 42) (lb 42 0x3fffffffff) hHeld ?_ (y:=by rintro w' hS;have d0:=(blk_cell (blk_below HK.out hS) 0).trans rfl;have d1:=(blk_cell (blk_below HK.out hS) 1).trans rfl;have d2:=(blk_cell (blk_below HK.out hS) 2).trans rfl;have d3:=(blk_cell (blk_below HK.out hS) 3).trans rfl;have d4:=(blk_cell (blk_below HK.out hS) 4).trans rfl;have d5:=(blk_cell (blk_below HK.out hS) 5).trans rfl;have d6:=(blk_cell (blk_below HK.out hS) 6).trans rfl;have d7:=(blk_cell (blk_below HK.out hS) 7).trans rfl;have d8:=(blk_cell (blk_below HK.out hS) 8).trans rfl;have d9:=(blk_cell (blk_below HX.out hS) 0).trans rfl;have d10:=(blk_cell (blk_below HX.out hS) 1).trans rfl;have d11:=(blk_cell (blk_below HX.out hS) 2).trans rfl;have d12:=(blk_cell (blk_below HX.out hS) 3).trans rfl;go_simp;with_reducible rfl)
    refine on_ 38 (some 43) (lb 42 0x7fffffffff) (fun K hK => ?_)
    (refine goesC_ Try.func52 (by kernel_rfl) rfl (by rfl) rfl rfl (right_b k.b k.A3 k.c3 g.rules rn HRN.out w0 _ (below_then H.out.below H.out.below.size hHeld) ((blk_cell (blk_below HK.out hHeld) 2).trans rfl) H.out.g.rules) (by simp [Act.eval]) ?_;rintro e w9 ⟨⟨Ar,cr,rfl,hcr⟩,hb9⟩;refine ⟨_,rfl,?_⟩;have HQ9:=Aside0.mk (below_then hHeld hHeld.size hb9);simp only [← HXR.out];clear hb9;refine hK.out _ _ HQ9.out (fun hHeld => ?_))
    clear hK K
    refine nm_ ?_ (some 43) ?_
    refine pu_ ?_ ?_ 39 (some 44) (lb 42 0xffffffffff) ?_
    refine pu_ ?_ ?_ 40 (some 45) (lb 42 0x1ffffffffff) ?_
    refine pu_ ?_ ?_ 41 (some 46) (lb 42 0x3ffffffffff) ?_
    refine done_ (by kernel_rfl) ?_
    rename World => W2
    have HB2:=Aside0.mk (below_then HB0.out HB0.out.size hHeld)
    have HK2:=Aside0.mk (blk_below HKB.out hHeld)
    have HX2:=Aside0.mk (blk_below HX.out hHeld)
    have HZC2:=Aside0.mk (pw_cell_below hHeld HZC.out)
    have HBC2:=Aside0.mk (pw_cell_below hHeld HBC.out)
    clear hHeld
    go_upto_region 3 with (fail)
    refine start_ (n:=24) (S:=fun w' => Below W2.heap.size W2 w') (ds:=[]) (lb 24 0x0) (by kernel_rfl) rfl (by kernel_rfl) (below_drew1 (Below.refl _ _)) (fun hHeld => ?_)
    refine pu_ ?_ ?_ 0 (some 47) (lb 24 0x1) ?_
    refine pu_ ?_ ?_ 1 (some 48) (lb 24 0x3) ?_
    refine pu_ ?_ ?_ 2 (some 49) (lb 24 0x7) ?_
    refine pu_ ?_ ?_ 4 (some 51) (lb 24 0x17) ?_
    refine pu_ ?_ ?_ 5 (some 52) (lb 24 0x37) ?_
    refine pu_ ?_ ?_ 6 (some 53) (lb 24 0x77) ?_
    refine pu_ ?_ ?_ 7 (some 54) (lb 24 0xf7) ?_
    refine pu_ ?_ ?_ 9 (some 56) (lb 24 0x2f7) ?_
    refine pu_ ?_ ?_ 13 (some 60) (lb 24 0x22f7) ?_
    refine pu_ ?_ ?_ 16 (some 63) (lb 24 0x122f7) ?_
    refine pu_ ?_ ?_ 18 (some 65) (lb 24 0x522f7) ?_
    refine ta_ ?_ ?_ 3 (some 50) (lb 24 0x522ff) hHeld ?_ (y:=by rintro w' hS;have d0:=(blk_cell (blk_below HK2.out hS) 0).trans rfl;have d1:=(blk_cell (blk_below HK2.out hS) 1).trans rfl;have d2:=(blk_cell (blk_below HK2.out hS) 2).trans rfl;have d3:=(blk_cell (blk_below HK2.out hS) 3).trans rfl;have d4:=(blk_cell (blk_below HK2.out hS) 4).trans rfl;have d5:=(blk_cell (blk_below HK2.out hS) 5).trans rfl;have d6:=(blk_cell (blk_below HK2.out hS) 6).trans rfl;have d7:=(blk_cell (blk_below HK2.out hS) 7).trans rfl;have d8:=(blk_cell (blk_below HK2.out hS) 8).trans rfl;have d9:=(blk_cell (blk_below HX2.out hS) 0).trans rfl;have d10:=(blk_cell (blk_below HX2.out hS) 1).trans rfl;have d11:=(blk_cell (blk_below HX2.out hS) 2).trans rfl;have d12:=(blk_cell (blk_below HX2.out hS) 3).trans rfl;have d13:=cell_at hS HBC2.out;have d14:=cell_at hS HZC2.out;go_simp;with_reducible rfl)
    refine ta_ ?_ ?_ 8 (some 55) (lb 24 0x523ff) hHeld ?_ (y:=by rintro w' hS;have d0:=(blk_cell (blk_below HK2.out hS) 0).trans rfl;have d1:=(blk_cell (blk_below HK2.out hS) 1).trans rfl;have d2:=(blk_cell (blk_below HK2.out hS) 2).trans rfl;have d3:=(blk_cell (blk_below HK2.out hS) 3).trans rfl;have d4:=(blk_cell (blk_below HK2.out hS) 4).trans rfl;have d5:=(blk_cell (blk_below HK2.out hS) 5).trans rfl;have d6:=(blk_cell (blk_below HK2.out hS) 6).trans rfl;have d7:=(blk_cell (blk_below HK2.out hS) 7).trans rfl;have d8:=(blk_cell (blk_below HK2.out hS) 8).trans rfl;have d9:=(blk_cell (blk_below HX2.out hS) 0).trans rfl;have d10:=(blk_cell (blk_below HX2.out hS) 1).trans rfl;have d11:=(blk_cell (blk_below HX2.out hS) 2).trans rfl;have d12:=(blk_cell (blk_below HX2.out hS) 3).trans rfl;have d13:=cell_at hS HBC2.out;have d14:=cell_at hS HZC2.out;go_simp;with_reducible rfl)
    refine ta_ ?_ ?_ 10 (some 57) (lb 24 0x527ff) hHeld ?_ (y:=by rintro w' hS;have d0:=(blk_cell (blk_below HK2.out hS) 0).trans rfl;have d1:=(blk_cell (blk_below HK2.out hS) 1).trans rfl;have d2:=(blk_cell (blk_below HK2.out hS) 2).trans rfl;have d3:=(blk_cell (blk_below HK2.out hS) 3).trans rfl;have d4:=(blk_cell (blk_below HK2.out hS) 4).trans rfl;have d5:=(blk_cell (blk_below HK2.out hS) 5).trans rfl;have d6:=(blk_cell (blk_below HK2.out hS) 6).trans rfl;have d7:=(blk_cell (blk_below HK2.out hS) 7).trans rfl;have d8:=(blk_cell (blk_below HK2.out hS) 8).trans rfl;have d9:=(blk_cell (blk_below HX2.out hS) 0).trans rfl;have d10:=(blk_cell (blk_below HX2.out hS) 1).trans rfl;have d11:=(blk_cell (blk_below HX2.out hS) 2).trans rfl;have d12:=(blk_cell (blk_below HX2.out hS) 3).trans rfl;have d13:=cell_at hS HBC2.out;have d14:=cell_at hS HZC2.out;go_simp;with_reducible rfl)
    refine pu_ ?_ ?_ 11 (some 58) (lb 24 0x52fff) ?_
    refine ta_ ?_ ?_ 12 (some 59) (lb 24 0x53fff) hHeld ?_ (y:=by rintro w' hS;have d0:=(blk_cell (blk_below HK2.out hS) 0).trans rfl;have d1:=(blk_cell (blk_below HK2.out hS) 1).trans rfl;have d2:=(blk_cell (blk_below HK2.out hS) 2).trans rfl;have d3:=(blk_cell (blk_below HK2.out hS) 3).trans rfl;have d4:=(blk_cell (blk_below HK2.out hS) 4).trans rfl;have d5:=(blk_cell (blk_below HK2.out hS) 5).trans rfl;have d6:=(blk_cell (blk_below HK2.out hS) 6).trans rfl;have d7:=(blk_cell (blk_below HK2.out hS) 7).trans rfl;have d8:=(blk_cell (blk_below HK2.out hS) 8).trans rfl;have d9:=(blk_cell (blk_below HX2.out hS) 0).trans rfl;have d10:=(blk_cell (blk_below HX2.out hS) 1).trans rfl;have d11:=(blk_cell (blk_below HX2.out hS) 2).trans rfl;have d12:=(blk_cell (blk_below HX2.out hS) 3).trans rfl;have d13:=cell_at hS HBC2.out;have d14:=cell_at hS HZC2.out;go_simp;with_reducible rfl)
    refine ta_ ?_ ?_ 14 (some 61) (lb 24 0x57fff) hHeld ?_ (y:=by rintro w' hS;have d0:=(blk_cell (blk_below HK2.out hS) 0).trans rfl;have d1:=(blk_cell (blk_below HK2.out hS) 1).trans rfl;have d2:=(blk_cell (blk_below HK2.out hS) 2).trans rfl;have d3:=(blk_cell (blk_below HK2.out hS) 3).trans rfl;have d4:=(blk_cell (blk_below HK2.out hS) 4).trans rfl;have d5:=(blk_cell (blk_below HK2.out hS) 5).trans rfl;have d6:=(blk_cell (blk_below HK2.out hS) 6).trans rfl;have d7:=(blk_cell (blk_below HK2.out hS) 7).trans rfl;have d8:=(blk_cell (blk_below HK2.out hS) 8).trans rfl;have d9:=(blk_cell (blk_below HX2.out hS) 0).trans rfl;have d10:=(blk_cell (blk_below HX2.out hS) 1).trans rfl;have d11:=(blk_cell (blk_below HX2.out hS) 2).trans rfl;have d12:=(blk_cell (blk_below HX2.out hS) 3).trans rfl;have d13:=cell_at hS HBC2.out;have d14:=cell_at hS HZC2.out;go_simp;with_reducible rfl)
    refine pu_ ?_ ?_ 15 (some 62) (lb 24 0x5ffff) ?_
    refine ta_ ?_ ?_ 17 (some 64) (lb 24 0x7ffff) hHeld ?_ (y:=by rintro w' hS;have d0:=(blk_cell (blk_below HK2.out hS) 0).trans rfl;have d1:=(blk_cell (blk_below HK2.out hS) 1).trans rfl;have d2:=(blk_cell (blk_below HK2.out hS) 2).trans rfl;have d3:=(blk_cell (blk_below HK2.out hS) 3).trans rfl;have d4:=(blk_cell (blk_below HK2.out hS) 4).trans rfl;have d5:=(blk_cell (blk_below HK2.out hS) 5).trans rfl;have d6:=(blk_cell (blk_below HK2.out hS) 6).trans rfl;have d7:=(blk_cell (blk_below HK2.out hS) 7).trans rfl;have d8:=(blk_cell (blk_below HK2.out hS) 8).trans rfl;have d9:=(blk_cell (blk_below HX2.out hS) 0).trans rfl;have d10:=(blk_cell (blk_below HX2.out hS) 1).trans rfl;have d11:=(blk_cell (blk_below HX2.out hS) 2).trans rfl;have d12:=(blk_cell (blk_below HX2.out hS) 3).trans rfl;have d13:=cell_at hS HBC2.out;have d14:=cell_at hS HZC2.out;go_simp;with_reducible rfl)
    refine ta_ ?_ ?_ 19 (some 66) (lb 24 0xfffff) hHeld ?_ (y:=by rintro w' hS;have d0:=(blk_cell (blk_below HK2.out hS) 0).trans rfl;have d1:=(blk_cell (blk_below HK2.out hS) 1).trans rfl;have d2:=(blk_cell (blk_below HK2.out hS) 2).trans rfl;have d3:=(blk_cell (blk_below HK2.out hS) 3).trans rfl;have d4:=(blk_cell (blk_below HK2.out hS) 4).trans rfl;have d5:=(blk_cell (blk_below HK2.out hS) 5).trans rfl;have d6:=(blk_cell (blk_below HK2.out hS) 6).trans rfl;have d7:=(blk_cell (blk_below HK2.out hS) 7).trans rfl;have d8:=(blk_cell (blk_below HK2.out hS) 8).trans rfl;have d9:=(blk_cell (blk_below HX2.out hS) 0).trans rfl;have d10:=(blk_cell (blk_below HX2.out hS) 1).trans rfl;have d11:=(blk_cell (blk_below HX2.out hS) 2).trans rfl;have d12:=(blk_cell (blk_below HX2.out hS) 3).trans rfl;have d13:=cell_at hS HBC2.out;have d14:=cell_at hS HZC2.out;go_simp;with_reducible rfl)
    refine on_ 20 (some 67) (lb 24 0x1fffff) (fun K hK => ?_)
    (refine goesC_ Try.func46 (by kernel_rfl) rfl (by rfl) rfl rfl (at_c k.b wd.length _ _ _ (bz + dn) ii jj _ (t:=97) (cs:=#[]) ((blk_cell (blk_below HK2.out hHeld) 3).trans rfl) (by omega) rfl rfl rfl (by omega) (by omega) (by omega)) (by simp [Act.eval]) ?_;rintro e w9 ⟨rfl,hb9⟩;refine ⟨_,rfl,?_⟩;have HQ9:=Aside0.mk (below_then hHeld hHeld.size hb9);simp only [← HZ.out];clear hb9;refine hK.out _ _ HQ9.out (fun hHeld => ?_))
    clear hK K
    refine nm_ ?_ (some 67) ?_
    refine pu_ ?_ ?_ 21 (some 68) (lb 24 0x3fffff) ?_
    refine ta_ ?_ ?_ 22 (some 69) (lb 24 0x7fffff) hHeld ?_ (y:=by rintro w' hS;have d0:=(blk_cell (blk_below HK2.out hS) 0).trans rfl;have d1:=(blk_cell (blk_below HK2.out hS) 1).trans rfl;have d2:=(blk_cell (blk_below HK2.out hS) 2).trans rfl;have d3:=(blk_cell (blk_below HK2.out hS) 3).trans rfl;have d4:=(blk_cell (blk_below HK2.out hS) 4).trans rfl;have d5:=(blk_cell (blk_below HK2.out hS) 5).trans rfl;have d6:=(blk_cell (blk_below HK2.out hS) 6).trans rfl;have d7:=(blk_cell (blk_below HK2.out hS) 7).trans rfl;have d8:=(blk_cell (blk_below HK2.out hS) 8).trans rfl;have d9:=(blk_cell (blk_below HX2.out hS) 0).trans rfl;have d10:=(blk_cell (blk_below HX2.out hS) 1).trans rfl;have d11:=(blk_cell (blk_below HX2.out hS) 2).trans rfl;have d12:=(blk_cell (blk_below HX2.out hS) 3).trans rfl;have d13:=cell_at hS HBC2.out;have d14:=cell_at hS HZC2.out;go_simp;with_reducible rfl)
    refine pu_ ?_ ?_ 23 (some 4) (lb 24 0xffffff) ?_
    refine done_ (by kernel_rfl) ?_
    go_wp2
    go_ret
    exact ⟨rfl,below_then HB2.out HB2.out.size hHeld⟩
end Go.Proofs.Ytmkgcjhimajgiaa


set_option linter.unusedVariables false
set_option linter.unusedSimpArgs false
namespace Go.Proofs.Ytmkgcjhimajgiaa
open Go.RowKit Go.Proofs.YtmkgcjhimajgiaaW.PrintWords Go.Proofs.YtmkgcjhimajgiaaW.PrintLast Go.Conc

/-- Is a place a pivot? -/
noncomputable def isPiv (g : Gram) (w : List Int) (r d i j k : Nat) : Bool:=symV g w ((rightR g r).getD (d - 1) 0) k j && partV g w r ((d - 1 : Nat) : Int) i k
noncomputable def pivN (g : Gram) (w : List Int) (r d i j m : Nat) : List Int:=(((List.range m).map (i + ·)).filter (isPiv g w r d i j)).map Int.ofNat
/-- Where a part's last symbol may begin. -/
noncomputable def pivF (g : Gram) (w : List Int) (r d i j : Int) : List Int:=if 1 ≤ d ∧ partV g w r d i j = true then pivN g w r.toNat d.toNat i.toNat j.toNat (j.toNat + 1 - i.toNat) else []
theorem pivN_succ (g : Gram) (w : List Int) (r d i j m : Nat) : pivN g w r d i j (m + 1) = pivN g w r d i j m ++ if isPiv g w r d i j (i + m) = true then [((i + m : Nat) : Int)] else []:=by
  unfold pivN
  rw [List.range_succ,List.map_append,List.filter_append,List.map_append]
  congr 1
  by_cases h : isPiv g w r d i j (i + m) = true
  · rw [if_pos h];simp [h]
  · rw [if_neg h];simp [h]
theorem pivN_len (g : Gram) (w : List Int) (r d i j m : Nat) : (pivN g w r d i j m).length ≤ m:=by
  unfold pivN
  rw [List.length_map]
  exact Nat.le_trans (List.length_filter_le _ _) (by simp)
def PivEnd (w : World) (L : List Int) (e : Ending) (w' : World) : Prop:=∃ A c,e = .returned (.slice A L.length c) ∧ kInt.R 3 w' w.heap.size (fun _ => True) (.slice A L.length c) L
set_option maxRecDepth 100000 in
set_option maxHeartbeats 16000000 in
theorem pivM_c (k : CB) (g : Gram) (wd : List Int) (r d i j : Int) (W : World) (h : CF W k g wd) (hs : (-9223372036854775808 ≤ r ∧ r ≤ 9223372036854775807) ∧ (-9223372036854775808 ≤ d ∧ d ≤ 9223372036854775807)) :
    Calls Try.prog 24 #[.pointer (some ⟨k.b,0,none⟩),.agg #[.int .i64 r,.int .i64 d,.int .i64 i,.int .i64 j]] W fun e W' => PivEnd W (pivF g wd r d i j) e W' ∧ Below W.heap.size W W':=by
  obtain ⟨x0,hx0⟩ : ∃ x0,x0 = W.heap.size:=⟨_,rfl⟩
  obtain ⟨W1,hW1⟩ : ∃ W1,W1 = W.alloc (.cells #[.int .i64 r,.int .i64 d,.int .i64 i,.int .i64 j] 30 (0,0)):=⟨_,rfl⟩
  have HB0:=Aside0.mk (show Below W.heap.size W W1 from by rw [hW1];exact below_alloc (Below.refl _ _) _)
  have HC:=Aside0.mk (h.below_ HB0.out)
  have HX:=Aside0.mk (show W1.heap[x0]? = some (.cells #[.int .i64 r,.int .i64 d,.int .i64 i,.int .i64 j] 30 (0,0)) from by rw [hW1,hx0];exact blk_new W _)
  have HS:=Aside0.mk hs
  have HX0:=Lib.hid hx0
  have HW:=Lib.hid hW1
  have x0c : W1.cell? ⟨x0,0,none⟩ = some (.int .i64 r):=(blk_cell HX.out 0).trans rfl
  have x1c : W1.cell? ⟨x0,1,none⟩ = some (.int .i64 d):=(blk_cell HX.out 1).trans rfl
  have x2c : W1.cell? ⟨x0,2,none⟩ = some (.int .i64 i):=(blk_cell HX.out 2).trans rfl
  have x3c : W1.cell? ⟨x0,3,none⟩ = some (.int .i64 j):=(blk_cell HX.out 3).trans rfl
  clear h hs hW1 hx0
  by_cases hd1 : d < 1
  · have HE : Aside0 (pivF g wd r d i j = []):=⟨by unfold pivF;rw [if_neg (by omega)]⟩
    rw [HE.out]
    have g1 : decide (d < 1) = true:=decide_eq_true hd1
    rw [HX0.out,HW.out] at x0c x1c x2c x3c
    go_enter Try.func24,Try.ntmps24
    go_wp2
    go_ret
    exact ⟨⟨none,0,rfl,Kd.R_nil _ _ _ _ _⟩,by rw [← HW.out];exact HB0.out⟩
  · have g1 : decide (d < 1) = false:=decide_eq_false hd1
    cases hpv : partV g wd r d i j
    · have HE : Aside0 (pivF g wd r d i j = []):=⟨by unfold pivF;rw [if_neg (by rw [hpv];simp)]⟩
      have HPV:=Aside0.mk hpv
      rw [HE.out]
      rw [HX0.out,HW.out] at x0c x1c x2c x3c
      clear hpv
      go_enter Try.func24,Try.ntmps24
      go_wp2_with (go_at_call 22;go_loud (simp only [← HX0.out,← HW.out];refine (partM_c k g wd r d i j _ HC.out HS.out HPV.out).mono ?_;rintro e w9 ⟨rfl,hb9⟩))
      go_ret
      exact ⟨⟨none,0,rfl,Kd.R_nil _ _ _ _ _⟩,below_then HB0.out HB0.out.size hb9⟩
    · have hin:=partV_in hpv
      obtain ⟨⟨h1,h2,h3,h4⟩,⟨h5,h6⟩,h7,h8⟩:=hin
      obtain ⟨rn,rfl⟩:=Int.eq_ofNat_of_zero_le h5
      obtain ⟨dn,rfl⟩:=Int.eq_ofNat_of_zero_le h7
      obtain ⟨ii,rfl⟩:=Int.eq_ofNat_of_zero_le h1
      obtain ⟨jj,rfl⟩:=Int.eq_ofNat_of_zero_le h2
      have hle : ii ≤ jj:=(partV_nat.1 hpv).ok.1
      have HE : Aside0 (pivF g wd rn dn ii jj = pivN g wd rn dn ii jj (jj + 1 - ii)):=⟨by unfold pivF;rw [if_pos ⟨by omega,hpv⟩];simp only [Int.toNat_natCast]⟩
      rw [HE.out]
      have HPV:=Aside0.mk hpv
      have hrn : rn < g.rules.length:=by omega
      rw [Int.toNat_natCast] at h8
      replace h8 : dn ≤ (rightR g rn).length:=by omega
      obtain ⟨w0,vq,st,rr,hcm,htab,hpb⟩:=HC.out
      have hnn:=hpb.nn
      have hrow:=(hpb.row hrn h8).2
      have hin2:=right_mem hpb.gd hrn (right_get (k:=rn) (d:=dn - 1) (by omega))
      have HCM:=Aside0.mk hcm
      have HRR:=Aside0.mk (rightR_at hrn)
      have hrl60 : g.rules.length ≤ 60:=(goodF_small hpb.gd).2.2.2
      have hnsy : nsym g ≤ 80:=by have:=goodF_small hpb.gd;unfold nsym;omega
      obtain ⟨xr,hxr⟩ : ∃ xr,xr = g.rules[rn]'hrn:=⟨_,rfl⟩
      have HXR:=Lib.hid hxr
      rw [← hxr] at HRR
      have h8' : dn ≤ xr.right.length:=by rw [← HRR.out];exact h8
      have hrow' : xr.right.length ≤ 8:=by rw [← HRR.out];exact hrow
      obtain ⟨y,hy⟩ : ∃ y,y = (rightR g rn).getD (dn - 1) 0:=⟨_,rfl⟩
      have hyr : xr.right[dn - 1]'(by omega) = y:=by rw [hy,HRR.out,List.getD_eq_getElem?_getD,List.getElem?_eq_getElem (by omega)];rfl
      rw [← hy] at hin2
      have HY:=Lib.hid hy
      have HRN:=Aside0.mk hrn
      have HK:=Aside0.mk hcm.o
      clear hpv hcm htab hpb hxr hy h5 h7 h1 h2 h8 hrow
      rw [HX0.out,HW.out] at x0c x1c x2c x3c
      go_enter Try.func24,Try.ntmps24
      go_wp2_with (go_at_call 22;go_loud (simp only [← HX0.out,← HW.out];refine (partM_c k g wd rn dn ii jj _ HC.out HS.out HPV.out).mono ?_;rintro e w2 ⟨rfl,hb2⟩))
      have HB2:=Aside0.mk (below_then HB0.out HB0.out.size hb2)
      have HK2:=Aside0.mk (blk_below HK.out hb2)
      have HX2:=Aside0.mk (blk_below HX.out hb2)
      have HC2:=Aside0.mk (HC.out.below_ hb2)
      have HW2:=Aside0.mk (below_then HCM.out.below HCM.out.below.size hb2)
      clear hb2 x0c x1c x2c x3c
      have e1 : IntKind.i64.wrap ((dn : Int) - 1) = ((dn - 1 : Nat) : Int):=by rw [IntWalk.i64_in _ (by omega)];omega
      have k2 : ((dn - 1 : Nat) : Int) < (xr.right.length : Int):=by omega
      refine start_ (n:=10) (S:=fun w' => Below w2.heap.size w2 w') (ds:=[]) (lb 10 0x0) (by kernel_rfl) rfl (by kernel_rfl) (below_drew1 (Below.refl _ _)) (fun hHeld => ?_)
      refine pu_ ?_ ?_ 0 (some 17) (lb 10 0x1) ?_
      refine pu_ ?_ ?_ 1 (some 18) (lb 10 0x3) ?_
      refine pu_ ?_ ?_ 4 (some 21) (lb 10 0x13) ?_
      refine ta_ ?_ ?_ 2 (some 19) (lb 10 0x17) hHeld ?_ (y:=by rintro w' hS;have x0:=(blk_cell (blk_below HX2.out hS) 0).trans rfl;have x1:=(blk_cell (blk_below HX2.out hS) 1).trans rfl;(try have r1:=pw_cell_below hS HRC.out);go_simp;with_reducible rfl)
      refine ta_ ?_ ?_ 5 (some 22) (lb 10 0x37) hHeld ?_ (y:=by rintro w' hS;have x0:=(blk_cell (blk_below HX2.out hS) 0).trans rfl;have x1:=(blk_cell (blk_below HX2.out hS) 1).trans rfl;(try have r1:=pw_cell_below hS HRC.out);go_simp;with_reducible rfl)
      refine pu_ ?_ ?_ 6 (some 23) (lb 10 0x77) ?_
      refine on_ 3 (some 20) (lb 10 0x7f) (fun K hK => ?_)
      (refine goesC_ Try.func52 (by kernel_rfl) rfl (by rfl) rfl rfl (right_b k.b k.A3 k.c3 g.rules rn HRN.out w0 _ (below_then HW2.out HW2.out.size hHeld) ((blk_cell (blk_below HK2.out hHeld) 2).trans rfl) HCM.out.g.rules) (by simp [Act.eval]) ?_;rw [← HXR.out];rintro e w9 ⟨⟨Ar,cr,rfl,hcr⟩,hb9⟩;refine ⟨_,rfl,?_⟩;obtain ⟨adr,eadr,hrc⟩:=at_int (Kd.C_below hcr HW2.out) (dn - 1) (by omega);rw [hyr] at hrc;cases eadr;have HRC:=Aside0.mk hrc;have HQ9:=Aside0.mk (below_then hHeld hHeld.size hb9);clear hb9 hcr;refine hK.out _ _ HQ9.out (fun hHeld => ?_))
      clear hK K
      refine nm_ ?_ (some 20) ?_
      refine pu_ ?_ ?_ 7 (some 24) (lb 10 0xff) ?_
      refine ta_ ?_ ?_ 8 (some 25) (lb 10 0x1ff) hHeld ?_ (y:=by rintro w' hS;have x0:=(blk_cell (blk_below HX2.out hS) 0).trans rfl;have x1:=(blk_cell (blk_below HX2.out hS) 1).trans rfl;(try have r1:=pw_cell_below hS HRC.out);go_simp;with_reducible rfl)
      refine pu_ ?_ ?_ 9 (some 6) (lb 10 0x3ff) ?_
      refine done_ (by kernel_rfl) ?_
      rename World => w3
      have HB3:=Aside0.mk (below_then HB2.out HB2.out.size hHeld)
      have HX3:=Aside0.mk (blk_below HX2.out hHeld)
      have HC3:=Aside0.mk (HC2.out.below_ hHeld)
      have x2c : w3.cell? ⟨x0,2,none⟩ = some (.int .i64 (ii : Int)):=(blk_cell HX3.out 2).trans rfl
      clear hHeld e1 k2 HRC
      go_wp2
      clear x2c
      go_loopw [7,5] (fun kv l wr => ∃ m : Nat,m ≤ jj + 1 - ii ∧ kv = .int .i64 ((ii + m : Nat) : Int) ∧ Aside0 (kInt.R 3 wr w3.heap.size (fun _ => True) l (pivN g wd rn dn ii jj m)) ∧ Aside0 (Below w3.heap.size w3 wr)) (fun kv _ _ => jj + 1 - (intOf kv).toNat)
      case atStart => exact ⟨0,Nat.zero_le _,rfl,⟨Kd.R_nil _ _ _ _ _⟩,⟨Below.refl _ _⟩⟩
      case round =>
        obtain ⟨m,hm,rfl,HR,HB⟩:=hrel
        rename World => wm
        obtain ⟨Ar,cr,rfl⟩:=Kd.R_slice HR.out
        have x3c : wm.cell? ⟨x0,3,none⟩ = some (.int .i64 (jj : Int)):=(blk_cell (blk_below HX3.out HB.out) 3).trans rfl
        by_cases hml : ii + m ≤ jj
        · have m2 : ((ii + m : Nat) : Int) ≤ (jj : Int):=by omega
          have HPL:=Lib.hid (pivN_len g wd rn dn ii jj m)
          have HSU:=Lib.hid (pivN_succ g wd rn dn ii jj m)
          obtain ⟨pl,hpl⟩ : ∃ pl,pl = pivN g wd rn dn ii jj m:=⟨_,rfl⟩
          rw [← hpl] at HR HPL HSU ⊢
          obtain ⟨km,hkm⟩ : ∃ km,km = ii + m:=⟨_,rfl⟩
          rw [← hkm] at m2 hml HSU ⊢
          have HKM:=Lib.hid hkm
          have hpis : isPiv g wd rn dn ii jj km = (symV g wd y km jj && partV g wd rn ((dn - 1 : Nat) : Int) ii km):=by unfold isPiv;rw [← HY.out]
          rw [hpis] at HSU
          obtain ⟨sv,hsv⟩ : ∃ sv,symV g wd y km jj = sv:=⟨_,rfl⟩
          obtain ⟨pv,hpv⟩ : ∃ pv,partV g wd rn ((dn - 1 : Nat) : Int) ii km = pv:=⟨_,rfl⟩
          rw [hsv,hpv] at HSU
          have HSV:=Lib.hid hsv
          have HPV2:=Lib.hid hpv
          have hyb : -9223372036854775808 ≤ y ∧ y ≤ 9223372036854775807:=by omega
          have hdb : (-9223372036854775808 ≤ (rn : Int) ∧ (rn : Int) ≤ 9223372036854775807) ∧ (-9223372036854775808 ≤ ((dn - 1 : Nat) : Int) ∧ ((dn - 1 : Nat) : Int) ≤ 9223372036854775807):=by omega
          have e1 : IntKind.i64.wrap ((dn : Int) - 1) = ((dn - 1 : Nat) : Int):=by rw [IntWalk.i64_in _ (by omega)];omega
          have HSY:=Aside0.mk (symM_c k g wd y km jj wm (HC3.out.below_ HB.out) hyb HSV.out)
          clear hpis hsv hpv hpl hkm
          cases sv
          · go_wp2_with (go_at_call 26;go_loud (refine HSY.out.mono ?_;rintro e w5 ⟨rfl,hb5⟩;have HB5:=Aside0.mk (below_then HB.out HB.out.size hb5);have HR5:=Aside0.mk (Kd.R_below HR.out hb5);clear hb5))
            go_roundw
            case rel => exact ⟨m + 1,by have:=HKM.out;omega,by rw [HKM.out];go_num,by rw [HSU.out];simpa using HR5,HB5⟩
            case measure => simp [intOf];omega
          · cases pv
            · go_wp2_with (first | (have hx:=HB5.out;go_at_call 22;go_loud (refine (partM_c k g wd rn ((dn - 1 : Nat) : Int) ii km _ (HC3.out.below_ HB5.out) hdb HPV2.out).mono ?_;rintro e w6 ⟨rfl,hb6⟩;have HB6:=Aside0.mk (below_then HB5.out HB5.out.size hb6);have HR6:=Aside0.mk (Kd.R_below HR5.out hb6);clear hb6)) | (go_at_call 26;go_loud (refine HSY.out.mono ?_;rintro e w5 ⟨rfl,hb5⟩;have HB5:=Aside0.mk (below_then HB.out HB.out.size hb5);have HR5:=Aside0.mk (Kd.R_below HR.out hb5);have c0 : w5.cell? ⟨x0,0,none⟩ = some (.int .i64 (rn : Int)):=(blk_cell (blk_below HX3.out HB5.out) 0).trans rfl;have c1 : w5.cell? ⟨x0,1,none⟩ = some (.int .i64 (dn : Int)):=(blk_cell (blk_below HX3.out HB5.out) 1).trans rfl;have c2 : w5.cell? ⟨x0,2,none⟩ = some (.int .i64 (ii : Int)):=(blk_cell (blk_below HX3.out HB5.out) 2).trans rfl;clear hb5;skip)))
              go_roundw
              case rel => exact ⟨m + 1,by have:=HKM.out;omega,by rw [HKM.out];go_num,by rw [HSU.out];simpa using HR6,HB6⟩
              case measure => simp [intOf];omega
            · go_wp2_with (first | (have hx:=HB6.out;at_builtin;refine app_int (w0:=w3) (base:=w3.heap.size) (p:=(km : Int)) (ok:=fun _ => True) rfl rfl HR6.out HB6.out HB6.out.size (by have:=HPL.out;omega) (fun _ _ => trivial) rfl (by simp [Act.eval]) ?_;intro v7 w7 A7;obtain ⟨A',c',rfl⟩:=A7.shape;have HR7:=Aside0.mk A7.row;have HB7:=Aside0.mk A7.below;clear A7) | (have hx:=HB5.out;go_at_call 22;go_loud (refine (partM_c k g wd rn ((dn - 1 : Nat) : Int) ii km _ (HC3.out.below_ HB5.out) hdb HPV2.out).mono ?_;rintro e w6 ⟨rfl,hb6⟩;have HB6:=Aside0.mk (below_then HB5.out HB5.out.size hb6);have HR6:=Aside0.mk (Kd.R_below HR5.out hb6);clear hb6)) | (go_at_call 26;go_loud (refine HSY.out.mono ?_;rintro e w5 ⟨rfl,hb5⟩;have HB5:=Aside0.mk (below_then HB.out HB.out.size hb5);have HR5:=Aside0.mk (Kd.R_below HR.out hb5);have c0 : w5.cell? ⟨x0,0,none⟩ = some (.int .i64 (rn : Int)):=(blk_cell (blk_below HX3.out HB5.out) 0).trans rfl;have c1 : w5.cell? ⟨x0,1,none⟩ = some (.int .i64 (dn : Int)):=(blk_cell (blk_below HX3.out HB5.out) 1).trans rfl;have c2 : w5.cell? ⟨x0,2,none⟩ = some (.int .i64 (ii : Int)):=(blk_cell (blk_below HX3.out HB5.out) 2).trans rfl;clear hb5;skip)))
              go_roundw
              case rel => exact ⟨m + 1,by have:=HKM.out;omega,by rw [HKM.out];go_num,by rw [HSU.out];simpa using HR7,HB7⟩
              case measure => simp [intOf];omega
        · have hme : m = jj + 1 - ii:=by omega
          have m2 : ¬ ((ii + m : Nat) : Int) ≤ (jj : Int):=by omega
          have HE2 : Aside0 (PivEnd W (pivN g wd rn dn ii jj (jj + 1 - ii)) (.returned (.slice Ar (pivN g wd rn dn ii jj (jj + 1 - ii)).length cr)) wm):=⟨⟨Ar,cr,rfl,by have:=HR.out;rw [hme] at this;exact Kd.R_lower this HB3.out.size⟩⟩
          rw [hme]
          clear hme
          go_wp2
          go_ret
          exact ⟨HE2.out,below_then HB3.out HB3.out.size HB.out⟩
end Go.Proofs.Ytmkgcjhimajgiaa


set_option linter.unusedVariables false
set_option linter.unusedSimpArgs false
namespace Go.Proofs.Ytmkgcjhimajgiaa
open Go.RowKit Go.Proofs.YtmkgcjhimajgiaaW.PrintWords Go.Proofs.YtmkgcjhimajgiaaW.PrintLast Go.Conc

structure SpN where
  s : Nat
  i : Nat
  j : Nat
deriving DecidableEq,Inhabited
def kSp : Kd SpN:=Kd.iso (Kd.pair kInt (Kd.pair kInt kInt)) (fun p : SpN => ((p.s : Int),(p.i : Int),(p.j : Int)))
noncomputable def rowJ (g : Gram) (w : List Int) (s i m : Nat) : List SpN:=((List.range m).map fun t => (⟨s,i,i + t⟩ : SpN)).filter fun x => symV g w x.s x.i x.j
noncomputable def rowI (g : Gram) (w : List Int) (s m : Nat) : List SpN:=(List.range m).flatMap fun i => rowJ g w s i (w.length + 1 - i)
noncomputable def spansL (g : Gram) (w : List Int) (m : Nat) : List SpN:=(List.range m).flatMap fun k => rowI g w (g.terms.length + k) (w.length + 1)
noncomputable def spansF (g : Gram) (w : List Int) : List SpN:=spansL g w g.names.length
def SpEnd (w : World) (L : List SpN) (e : Ending) (w' : World) : Prop:=∃ A c,e = .returned (.slice A L.length c) ∧ kSp.R 28 w' w.heap.size (fun _ => True) (.slice A L.length c) L
end Go.Proofs.Ytmkgcjhimajgiaa


set_option linter.unusedVariables false
set_option linter.unusedSimpArgs false
namespace Go.Proofs.Ytmkgcjhimajgiaa
open Go.RowKit Go.Proofs.YtmkgcjhimajgiaaW.PrintWords Go.Proofs.YtmkgcjhimajgiaaW.PrintLast Go.Conc

def noneG : Gram:=⟨[],[],[]⟩
def wake24S : ByteArray:=⟨#[83,32,61,32,83,32,83,32,124,32,39,97,39,32,124,32,59]⟩
def wake24G : Gram:=⟨[⟨#[97]⟩],[⟨#[83]⟩],[⟨1,[1,1]⟩,⟨1,[0]⟩,⟨1,[]⟩]⟩
end Go.Proofs.Ytmkgcjhimajgiaa


set_option linter.unusedVariables false
set_option linter.unusedSimpArgs false
namespace Go.Proofs.Ytmkgcjhimajgiaa
open Go.RowKit Go.Proofs.YtmkgcjhimajgiaaW.PrintWords Go.Proofs.YtmkgcjhimajgiaaW.PrintLast Go.Conc

end Go.Proofs.Ytmkgcjhimajgiaa

