/- The law ChartNone,walked: a chart that nobody made has nothing. -/
import Derived.Test.YtmkgcjhimajgiaaJI
import Derived.Test.YtmkgcjhimajgiaaJK
set_option linter.unusedVariables false
set_option linter.unusedSimpArgs false
namespace Go.Proofs.Ytmkgcjhimajgiaa
open Go.RowKit Go.Proofs.YtmkgcjhimajgiaaW.PrintWords Go.Proofs.YtmkgcjhimajgiaaW.PrintLast Go.Conc

set_option maxRecDepth 100000 in
set_option maxHeartbeats 4000000 in
theorem symNil_c (s i j : Int) (W : World) : Calls Try.prog 26 #[.pointer none,.agg #[.int .i64 s,.int .i64 i,.int .i64 j]] W fun e W' => e = .returned (.bool false) ∧ Below W.heap.size W W':=by
  go_enter Try.func26,Try.ntmps26
  go_wp2
  go_ret
  exact ⟨rfl,below_alloc (Below.refl _ _) _⟩
set_option maxRecDepth 100000 in
set_option maxHeartbeats 4000000 in
theorem partNil_c (r d i j : Int) (W : World) : Calls Try.prog 22 #[.pointer none,.agg #[.int .i64 r,.int .i64 d,.int .i64 i,.int .i64 j]] W fun e W' => e = .returned (.bool false) ∧ Below W.heap.size W W':=by
  obtain ⟨W1,hW1⟩ : ∃ W1,W1 = W.alloc (.cells #[.int .i64 r,.int .i64 d,.int .i64 i,.int .i64 j] 30 (0,0)):=⟨_,rfl⟩
  have HB:=Aside0.mk (show Below W.heap.size W W1 from by rw [hW1];exact below_alloc (Below.refl _ _) _)
  go_enter Try.func22,Try.ntmps22
  go_wp2
  simp only [← hW1]
  clear hW1
  refine start_ (n:=42) (S:=fun w' => Below W1.heap.size W1 w') (ds:=[]) (lb 42 0x0) (by kernel_rfl) rfl (by kernel_rfl) (below_drew1 (Below.refl _ _)) (fun hHeld => ?_)
  refine pu_ ?_ ?_ 0 (some 5) (lb 42 0x1) ?_
  refine pu_ ?_ ?_ 1 (some 6) (lb 42 0x3) ?_
  refine pu_ ?_ ?_ 2 (some 7) (lb 42 0x7) ?_
  refine po_ ?_ 3 (some 8) (lb 42 0xf) ?_
  refine po_ ?_ 4 (some 9) (lb 42 0x1f) ?_
  refine po_ ?_ 6 (some 11) (lb 42 0x5f) ?_
  refine po_ ?_ 5 (some 10) (lb 42 0x7f) ?_
  refine po_ ?_ 7 (some 12) (lb 42 0xff) ?_
  refine on_ 8 (some 13) (lb 42 0x1ff) (fun K hK => ?_)
  refine off_ (by rfl) ?_
  refine hK.out _ _ hHeld (fun hHeld => ?_)
  clear hK K
  refine nm_ ?_ (some 13) ?_
  refine po_ ?_ 9 (some 14) (lb 42 0x3ff) ?_
  refine pu_ ?_ ?_ 10 (some 15) (lb 42 0x7ff) ?_
  refine pu_ ?_ ?_ 11 (some 16) (lb 42 0xfff) ?_
  refine po_ ?_ 12 (some 17) (lb 42 0x1fff) ?_
  refine po_ ?_ 13 (some 18) (lb 42 0x3fff) ?_
  refine po_ ?_ 14 (some 19) (lb 42 0x7fff) ?_
  refine pu_ ?_ ?_ 15 (some 20) (lb 42 0xffff) ?_
  refine pu_ ?_ ?_ 16 (some 21) (lb 42 0x1ffff) ?_
  refine po_ ?_ 17 (some 22) (lb 42 0x3ffff) ?_
  refine po_ ?_ 19 (some 24) (lb 42 0xbffff) ?_
  refine po_ ?_ 20 (some 25) (lb 42 0x1bffff) ?_
  refine po_ ?_ 21 (some 26) (lb 42 0x3bffff) ?_
  refine po_ ?_ 22 (some 27) (lb 42 0x7bffff) ?_
  refine po_ ?_ 18 (some 23) (lb 42 0x7fffff) ?_
  refine po_ ?_ 23 (some 28) (lb 42 0xffffff) ?_
  refine po_ ?_ 24 (some 29) (lb 42 0x1ffffff) ?_
  refine po_ ?_ 25 (some 30) (lb 42 0x3ffffff) ?_
  refine pu_ ?_ ?_ 26 (some 31) (lb 42 0x7ffffff) ?_
  refine pu_ ?_ ?_ 27 (some 32) (lb 42 0xfffffff) ?_
  refine po_ ?_ 28 (some 33) (lb 42 0x1fffffff) ?_
  refine po_ ?_ 29 (some 34) (lb 42 0x3fffffff) ?_
  refine po_ ?_ 30 (some 35) (lb 42 0x7fffffff) ?_
  refine pu_ ?_ ?_ 31 (some 36) (lb 42 0xffffffff) ?_
  refine pu_ ?_ ?_ 32 (some 37) (lb 42 0x1ffffffff) ?_
  refine po_ ?_ 33 (some 38) (lb 42 0x3ffffffff) ?_
  refine po_ ?_ 35 (some 40) (lb 42 0xbffffffff) ?_
  refine po_ ?_ 36 (some 41) (lb 42 0x1bffffffff) ?_
  refine po_ ?_ 34 (some 39) (lb 42 0x1fffffffff) ?_
  refine po_ ?_ 37 (some 42) (lb 42 0x3fffffffff) ?_
  refine on_ 38 (some 43) (lb 42 0x7fffffffff) (fun K hK => ?_)
  refine off_ (by rfl) ?_
  refine hK.out _ _ hHeld (fun hHeld => ?_)
  clear hK K
  refine nm_ ?_ (some 43) ?_
  refine po_ ?_ 39 (some 44) (lb 42 0xffffffffff) ?_
  refine po_ ?_ 40 (some 45) (lb 42 0x1ffffffffff) ?_
  refine pu_ ?_ ?_ 41 (some 46) (lb 42 0x3ffffffffff) ?_
  refine done_ (by kernel_rfl) ?_
  go_wp2
  go_ret
  exact ⟨rfl,below_then HB.out HB.out.size hHeld⟩
set_option maxRecDepth 100000 in
set_option maxHeartbeats 4000000 in
theorem pivNil_c (r d i j : Int) (W : World) : Calls Try.prog 24 #[.pointer none,.agg #[.int .i64 r,.int .i64 d,.int .i64 i,.int .i64 j]] W fun e W' => e = .returned (.slice none 0 0) ∧ Below W.heap.size W W':=by
  have HB:=Aside0.mk (below_alloc (Below.refl W.heap.size W) (.cells #[.int .i64 r,.int .i64 d,.int .i64 i,.int .i64 j] 30 (0,0)))
  by_cases hd : d < 1
  · have g1 : decide (d < 1) = true:=decide_eq_true hd
    go_enter Try.func24,Try.ntmps24
    go_wp2
    go_ret
    exact ⟨rfl,HB.out⟩
  · have g1 : decide (d < 1) = false:=decide_eq_false hd
    go_enter Try.func24,Try.ntmps24
    go_wp2_with (go_at_call 22;go_loud (refine (partNil_c r d i j _).mono ?_;rintro e w9 ⟨rfl,hb9⟩))
    go_ret
    exact ⟨rfl,below_then HB.out HB.out.size hb9⟩
set_option maxRecDepth 100000 in
set_option maxHeartbeats 4000000 in
theorem spansNil_c (W : World) : Calls Try.prog 20 #[.pointer none] W fun e W' => e = .returned (.slice none 0 0) ∧ Below W.heap.size W W':=by
  go_enter Try.func20,Try.ntmps20
  go_wp2
  go_ret
  exact ⟨rfl,Below.refl _ _⟩
set_option maxRecDepth 100000 in
set_option maxHeartbeats 4000000 in
theorem chartNone_c (a b c d e f g : Int) (W : World) (_ : I64 a) (_ : I64 b) (_ : I64 c) (_ : I64 d) (_ : I64 e) (_ : I64 f) (_ : I64 g) :
    Calls Try.prog 4 #[.agg #[.int .i64 a,.int .i64 b,.int .i64 c,.int .i64 d,.int .i64 e,.int .i64 f,.int .i64 g]] W fun e W' => e = .returned (.bool true) ∧ Below W.heap.size W W':=by
  obtain ⟨x0,hx0⟩ : ∃ x0,x0 = W.heap.size:=⟨_,rfl⟩
  obtain ⟨W1,hW1⟩ : ∃ W1,W1 = W.alloc (.cells #[.int .i64 a,.int .i64 b,.int .i64 c,.int .i64 d,.int .i64 e,.int .i64 f,.int .i64 g] 32 (0,0)):=⟨_,rfl⟩
  have HB:=Aside0.mk (show Below W.heap.size W W1 from by rw [hW1];exact below_alloc (Below.refl _ _) _)
  have HX:=Aside0.mk (show W1.heap[x0]? = some (.cells #[.int .i64 a,.int .i64 b,.int .i64 c,.int .i64 d,.int .i64 e,.int .i64 f,.int .i64 g] 32 (0,0)) from by rw [hW1,hx0];exact blk_new W _)
  have HX0:=Lib.hid hx0
  have HW:=Lib.hid hW1
  clear hx0 hW1
  go_enter Try.func4,Try.ntmps4
  go_upto_region 2 with (fail)
  simp only [← HX0.out,← HW.out]
  refine pl_start ?_
  refine pl_held (B:=W1.heap.size) (v:=W1) (Below.refl _ _) (fun hHeld => ?_)
  refine pp_ ?_ ?_ ?_
  refine pp_ ?_ ?_ ?_
  refine pp_ ?_ ?_ ?_ (y:=by have d0:=(blk_cell (blk_below HX.out hHeld) 0).trans rfl;have d1:=(blk_cell (blk_below HX.out hHeld) 1).trans rfl;have d2:=(blk_cell (blk_below HX.out hHeld) 2).trans rfl;have d3:=(blk_cell (blk_below HX.out hHeld) 3).trans rfl;have d4:=(blk_cell (blk_below HX.out hHeld) 4).trans rfl;have d5:=(blk_cell (blk_below HX.out hHeld) 5).trans rfl;have d6:=(blk_cell (blk_below HX.out hHeld) 6).trans rfl;go_simp;rfl)
  refine goesCL_ (N:=(some 7)) Try.func26 (by kernel_rfl) rfl (by rfl) rfl rfl (symNil_c a b c _) (by simp [Act.eval]) ?_
  rintro e x2_3 ⟨rfl,hb2_3⟩
  refine ⟨_,rfl,?_⟩
  simp only [Act.put,List.setIfInBounds_toArray,List.set_cons_zero,List.set_cons_succ]
  refine pl_held (B:=W1.heap.size) (v:=W1) (below_then hHeld hHeld.size hb2_3) (fun hHeld => ?_)
  refine pp_ ?_ ?_ ?_
  refine pp_ ?_ ?_ ?_
  refine pp_ ?_ ?_ ?_
  refine pp_ ?_ ?_ ?_
  refine pp_ ?_ ?_ ?_ (y:=by have d0:=(blk_cell (blk_below HX.out hHeld) 0).trans rfl;have d1:=(blk_cell (blk_below HX.out hHeld) 1).trans rfl;have d2:=(blk_cell (blk_below HX.out hHeld) 2).trans rfl;have d3:=(blk_cell (blk_below HX.out hHeld) 3).trans rfl;have d4:=(blk_cell (blk_below HX.out hHeld) 4).trans rfl;have d5:=(blk_cell (blk_below HX.out hHeld) 5).trans rfl;have d6:=(blk_cell (blk_below HX.out hHeld) 6).trans rfl;go_simp;rfl)
  refine goesCL_ (N:=(some 13)) Try.func22 (by kernel_rfl) rfl (by rfl) rfl rfl (partNil_c d e f g _) (by simp [Act.eval]) ?_
  rintro e x2_9 ⟨rfl,hb2_9⟩
  refine ⟨_,rfl,?_⟩
  simp only [Act.put,List.setIfInBounds_toArray,List.set_cons_zero,List.set_cons_succ]
  refine pl_held (B:=W1.heap.size) (v:=W1) (below_then hHeld hHeld.size hb2_9) (fun hHeld => ?_)
  refine pp_ ?_ ?_ ?_
  refine pp_ ?_ ?_ ?_
  refine pp_ ?_ ?_ ?_
  refine pp_ ?_ ?_ ?_
  refine pp_ ?_ ?_ ?_
  refine pp_ ?_ ?_ ?_ (y:=by have d0:=(blk_cell (blk_below HX.out hHeld) 0).trans rfl;have d1:=(blk_cell (blk_below HX.out hHeld) 1).trans rfl;have d2:=(blk_cell (blk_below HX.out hHeld) 2).trans rfl;have d3:=(blk_cell (blk_below HX.out hHeld) 3).trans rfl;have d4:=(blk_cell (blk_below HX.out hHeld) 4).trans rfl;have d5:=(blk_cell (blk_below HX.out hHeld) 5).trans rfl;have d6:=(blk_cell (blk_below HX.out hHeld) 6).trans rfl;go_simp;rfl)
  refine goesCL_ (N:=(some 20)) Try.func24 (by kernel_rfl) rfl (by rfl) rfl rfl (pivNil_c d e f g _) (by simp [Act.eval]) ?_
  rintro e x2_16 ⟨rfl,hb2_16⟩
  refine ⟨_,rfl,?_⟩
  simp only [Act.put,List.setIfInBounds_toArray,List.set_cons_zero,List.set_cons_succ]
  refine pl_held (B:=W1.heap.size) (v:=W1) (below_then hHeld hHeld.size hb2_16) (fun hHeld => ?_)
  refine pp_ ?_ ?_ ?_
  refine pp_ ?_ ?_ ?_
  refine pp_ ?_ ?_ ?_
  refine pp_ ?_ ?_ ?_
  refine pp_ ?_ ?_ ?_
  refine goesCL_ (N:=(some 26)) Try.func20 (by kernel_rfl) rfl (by rfl) rfl rfl (spansNil_c _) (by simp [Act.eval]) ?_
  rintro e x2_22 ⟨rfl,hb2_22⟩
  refine ⟨_,rfl,?_⟩
  simp only [Act.put,List.setIfInBounds_toArray,List.set_cons_zero,List.set_cons_succ]
  refine pl_held (B:=W1.heap.size) (v:=W1) (below_then hHeld hHeld.size hb2_22) (fun hHeld => ?_)
  refine pp_ ?_ ?_ ?_
  refine pp_ ?_ ?_ ?_
  refine pp_ ?_ ?_ ?_
  refine pp_ ?_ ?_ ?_
  refine goesCL_ (N:=(some 31)) Try.func16 (by kernel_rfl) rfl (by rfl) rfl rfl (wakes24_c _) (by simp [Act.eval]) ?_
  rintro e x2_27 ⟨rfl,hb2_27⟩
  refine ⟨_,rfl,?_⟩
  simp only [Act.put,List.setIfInBounds_toArray,List.set_cons_zero,List.set_cons_succ]
  refine pl_held (B:=W1.heap.size) (v:=W1) (below_then hHeld hHeld.size hb2_27) (fun hHeld => ?_)
  refine pp_ ?_ ?_ ?_
  refine pp_ ?_ ?_ ?_
  refine pl_nil ?_
  go_wp2
  go_ret
  exact ⟨ret_bool rfl,below_then HB.out HB.out.size hHeld⟩
end Go.Proofs.Ytmkgcjhimajgiaa
