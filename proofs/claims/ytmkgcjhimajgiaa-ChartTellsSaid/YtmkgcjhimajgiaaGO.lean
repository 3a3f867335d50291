/- Contracts of functions of the program, and plain laws (texts O1, O2, O3, O4, O5, O6, O7), joined: each theorem says what it proves. -/
import Derived.Test.YtmkgcjhimajgiaaGK
import Derived.Test.YtmkgcjhimajgiaaGI
import Derived.Test.YtmkgcjhimajgiaaGG
import Derived.Test.YtmkgcjhimajgiaaGN
set_option linter.unusedVariables false
set_option linter.unusedSimpArgs false
namespace Go.Proofs.Ytmkgcjhimajgiaa
open Go.RowKit Go.Proofs.YtmkgcjhimajgiaaW.PrintWords Go.Proofs.YtmkgcjhimajgiaaW.PrintLast Go.Conc

structure RB where
  b : Nat
  A1 : Option Addr
  A2 : Option Addr
  A3 : Option Addr
  c1 : Nat
  c2 : Nat
  c3 : Nat
  B : Option Addr
  cb : Nat
  h : Nat
  ch : Nat
  bs : List Nat
/-- The document's chart: its struct,its grammar,its word,its table. -/
structure RC (W : World) (lo : Nat) (k : RB) (g : Gram) (wd : List Int) (M : Tab) : Prop where
  o : W.heap[k.b]? = some (.cells #[.slice k.A1 g.terms.length k.c1,.slice k.A2 g.names.length k.c2,.slice k.A3 g.rules.length k.c3,.slice k.B wd.length k.cb,.slice (some ⟨k.h,0,none⟩) (nsym g * (wd.length + 1)) k.ch] 105 (0,0))
  rep : RepG W g k.A1 k.A2 k.A3 k.c1 k.c2 k.c3
  w : kInt.C W k.B wd.length wd
  t : TT W lo k.h k.bs (wd.length + 1) M
  bl : k.bs.length = nsym g * (wd.length + 1)
theorem RC.below_ {W W' : World} {lo : Nat} {k : RB} {g : Gram} {wd : List Int} {M : Tab} (h : RC W lo k g wd M) (hb : Below W.heap.size W W') : RC W' lo k g wd M :=
  ⟨blk_below h.o hb,h.rep.below_ hb,Kd.C_below h.w hb,h.t.below hb,h.bl⟩
structure Sm40 (g : Gram) (wd : List Int) : Prop where
  t : g.terms.length ≤ 40
  n : g.names.length ≤ 40
  w : wd.length ≤ 40
set_option maxRecDepth 100000 in
set_option maxHeartbeats 16000000 in
theorem symR_c (k : RB) (g : Gram) (wd : List Int) (M : Tab) (lo : Nat) (s i j : Int) (W : World) (h : RC W lo k g wd M) (hq : Sm40 g wd) {v : Bool} (hv : spanB g wd M s i j = v) :
    Calls Try.prog 27 #[.pointer (some ⟨k.b,0,none⟩),.agg #[.int .i64 s,.int .i64 i,.int .i64 j]] W fun e W' => e = .returned (.bool v) ∧ Below W.heap.size W W':=by
  obtain ⟨x0,hx0⟩ : ∃ x0,x0 = W.heap.size:=⟨_,rfl⟩
  obtain ⟨v0,hv0⟩ : ∃ v0 : World,v0 = W.alloc (.cells #[.int .i64 s,.int .i64 i,.int .i64 j] 28 (0,0)):=⟨_,rfl⟩
  have HB0 : Aside0 (Below W.heap.size W v0):=⟨by rw [hv0];exact (Below.refl W.heap.size W).alloc (Nat.le_refl _) _⟩
  have HX : Aside0 (v0.heap[x0]? = some (.cells #[.int .i64 s,.int .i64 i,.int .i64 j] 28 (0,0))):=⟨by rw [hv0,hx0];exact blk_new W _⟩
  have HC:=Aside0.mk (h.below_ HB0.out)
  have HO:=Aside0.mk HC.out.o
  obtain ⟨q1,q2,q3⟩:=hq
  obtain ⟨n,hn⟩ : ∃ n,n = wd.length:=⟨_,rfl⟩
  obtain ⟨ns,hns⟩ : ∃ ns,ns = nsym g:=⟨_,rfl⟩
  have hns80 : ns ≤ 80:=by rw [hns];unfold nsym;omega
  have e1 : IntKind.i64.wrap ((g.terms.length : Int) + (g.names.length : Int)) = (ns : Int):=by rw [IntWalk.i64_in _ (by omega),hns];unfold nsym;omega
  have htn : g.terms.length ≤ ns:=by rw [hns];unfold nsym;omega
  have hn40 : n ≤ 40:=by omega
  have HN:=Lib.hid hn
  have HNS:=Lib.hid hns
  obtain ⟨p0,hp0⟩ : ∃ b,decide (s < 0) = b:=⟨_,rfl⟩
  obtain ⟨p1,hp1⟩ : ∃ b,decide ((ns : Int) ≤ s) = b:=⟨_,rfl⟩
  obtain ⟨p2,hp2⟩ : ∃ b,decide (i < 0) = b:=⟨_,rfl⟩
  obtain ⟨p3,hp3⟩ : ∃ b,decide ((n : Int) < i) = b:=⟨_,rfl⟩
  obtain ⟨p4,hp4⟩ : ∃ b,decide (j < i) = b:=⟨_,rfl⟩
  obtain ⟨p5,hp5⟩ : ∃ b,decide ((n : Int) < j) = b:=⟨_,rfl⟩
  have HV:=Lib.hid hv
  have HP0:=Lib.hid hp0
  have HP1:=Lib.hid hp1
  have HP2:=Lib.hid hp2
  have HP3:=Lib.hid hp3
  have HP4:=Lib.hid hp4
  have HP5:=Lib.hid hp5
  have hno : (p0 || p1 || p2 || p3 || p4 || p5) = true → v = false:=fun h => by
    rw [← hv]
    unfold spanB
    rw [if_pos]
    rw [← hp0,← hp1,← hp2,← hp3,← hp4,← hp5,hns,hn] at h
    simpa [Bool.or_eq_true,or_assoc] using h
  have HNO:=Lib.hid hno
  rw [← hn,← hns] at HO
  have a3:=(blk_cell HO.out 3).trans rfl
  clear h hv hn hns hno
  go_enter Try.func27,Try.ntmps27
  go_upto_region 1 with (fail)
  simp only [← hv0]
  simp only [← hx0]
  have HX0:=Lib.hid hx0
  clear hv0 hx0
  go_upto_region 2 with (fail)
  clear a3
  have HLD : Aside0 (∀ w' : World,Below v0.heap.size v0 w' → w'.cell? ⟨x0,0,none⟩ = some (.int .i64 s) ∧ w'.cell? ⟨x0,1,none⟩ = some (.int .i64 i) ∧ w'.cell? ⟨x0,2,none⟩ = some (.int .i64 j) ∧ w'.cell? ⟨k.b,0,none⟩ = some (.slice k.A1 g.terms.length k.c1) ∧ w'.cell? ⟨k.b,1,none⟩ = some (.slice k.A2 g.names.length k.c2) ∧ w'.cell? ⟨k.b,2,none⟩ = some (.slice k.A3 g.rules.length k.c3) ∧ w'.cell? ⟨k.b,3,none⟩ = some (.slice k.B n k.cb)):=⟨fun w' h => ⟨(blk_cell (blk_below HX.out h) 0).trans rfl,(blk_cell (blk_below HX.out h) 1).trans rfl,(blk_cell (blk_below HX.out h) 2).trans rfl,(blk_cell (blk_below HO.out h) 0).trans rfl,(blk_cell (blk_below HO.out h) 1).trans rfl,(blk_cell (blk_below HO.out h) 2).trans rfl,(blk_cell (blk_below HO.out h) 3).trans rfl⟩⟩
  cases p0
  case true =>
    obtain rfl:=HNO.out (by simp)
    refine start_ (n:=45) (S:=fun w' => Below v0.heap.size v0 w') (ds:=[]) (lb 45 0x0) (by kernel_rfl) rfl (by kernel_rfl) (below_drew1 (Below.refl _ _)) (fun hHeld => ?_)
    refine pu_ ?_ ?_ 0 (some 11) (lb 45 0x1) ?_
    refine ta_ ?_ ?_ 1 (some 12) (lb 45 0x3) hHeld ?_ (y:=by rintro w' hS;obtain ⟨d0,d1,d2,d3,d4,d5,d6⟩:=HLD.out w' hS;go_simp;with_reducible rfl)
    refine pu_ ?_ ?_ 2 (some 13) (lb 45 0x7) ?_
    refine pu_ ?_ ?_ 3 (some 14) (lb 45 0xf) ?_
    refine po_ ?_ 4 (some 15) (lb 45 0x1f) ?_
    refine po_ ?_ 6 (some 17) (lb 45 0x5f) ?_
    refine po_ ?_ 7 (some 18) (lb 45 0xdf) ?_
    refine po_ ?_ 8 (some 19) (lb 45 0x1df) ?_
    refine po_ ?_ 9 (some 20) (lb 45 0x3df) ?_
    refine po_ ?_ 12 (some 23) (lb 45 0x13df) ?_
    refine po_ ?_ 13 (some 24) (lb 45 0x33df) ?_
    refine po_ ?_ 14 (some 25) (lb 45 0x73df) ?_
    refine po_ ?_ 15 (some 26) (lb 45 0xf3df) ?_
    refine po_ ?_ 5 (some 16) (lb 45 0xf3ff) ?_
    refine po_ ?_ 10 (some 21) (lb 45 0xf7ff) ?_
    refine po_ ?_ 11 (some 22) (lb 45 0xffff) ?_
    refine po_ ?_ 16 (some 27) (lb 45 0x1ffff) ?_
    refine po_ ?_ 17 (some 28) (lb 45 0x3ffff) ?_
    refine po_ ?_ 18 (some 29) (lb 45 0x7ffff) ?_
    refine po_ ?_ 19 (some 30) (lb 45 0xfffff) ?_
    refine pu_ ?_ ?_ 20 (some 31) (lb 45 0x1fffff) ?_
    refine pu_ ?_ ?_ 21 (some 32) (lb 45 0x3fffff) ?_
    refine po_ ?_ 22 (some 33) (lb 45 0x7fffff) ?_
    refine po_ ?_ 23 (some 34) (lb 45 0xffffff) ?_
    refine po_ ?_ 24 (some 35) (lb 45 0x1ffffff) ?_
    refine pu_ ?_ ?_ 25 (some 36) (lb 45 0x3ffffff) ?_
    refine pu_ ?_ ?_ 26 (some 37) (lb 45 0x7ffffff) ?_
    refine po_ ?_ 27 (some 38) (lb 45 0xfffffff) ?_
    refine po_ ?_ 29 (some 40) (lb 45 0x2fffffff) ?_
    refine po_ ?_ 28 (some 39) (lb 45 0x3fffffff) ?_
    refine po_ ?_ 30 (some 41) (lb 45 0x7fffffff) ?_
    refine pu_ ?_ ?_ 31 (some 42) (lb 45 0xffffffff) ?_
    refine pu_ ?_ ?_ 32 (some 43) (lb 45 0x1ffffffff) ?_
    refine po_ ?_ 33 (some 44) (lb 45 0x3ffffffff) ?_
    refine po_ ?_ 35 (some 46) (lb 45 0xbffffffff) ?_
    refine po_ ?_ 34 (some 45) (lb 45 0xfffffffff) ?_
    refine po_ ?_ 36 (some 47) (lb 45 0x1fffffffff) ?_
    refine po_ ?_ 37 (some 48) (lb 45 0x3fffffffff) ?_
    refine pu_ ?_ ?_ 38 (some 49) (lb 45 0x7fffffffff) ?_
    refine pu_ ?_ ?_ 39 (some 50) (lb 45 0xffffffffff) ?_
    refine po_ ?_ 40 (some 51) (lb 45 0x1ffffffffff) ?_
    refine po_ ?_ 42 (some 53) (lb 45 0x5ffffffffff) ?_
    refine po_ ?_ 41 (some 52) (lb 45 0x7ffffffffff) ?_
    refine po_ ?_ 43 (some 54) (lb 45 0xfffffffffff) ?_
    refine pu_ ?_ ?_ 44 (some 55) (lb 45 0x1fffffffffff) ?_
    refine done_ (by kernel_rfl) ?_
    go_wp2
    go_ret
    exact ⟨rfl,below_then HB0.out HB0.out.size hHeld⟩
  cases p1
  case true =>
    obtain rfl:=HNO.out (by simp)
    refine start_ (n:=45) (S:=fun w' => Below v0.heap.size v0 w') (ds:=[]) (lb 45 0x0) (by kernel_rfl) rfl (by kernel_rfl) (below_drew1 (Below.refl _ _)) (fun hHeld => ?_)
    refine pu_ ?_ ?_ 0 (some 11) (lb 45 0x1) ?_
    refine ta_ ?_ ?_ 1 (some 12) (lb 45 0x3) hHeld ?_ (y:=by rintro w' hS;obtain ⟨d0,d1,d2,d3,d4,d5,d6⟩:=HLD.out w' hS;go_simp;with_reducible rfl)
    refine pu_ ?_ ?_ 2 (some 13) (lb 45 0x7) ?_
    refine pu_ ?_ ?_ 3 (some 14) (lb 45 0xf) ?_
    refine pu_ ?_ ?_ 4 (some 15) (lb 45 0x1f) ?_
    refine pu_ ?_ ?_ 6 (some 17) (lb 45 0x5f) ?_
    refine pu_ ?_ ?_ 7 (some 18) (lb 45 0xdf) ?_
    refine pu_ ?_ ?_ 8 (some 19) (lb 45 0x1df) ?_
    refine pu_ ?_ ?_ 9 (some 20) (lb 45 0x3df) ?_
    refine pu_ ?_ ?_ 12 (some 23) (lb 45 0x13df) ?_
    refine pu_ ?_ ?_ 13 (some 24) (lb 45 0x33df) ?_
    refine pu_ ?_ ?_ 14 (some 25) (lb 45 0x73df) ?_
    refine pu_ ?_ ?_ 15 (some 26) (lb 45 0xf3df) ?_
    refine ta_ ?_ ?_ 5 (some 16) (lb 45 0xf3ff) hHeld ?_ (y:=by rintro w' hS;obtain ⟨d0,d1,d2,d3,d4,d5,d6⟩:=HLD.out w' hS;go_simp;with_reducible rfl)
    refine ta_ ?_ ?_ 10 (some 21) (lb 45 0xf7ff) hHeld ?_ (y:=by rintro w' hS;obtain ⟨d0,d1,d2,d3,d4,d5,d6⟩:=HLD.out w' hS;go_simp;with_reducible rfl)
    refine pu_ ?_ ?_ 11 (some 22) (lb 45 0xffff) ?_
    refine ta_ ?_ ?_ 16 (some 27) (lb 45 0x1ffff) hHeld ?_ (y:=by rintro w' hS;obtain ⟨d0,d1,d2,d3,d4,d5,d6⟩:=HLD.out w' hS;go_simp;with_reducible rfl)
    refine pu_ ?_ ?_ 17 (some 28) (lb 45 0x3ffff) ?_
    refine pu_ ?_ ?_ 18 (some 29) (lb 45 0x7ffff) ?_
    refine pu_ ?_ ?_ 19 (some 30) (lb 45 0xfffff) ?_
    refine pu_ ?_ ?_ 20 (some 31) (lb 45 0x1fffff) ?_
    refine pu_ ?_ ?_ 21 (some 32) (lb 45 0x3fffff) ?_
    refine po_ ?_ 22 (some 33) (lb 45 0x7fffff) ?_
    refine po_ ?_ 23 (some 34) (lb 45 0xffffff) ?_
    refine po_ ?_ 24 (some 35) (lb 45 0x1ffffff) ?_
    refine pu_ ?_ ?_ 25 (some 36) (lb 45 0x3ffffff) ?_
    refine pu_ ?_ ?_ 26 (some 37) (lb 45 0x7ffffff) ?_
    refine po_ ?_ 27 (some 38) (lb 45 0xfffffff) ?_
    refine po_ ?_ 29 (some 40) (lb 45 0x2fffffff) ?_
    refine po_ ?_ 28 (some 39) (lb 45 0x3fffffff) ?_
    refine po_ ?_ 30 (some 41) (lb 45 0x7fffffff) ?_
    refine pu_ ?_ ?_ 31 (some 42) (lb 45 0xffffffff) ?_
    refine pu_ ?_ ?_ 32 (some 43) (lb 45 0x1ffffffff) ?_
    refine po_ ?_ 33 (some 44) (lb 45 0x3ffffffff) ?_
    refine po_ ?_ 35 (some 46) (lb 45 0xbffffffff) ?_
    refine po_ ?_ 34 (some 45) (lb 45 0xfffffffff) ?_
    refine po_ ?_ 36 (some 47) (lb 45 0x1fffffffff) ?_
    refine po_ ?_ 37 (some 48) (lb 45 0x3fffffffff) ?_
    refine pu_ ?_ ?_ 38 (some 49) (lb 45 0x7fffffffff) ?_
    refine pu_ ?_ ?_ 39 (some 50) (lb 45 0xffffffffff) ?_
    refine po_ ?_ 40 (some 51) (lb 45 0x1ffffffffff) ?_
    refine po_ ?_ 42 (some 53) (lb 45 0x5ffffffffff) ?_
    refine po_ ?_ 41 (some 52) (lb 45 0x7ffffffffff) ?_
    refine po_ ?_ 43 (some 54) (lb 45 0xfffffffffff) ?_
    refine pu_ ?_ ?_ 44 (some 55) (lb 45 0x1fffffffffff) ?_
    refine done_ (by kernel_rfl) ?_
    go_wp2
    go_ret
    exact ⟨rfl,below_then HB0.out HB0.out.size hHeld⟩
  cases p2
  case true =>
    obtain rfl:=HNO.out (by simp)
    refine start_ (n:=45) (S:=fun w' => Below v0.heap.size v0 w') (ds:=[]) (lb 45 0x0) (by kernel_rfl) rfl (by kernel_rfl) (below_drew1 (Below.refl _ _)) (fun hHeld => ?_)
    refine pu_ ?_ ?_ 0 (some 11) (lb 45 0x1) ?_
    refine ta_ ?_ ?_ 1 (some 12) (lb 45 0x3) hHeld ?_ (y:=by rintro w' hS;obtain ⟨d0,d1,d2,d3,d4,d5,d6⟩:=HLD.out w' hS;go_simp;with_reducible rfl)
    refine pu_ ?_ ?_ 2 (some 13) (lb 45 0x7) ?_
    refine pu_ ?_ ?_ 3 (some 14) (lb 45 0xf) ?_
    refine pu_ ?_ ?_ 4 (some 15) (lb 45 0x1f) ?_
    refine pu_ ?_ ?_ 6 (some 17) (lb 45 0x5f) ?_
    refine pu_ ?_ ?_ 7 (some 18) (lb 45 0xdf) ?_
    refine pu_ ?_ ?_ 8 (some 19) (lb 45 0x1df) ?_
    refine pu_ ?_ ?_ 9 (some 20) (lb 45 0x3df) ?_
    refine pu_ ?_ ?_ 12 (some 23) (lb 45 0x13df) ?_
    refine pu_ ?_ ?_ 13 (some 24) (lb 45 0x33df) ?_
    refine pu_ ?_ ?_ 14 (some 25) (lb 45 0x73df) ?_
    refine pu_ ?_ ?_ 15 (some 26) (lb 45 0xf3df) ?_
    refine ta_ ?_ ?_ 5 (some 16) (lb 45 0xf3ff) hHeld ?_ (y:=by rintro w' hS;obtain ⟨d0,d1,d2,d3,d4,d5,d6⟩:=HLD.out w' hS;go_simp;with_reducible rfl)
    refine ta_ ?_ ?_ 10 (some 21) (lb 45 0xf7ff) hHeld ?_ (y:=by rintro w' hS;obtain ⟨d0,d1,d2,d3,d4,d5,d6⟩:=HLD.out w' hS;go_simp;with_reducible rfl)
    refine pu_ ?_ ?_ 11 (some 22) (lb 45 0xffff) ?_
    refine ta_ ?_ ?_ 16 (some 27) (lb 45 0x1ffff) hHeld ?_ (y:=by rintro w' hS;obtain ⟨d0,d1,d2,d3,d4,d5,d6⟩:=HLD.out w' hS;go_simp;with_reducible rfl)
    refine pu_ ?_ ?_ 17 (some 28) (lb 45 0x3ffff) ?_
    refine pu_ ?_ ?_ 18 (some 29) (lb 45 0x7ffff) ?_
    refine pu_ ?_ ?_ 19 (some 30) (lb 45 0xfffff) ?_
    refine pu_ ?_ ?_ 20 (some 31) (lb 45 0x1fffff) ?_
    refine pu_ ?_ ?_ 21 (some 32) (lb 45 0x3fffff) ?_
    refine pu_ ?_ ?_ 22 (some 33) (lb 45 0x7fffff) ?_
    refine ta_ ?_ ?_ 23 (some 34) (lb 45 0xffffff) hHeld ?_ (y:=by rintro w' hS;obtain ⟨d0,d1,d2,d3,d4,d5,d6⟩:=HLD.out w' hS;go_simp;with_reducible rfl)
    refine pu_ ?_ ?_ 24 (some 35) (lb 45 0x1ffffff) ?_
    refine pu_ ?_ ?_ 25 (some 36) (lb 45 0x3ffffff) ?_
    refine pu_ ?_ ?_ 26 (some 37) (lb 45 0x7ffffff) ?_
    refine po_ ?_ 27 (some 38) (lb 45 0xfffffff) ?_
    refine po_ ?_ 29 (some 40) (lb 45 0x2fffffff) ?_
    refine po_ ?_ 28 (some 39) (lb 45 0x3fffffff) ?_
    refine po_ ?_ 30 (some 41) (lb 45 0x7fffffff) ?_
    refine pu_ ?_ ?_ 31 (some 42) (lb 45 0xffffffff) ?_
    refine pu_ ?_ ?_ 32 (some 43) (lb 45 0x1ffffffff) ?_
    refine po_ ?_ 33 (some 44) (lb 45 0x3ffffffff) ?_
    refine po_ ?_ 35 (some 46) (lb 45 0xbffffffff) ?_
    refine po_ ?_ 34 (some 45) (lb 45 0xfffffffff) ?_
    refine po_ ?_ 36 (some 47) (lb 45 0x1fffffffff) ?_
    refine po_ ?_ 37 (some 48) (lb 45 0x3fffffffff) ?_
    refine pu_ ?_ ?_ 38 (some 49) (lb 45 0x7fffffffff) ?_
    refine pu_ ?_ ?_ 39 (some 50) (lb 45 0xffffffffff) ?_
    refine po_ ?_ 40 (some 51) (lb 45 0x1ffffffffff) ?_
    refine po_ ?_ 42 (some 53) (lb 45 0x5ffffffffff) ?_
    refine po_ ?_ 41 (some 52) (lb 45 0x7ffffffffff) ?_
    refine po_ ?_ 43 (some 54) (lb 45 0xfffffffffff) ?_
    refine pu_ ?_ ?_ 44 (some 55) (lb 45 0x1fffffffffff) ?_
    refine done_ (by kernel_rfl) ?_
    go_wp2
    go_ret
    exact ⟨rfl,below_then HB0.out HB0.out.size hHeld⟩
  cases p3
  case true =>
    obtain rfl:=HNO.out (by simp)
    refine start_ (n:=45) (S:=fun w' => Below v0.heap.size v0 w') (ds:=[]) (lb 45 0x0) (by kernel_rfl) rfl (by kernel_rfl) (below_drew1 (Below.refl _ _)) (fun hHeld => ?_)
    refine pu_ ?_ ?_ 0 (some 11) (lb 45 0x1) ?_
    refine ta_ ?_ ?_ 1 (some 12) (lb 45 0x3) hHeld ?_ (y:=by rintro w' hS;obtain ⟨d0,d1,d2,d3,d4,d5,d6⟩:=HLD.out w' hS;go_simp;with_reducible rfl)
    refine pu_ ?_ ?_ 2 (some 13) (lb 45 0x7) ?_
    refine pu_ ?_ ?_ 3 (some 14) (lb 45 0xf) ?_
    refine pu_ ?_ ?_ 4 (some 15) (lb 45 0x1f) ?_
    refine pu_ ?_ ?_ 6 (some 17) (lb 45 0x5f) ?_
    refine pu_ ?_ ?_ 7 (some 18) (lb 45 0xdf) ?_
    refine pu_ ?_ ?_ 8 (some 19) (lb 45 0x1df) ?_
    refine pu_ ?_ ?_ 9 (some 20) (lb 45 0x3df) ?_
    refine pu_ ?_ ?_ 12 (some 23) (lb 45 0x13df) ?_
    refine pu_ ?_ ?_ 13 (some 24) (lb 45 0x33df) ?_
    refine pu_ ?_ ?_ 14 (some 25) (lb 45 0x73df) ?_
    refine pu_ ?_ ?_ 15 (some 26) (lb 45 0xf3df) ?_
    refine ta_ ?_ ?_ 5 (some 16) (lb 45 0xf3ff) hHeld ?_ (y:=by rintro w' hS;obtain ⟨d0,d1,d2,d3,d4,d5,d6⟩:=HLD.out w' hS;go_simp;with_reducible rfl)
    refine ta_ ?_ ?_ 10 (some 21) (lb 45 0xf7ff) hHeld ?_ (y:=by rintro w' hS;obtain ⟨d0,d1,d2,d3,d4,d5,d6⟩:=HLD.out w' hS;go_simp;with_reducible rfl)
    refine pu_ ?_ ?_ 11 (some 22) (lb 45 0xffff) ?_
    refine ta_ ?_ ?_ 16 (some 27) (lb 45 0x1ffff) hHeld ?_ (y:=by rintro w' hS;obtain ⟨d0,d1,d2,d3,d4,d5,d6⟩:=HLD.out w' hS;go_simp;with_reducible rfl)
    refine pu_ ?_ ?_ 17 (some 28) (lb 45 0x3ffff) ?_
    refine pu_ ?_ ?_ 18 (some 29) (lb 45 0x7ffff) ?_
    refine pu_ ?_ ?_ 19 (some 30) (lb 45 0xfffff) ?_
    refine pu_ ?_ ?_ 20 (some 31) (lb 45 0x1fffff) ?_
    refine pu_ ?_ ?_ 21 (some 32) (lb 45 0x3fffff) ?_
    refine pu_ ?_ ?_ 22 (some 33) (lb 45 0x7fffff) ?_
    refine ta_ ?_ ?_ 23 (some 34) (lb 45 0xffffff) hHeld ?_ (y:=by rintro w' hS;obtain ⟨d0,d1,d2,d3,d4,d5,d6⟩:=HLD.out w' hS;go_simp;with_reducible rfl)
    refine pu_ ?_ ?_ 24 (some 35) (lb 45 0x1ffffff) ?_
    refine pu_ ?_ ?_ 25 (some 36) (lb 45 0x3ffffff) ?_
    refine pu_ ?_ ?_ 26 (some 37) (lb 45 0x7ffffff) ?_
    refine pu_ ?_ ?_ 27 (some 38) (lb 45 0xfffffff) ?_
    refine pu_ ?_ ?_ 29 (some 40) (lb 45 0x2fffffff) ?_
    refine ta_ ?_ ?_ 28 (some 39) (lb 45 0x3fffffff) hHeld ?_ (y:=by rintro w' hS;obtain ⟨d0,d1,d2,d3,d4,d5,d6⟩:=HLD.out w' hS;go_simp;with_reducible rfl)
    refine pu_ ?_ ?_ 30 (some 41) (lb 45 0x7fffffff) ?_
    refine pu_ ?_ ?_ 31 (some 42) (lb 45 0xffffffff) ?_
    refine pu_ ?_ ?_ 32 (some 43) (lb 45 0x1ffffffff) ?_
    refine po_ ?_ 33 (some 44) (lb 45 0x3ffffffff) ?_
    refine po_ ?_ 35 (some 46) (lb 45 0xbffffffff) ?_
    refine po_ ?_ 34 (some 45) (lb 45 0xfffffffff) ?_
    refine po_ ?_ 36 (some 47) (lb 45 0x1fffffffff) ?_
    refine po_ ?_ 37 (some 48) (lb 45 0x3fffffffff) ?_
    refine pu_ ?_ ?_ 38 (some 49) (lb 45 0x7fffffffff) ?_
    refine pu_ ?_ ?_ 39 (some 50) (lb 45 0xffffffffff) ?_
    refine po_ ?_ 40 (some 51) (lb 45 0x1ffffffffff) ?_
    refine po_ ?_ 42 (some 53) (lb 45 0x5ffffffffff) ?_
    refine po_ ?_ 41 (some 52) (lb 45 0x7ffffffffff) ?_
    refine po_ ?_ 43 (some 54) (lb 45 0xfffffffffff) ?_
    refine pu_ ?_ ?_ 44 (some 55) (lb 45 0x1fffffffffff) ?_
    refine done_ (by kernel_rfl) ?_
    go_wp2
    go_ret
    exact ⟨rfl,below_then HB0.out HB0.out.size hHeld⟩
  cases p4
  case true =>
    obtain rfl:=HNO.out (by simp)
    refine start_ (n:=45) (S:=fun w' => Below v0.heap.size v0 w') (ds:=[]) (lb 45 0x0) (by kernel_rfl) rfl (by kernel_rfl) (below_drew1 (Below.refl _ _)) (fun hHeld => ?_)
    refine pu_ ?_ ?_ 0 (some 11) (lb 45 0x1) ?_
    refine ta_ ?_ ?_ 1 (some 12) (lb 45 0x3) hHeld ?_ (y:=by rintro w' hS;obtain ⟨d0,d1,d2,d3,d4,d5,d6⟩:=HLD.out w' hS;go_simp;with_reducible rfl)
    refine pu_ ?_ ?_ 2 (some 13) (lb 45 0x7) ?_
    refine pu_ ?_ ?_ 3 (some 14) (lb 45 0xf) ?_
    refine pu_ ?_ ?_ 4 (some 15) (lb 45 0x1f) ?_
    refine pu_ ?_ ?_ 6 (some 17) (lb 45 0x5f) ?_
    refine pu_ ?_ ?_ 7 (some 18) (lb 45 0xdf) ?_
    refine pu_ ?_ ?_ 8 (some 19) (lb 45 0x1df) ?_
    refine pu_ ?_ ?_ 9 (some 20) (lb 45 0x3df) ?_
    refine pu_ ?_ ?_ 12 (some 23) (lb 45 0x13df) ?_
    refine pu_ ?_ ?_ 13 (some 24) (lb 45 0x33df) ?_
    refine pu_ ?_ ?_ 14 (some 25) (lb 45 0x73df) ?_
    refine pu_ ?_ ?_ 15 (some 26) (lb 45 0xf3df) ?_
    refine ta_ ?_ ?_ 5 (some 16) (lb 45 0xf3ff) hHeld ?_ (y:=by rintro w' hS;obtain ⟨d0,d1,d2,d3,d4,d5,d6⟩:=HLD.out w' hS;go_simp;with_reducible rfl)
    refine ta_ ?_ ?_ 10 (some 21) (lb 45 0xf7ff) hHeld ?_ (y:=by rintro w' hS;obtain ⟨d0,d1,d2,d3,d4,d5,d6⟩:=HLD.out w' hS;go_simp;with_reducible rfl)
    refine pu_ ?_ ?_ 11 (some 22) (lb 45 0xffff) ?_
    refine ta_ ?_ ?_ 16 (some 27) (lb 45 0x1ffff) hHeld ?_ (y:=by rintro w' hS;obtain ⟨d0,d1,d2,d3,d4,d5,d6⟩:=HLD.out w' hS;go_simp;with_reducible rfl)
    refine pu_ ?_ ?_ 17 (some 28) (lb 45 0x3ffff) ?_
    refine pu_ ?_ ?_ 18 (some 29) (lb 45 0x7ffff) ?_
    refine pu_ ?_ ?_ 19 (some 30) (lb 45 0xfffff) ?_
    refine pu_ ?_ ?_ 20 (some 31) (lb 45 0x1fffff) ?_
    refine pu_ ?_ ?_ 21 (some 32) (lb 45 0x3fffff) ?_
    refine pu_ ?_ ?_ 22 (some 33) (lb 45 0x7fffff) ?_
    refine ta_ ?_ ?_ 23 (some 34) (lb 45 0xffffff) hHeld ?_ (y:=by rintro w' hS;obtain ⟨d0,d1,d2,d3,d4,d5,d6⟩:=HLD.out w' hS;go_simp;with_reducible rfl)
    refine pu_ ?_ ?_ 24 (some 35) (lb 45 0x1ffffff) ?_
    refine pu_ ?_ ?_ 25 (some 36) (lb 45 0x3ffffff) ?_
    refine pu_ ?_ ?_ 26 (some 37) (lb 45 0x7ffffff) ?_
    refine pu_ ?_ ?_ 27 (some 38) (lb 45 0xfffffff) ?_
    refine pu_ ?_ ?_ 29 (some 40) (lb 45 0x2fffffff) ?_
    refine ta_ ?_ ?_ 28 (some 39) (lb 45 0x3fffffff) hHeld ?_ (y:=by rintro w' hS;obtain ⟨d0,d1,d2,d3,d4,d5,d6⟩:=HLD.out w' hS;go_simp;with_reducible rfl)
    refine pu_ ?_ ?_ 30 (some 41) (lb 45 0x7fffffff) ?_
    refine pu_ ?_ ?_ 31 (some 42) (lb 45 0xffffffff) ?_
    refine pu_ ?_ ?_ 32 (some 43) (lb 45 0x1ffffffff) ?_
    refine pu_ ?_ ?_ 33 (some 44) (lb 45 0x3ffffffff) ?_
    refine pu_ ?_ ?_ 35 (some 46) (lb 45 0xbffffffff) ?_
    refine ta_ ?_ ?_ 34 (some 45) (lb 45 0xfffffffff) hHeld ?_ (y:=by rintro w' hS;obtain ⟨d0,d1,d2,d3,d4,d5,d6⟩:=HLD.out w' hS;go_simp;with_reducible rfl)
    refine ta_ ?_ ?_ 36 (some 47) (lb 45 0x1fffffffff) hHeld ?_ (y:=by rintro w' hS;obtain ⟨d0,d1,d2,d3,d4,d5,d6⟩:=HLD.out w' hS;go_simp;with_reducible rfl)
    refine pu_ ?_ ?_ 37 (some 48) (lb 45 0x3fffffffff) ?_
    refine pu_ ?_ ?_ 38 (some 49) (lb 45 0x7fffffffff) ?_
    refine pu_ ?_ ?_ 39 (some 50) (lb 45 0xffffffffff) ?_
    refine po_ ?_ 40 (some 51) (lb 45 0x1ffffffffff) ?_
    refine po_ ?_ 42 (some 53) (lb 45 0x5ffffffffff) ?_
    refine po_ ?_ 41 (some 52) (lb 45 0x7ffffffffff) ?_
    refine po_ ?_ 43 (some 54) (lb 45 0xfffffffffff) ?_
    refine pu_ ?_ ?_ 44 (some 55) (lb 45 0x1fffffffffff) ?_
    refine done_ (by kernel_rfl) ?_
    go_wp2
    go_ret
    exact ⟨rfl,below_then HB0.out HB0.out.size hHeld⟩
  refine start_ (n:=45) (S:=fun w' => Below v0.heap.size v0 w') (ds:=[]) (lb 45 0x0) (by kernel_rfl) rfl (by kernel_rfl) (below_drew1 (Below.refl _ _)) (fun hHeld => ?_)
  refine pu_ ?_ ?_ 0 (some 11) (lb 45 0x1) ?_
  refine ta_ ?_ ?_ 1 (some 12) (lb 45 0x3) hHeld ?_ (y:=by rintro w' hS;obtain ⟨d0,d1,d2,d3,d4,d5,d6⟩:=HLD.out w' hS;go_simp;with_reducible rfl)
  refine pu_ ?_ ?_ 2 (some 13) (lb 45 0x7) ?_
  refine pu_ ?_ ?_ 3 (some 14) (lb 45 0xf) ?_
  refine pu_ ?_ ?_ 4 (some 15) (lb 45 0x1f) ?_
  refine pu_ ?_ ?_ 6 (some 17) (lb 45 0x5f) ?_
  refine pu_ ?_ ?_ 7 (some 18) (lb 45 0xdf) ?_
  refine pu_ ?_ ?_ 8 (some 19) (lb 45 0x1df) ?_
  refine pu_ ?_ ?_ 9 (some 20) (lb 45 0x3df) ?_
  refine pu_ ?_ ?_ 12 (some 23) (lb 45 0x13df) ?_
  refine pu_ ?_ ?_ 13 (some 24) (lb 45 0x33df) ?_
  refine pu_ ?_ ?_ 14 (some 25) (lb 45 0x73df) ?_
  refine pu_ ?_ ?_ 15 (some 26) (lb 45 0xf3df) ?_
  refine ta_ ?_ ?_ 5 (some 16) (lb 45 0xf3ff) hHeld ?_ (y:=by rintro w' hS;obtain ⟨d0,d1,d2,d3,d4,d5,d6⟩:=HLD.out w' hS;go_simp;with_reducible rfl)
  refine ta_ ?_ ?_ 10 (some 21) (lb 45 0xf7ff) hHeld ?_ (y:=by rintro w' hS;obtain ⟨d0,d1,d2,d3,d4,d5,d6⟩:=HLD.out w' hS;go_simp;with_reducible rfl)
  refine pu_ ?_ ?_ 11 (some 22) (lb 45 0xffff) ?_
  refine ta_ ?_ ?_ 16 (some 27) (lb 45 0x1ffff) hHeld ?_ (y:=by rintro w' hS;obtain ⟨d0,d1,d2,d3,d4,d5,d6⟩:=HLD.out w' hS;go_simp;with_reducible rfl)
  refine pu_ ?_ ?_ 17 (some 28) (lb 45 0x3ffff) ?_
  refine pu_ ?_ ?_ 18 (some 29) (lb 45 0x7ffff) ?_
  refine pu_ ?_ ?_ 19 (some 30) (lb 45 0xfffff) ?_
  refine pu_ ?_ ?_ 20 (some 31) (lb 45 0x1fffff) ?_
  refine pu_ ?_ ?_ 21 (some 32) (lb 45 0x3fffff) ?_
  refine pu_ ?_ ?_ 22 (some 33) (lb 45 0x7fffff) ?_
  refine ta_ ?_ ?_ 23 (some 34) (lb 45 0xffffff) hHeld ?_ (y:=by rintro w' hS;obtain ⟨d0,d1,d2,d3,d4,d5,d6⟩:=HLD.out w' hS;go_simp;with_reducible rfl)
  refine pu_ ?_ ?_ 24 (some 35) (lb 45 0x1ffffff) ?_
  refine pu_ ?_ ?_ 25 (some 36) (lb 45 0x3ffffff) ?_
  refine pu_ ?_ ?_ 26 (some 37) (lb 45 0x7ffffff) ?_
  refine pu_ ?_ ?_ 27 (some 38) (lb 45 0xfffffff) ?_
  refine pu_ ?_ ?_ 29 (some 40) (lb 45 0x2fffffff) ?_
  refine ta_ ?_ ?_ 28 (some 39) (lb 45 0x3fffffff) hHeld ?_ (y:=by rintro w' hS;obtain ⟨d0,d1,d2,d3,d4,d5,d6⟩:=HLD.out w' hS;go_simp;with_reducible rfl)
  refine pu_ ?_ ?_ 30 (some 41) (lb 45 0x7fffffff) ?_
  refine pu_ ?_ ?_ 31 (some 42) (lb 45 0xffffffff) ?_
  refine pu_ ?_ ?_ 32 (some 43) (lb 45 0x1ffffffff) ?_
  refine pu_ ?_ ?_ 33 (some 44) (lb 45 0x3ffffffff) ?_
  refine pu_ ?_ ?_ 35 (some 46) (lb 45 0xbffffffff) ?_
  refine ta_ ?_ ?_ 34 (some 45) (lb 45 0xfffffffff) hHeld ?_ (y:=by rintro w' hS;obtain ⟨d0,d1,d2,d3,d4,d5,d6⟩:=HLD.out w' hS;go_simp;with_reducible rfl)
  refine ta_ ?_ ?_ 36 (some 47) (lb 45 0x1fffffffff) hHeld ?_ (y:=by rintro w' hS;obtain ⟨d0,d1,d2,d3,d4,d5,d6⟩:=HLD.out w' hS;go_simp;with_reducible rfl)
  refine pu_ ?_ ?_ 37 (some 48) (lb 45 0x3fffffffff) ?_
  refine pu_ ?_ ?_ 38 (some 49) (lb 45 0x7fffffffff) ?_
  refine pu_ ?_ ?_ 39 (some 50) (lb 45 0xffffffffff) ?_
  refine pu_ ?_ ?_ 40 (some 51) (lb 45 0x1ffffffffff) ?_
  refine pu_ ?_ ?_ 42 (some 53) (lb 45 0x5ffffffffff) ?_
  refine ta_ ?_ ?_ 41 (some 52) (lb 45 0x7ffffffffff) hHeld ?_ (y:=by rintro w' hS;obtain ⟨d0,d1,d2,d3,d4,d5,d6⟩:=HLD.out w' hS;go_simp;with_reducible rfl)
  refine pu_ ?_ ?_ 43 (some 54) (lb 45 0xfffffffffff) ?_
  refine pu_ ?_ ?_ 44 (some 55) (lb 45 0x1fffffffffff) ?_
  refine done_ (by kernel_rfl) ?_
  cases p5
  case true =>
    obtain rfl:=HNO.out (by simp)
    go_wp2
    go_ret
    exact ⟨rfl,below_then HB0.out HB0.out.size hHeld⟩
  have z0:=of_decide_eq_false HP0.out
  have z1:=of_decide_eq_false HP1.out
  have z2:=of_decide_eq_false HP2.out
  have z3:=of_decide_eq_false HP3.out
  have z4:=of_decide_eq_false HP4.out
  have z5:=of_decide_eq_false HP5.out
  clear hp0 hp1 hp2 hp3 hp4 hp5 HP0 HP1 HP2 HP3 HP4 HP5 HNO e1
  obtain ⟨sn,rfl⟩:=Int.eq_ofNat_of_zero_le (show 0 ≤ s by omega)
  obtain ⟨a,rfl⟩:=Int.eq_ofNat_of_zero_le (show 0 ≤ i by omega)
  obtain ⟨c,rfl⟩:=Int.eq_ofNat_of_zero_le (show 0 ≤ j by omega)
  have hVV : v = if sn < g.terms.length then decide (c = a + 1) && decide (wd.getD a 0 = (sn : Int)) else getT M (atT wd.length sn a) c:=by
    have h:=HV.out
    rw [← h]
    unfold spanB
    rw [if_neg (by rw [← HN.out,← HNS.out];omega)]
    by_cases ht : sn < g.terms.length
    · rw [if_pos (by omega),if_pos ht,Int.toNat_natCast]
      congr 1
      rw [decide_eq_decide];omega
    · rw [if_neg (by omega),if_neg ht]
  have HVV:=Lib.hid hVV
  have hsn : sn < ns:=by omega
  have han : a ≤ n:=by omega
  have hac : a ≤ c:=by omega
  have hcn : c ≤ n:=by omega
  clear z0 z1 z2 z3 z4 z5 hVV HV
  go_upto_region 4 with (fail)
  obtain ⟨v1,hv1⟩ : ∃ v1,v1 = v0.drew:=⟨_,rfl⟩
  rw [← hv1] at hHeld ⊢
  have HX1:=Aside0.mk (blk_below HX.out hHeld)
  have HO1:=Aside0.mk (blk_below HO.out hHeld)
  have HC1:=Aside0.mk (HC.out.below_ hHeld)
  have HB1:=Aside0.mk (below_then HB0.out HB0.out.size hHeld)
  clear hv1 hHeld HX HO HC HB0
  obtain ⟨tb,htb⟩ : ∃ b,decide (sn < g.terms.length) = b:=⟨_,rfl⟩
  have htb2 : decide ((sn : Int) < (g.terms.length : Int)) = tb:=by rw [← htb,decide_eq_decide];omega
  have HTB:=Lib.hid htb
  refine start_ (n:=9) (S:=fun w' => Below v1.heap.size v1 w') (ds:=[]) (lb 9 0x0) (by kernel_rfl) rfl (by kernel_rfl) (below_drew1 (Below.refl _ _)) (fun hHeld => ?_)
  refine pu_ ?_ ?_ 0 (some 56) (lb 9 0x1) ?_
  refine pu_ ?_ ?_ 2 (some 58) (lb 9 0x5) ?_
  refine pu_ ?_ ?_ 3 (some 59) (lb 9 0xd) ?_
  refine pu_ ?_ ?_ 4 (some 60) (lb 9 0x1d) ?_
  refine pu_ ?_ ?_ 5 (some 61) (lb 9 0x3d) ?_
  refine ta_ ?_ ?_ 1 (some 57) (lb 9 0x3f) hHeld ?_ (y:=by rintro w' hS;have d0:=(blk_cell (blk_below HX1.out hS) 0).trans rfl;have d1:=(blk_cell (blk_below HX1.out hS) 1).trans rfl;have d2:=(blk_cell (blk_below HX1.out hS) 2).trans rfl;have d3:=(blk_cell (blk_below HO1.out hS) 0).trans rfl;have d4:=(blk_cell (blk_below HO1.out hS) 1).trans rfl;have d5:=(blk_cell (blk_below HO1.out hS) 2).trans rfl;have d6:=(blk_cell (blk_below HO1.out hS) 3).trans rfl;have d7:=(blk_cell (blk_below HO1.out hS) 4).trans rfl;go_simp;with_reducible rfl)
  refine ta_ ?_ ?_ 6 (some 62) (lb 9 0x7f) hHeld ?_ (y:=by rintro w' hS;have d0:=(blk_cell (blk_below HX1.out hS) 0).trans rfl;have d1:=(blk_cell (blk_below HX1.out hS) 1).trans rfl;have d2:=(blk_cell (blk_below HX1.out hS) 2).trans rfl;have d3:=(blk_cell (blk_below HO1.out hS) 0).trans rfl;have d4:=(blk_cell (blk_below HO1.out hS) 1).trans rfl;have d5:=(blk_cell (blk_below HO1.out hS) 2).trans rfl;have d6:=(blk_cell (blk_below HO1.out hS) 3).trans rfl;have d7:=(blk_cell (blk_below HO1.out hS) 4).trans rfl;go_simp;with_reducible rfl)
  refine pu_ ?_ ?_ 7 (some 63) (lb 9 0xff) ?_
  refine pu_ ?_ ?_ 8 (some 64) (lb 9 0x1ff) ?_
  refine done_ (by kernel_rfl) ?_
  clear htb htb2
  obtain ⟨v2,hv2⟩ : ∃ v2,v2 = v1.drew:=⟨_,rfl⟩
  rw [← hv2] at hHeld ⊢
  have HX2:=Aside0.mk (blk_below HX1.out hHeld)
  have HO2:=Aside0.mk (blk_below HO1.out hHeld)
  have HC2:=Aside0.mk (HC1.out.below_ hHeld)
  have HB2:=Aside0.mk (below_then HB1.out HB1.out.size hHeld)
  clear hv2 hHeld HX1 HO1 HC1 HB1
  cases tb
  · have hnt:=of_decide_eq_false HTB.out
    have hvv : v = getB (rowT M ((sn * (n + 1) + a : Nat) : Int)) (c : Int):=by
      rw [HVV.out,if_neg hnt]
      unfold atT
      rw [HN.out]
      rfl
    obtain ⟨n1,hn1⟩ : ∃ n1,n1 = n + 1:=⟨_,rfl⟩
    obtain ⟨q,hq⟩ : ∃ q,q = sn * n1:=⟨_,rfl⟩
    have hq1 : q + n1 ≤ ns * n1:=by rw [hq,← Nat.succ_mul];exact Nat.mul_le_mul_right _ hsn
    have hq2 : ns * n1 ≤ 80 * 41:=Nat.mul_le_mul hns80 (by omega)
    obtain ⟨N,hNN⟩ : ∃ N,N = ns * n1:=⟨_,rfl⟩
    rw [← hNN] at hq1 hq2
    obtain ⟨ix,hix⟩ : ∃ ix,ix = q + a:=⟨_,rfl⟩
    have f1 : IntKind.i64.wrap ((n : Int) + 1) = (n1 : Int):=by rw [IntWalk.i64_in _ (by omega)];omega
    have f2 : IntKind.i64.wrap ((sn : Int) * (n1 : Int)) = (q : Int):=by
      rw [← Int.natCast_mul,← hq,IntWalk.i64_in _ (by omega)]
    have f3 : IntKind.i64.wrap ((q : Int) + (a : Int)) = (ix : Int):=by rw [IntWalk.i64_in _ (by omega)];omega
    have hixN : ix < N:=by omega
    have f4 : (ix : Int) < (N : Int):=by omega
    have f5 : (c : Int) < (n1 : Int):=by omega
    rw [← hn1,← hq,← hix] at hvv
    rw [← hn1,← hNN] at HO2
    have hbl : ix < k.bs.length:=by rw [HC2.out.bl,← HNS.out,← HN.out,← hn1,← hNN];exact hixN
    have c1:=HC2.out.t.cell ix hbl
    have c2:=(HC2.out.t.row ix hbl).cell' (i:=c) (by rw [HC2.out.t.rlen hbl,← HN.out];omega) hvv.symm
    obtain ⟨br,hbr⟩ : ∃ br,br = k.bs[ix]:=⟨_,rfl⟩
    rw [← hbr,← HN.out,← hn1] at c1
    rw [← hbr] at c2
    have C1:=Aside0.mk c1
    have C2:=Aside0.mk c2
    clear c1 c2 hbr hbl hvv hn1 hq hix hNN hq1 hq2
    go_upto_region 6 with (fail)
    refine start_ (n:=19) (S:=fun w' => Below v2.heap.size v2 w') (ds:=[]) (lb 19 0x0) (by kernel_rfl) rfl (by kernel_rfl) (below_drew1 (Below.refl _ _)) (fun hHeld => ?_)
    refine pu_ ?_ ?_ 0 (some 84) (lb 19 0x1) ?_
    refine pu_ ?_ ?_ 1 (some 85) (lb 19 0x3) ?_
    refine pu_ ?_ ?_ 2 (some 86) (lb 19 0x7) ?_
    refine pu_ ?_ ?_ 4 (some 88) (lb 19 0x17) ?_
    refine pu_ ?_ ?_ 6 (some 90) (lb 19 0x57) ?_
    refine pu_ ?_ ?_ 7 (some 91) (lb 19 0xd7) ?_
    refine pu_ ?_ ?_ 9 (some 93) (lb 19 0x2d7) ?_
    refine pu_ ?_ ?_ 14 (some 98) (lb 19 0x42d7) ?_
    refine ta_ ?_ ?_ 3 (some 87) (lb 19 0x42df) hHeld ?_ (y:=by rintro w' hS;have d0:=(blk_cell (blk_below HX2.out hS) 0).trans rfl;have d1:=(blk_cell (blk_below HX2.out hS) 1).trans rfl;have d2:=(blk_cell (blk_below HX2.out hS) 2).trans rfl;have d3:=(blk_cell (blk_below HO2.out hS) 0).trans rfl;have d4:=(blk_cell (blk_below HO2.out hS) 1).trans rfl;have d5:=(blk_cell (blk_below HO2.out hS) 2).trans rfl;have d6:=(blk_cell (blk_below HO2.out hS) 3).trans rfl;have d7:=(blk_cell (blk_below HO2.out hS) 4).trans rfl;have d8:=cell_at hS C1.out;have d9:=cell_at hS C2.out;go_simp;with_reducible rfl)
    refine ta_ ?_ ?_ 5 (some 89) (lb 19 0x42ff) hHeld ?_ (y:=by rintro w' hS;have d0:=(blk_cell (blk_below HX2.out hS) 0).trans rfl;have d1:=(blk_cell (blk_below HX2.out hS) 1).trans rfl;have d2:=(blk_cell (blk_below HX2.out hS) 2).trans rfl;have d3:=(blk_cell (blk_below HO2.out hS) 0).trans rfl;have d4:=(blk_cell (blk_below HO2.out hS) 1).trans rfl;have d5:=(blk_cell (blk_below HO2.out hS) 2).trans rfl;have d6:=(blk_cell (blk_below HO2.out hS) 3).trans rfl;have d7:=(blk_cell (blk_below HO2.out hS) 4).trans rfl;have d8:=cell_at hS C1.out;have d9:=cell_at hS C2.out;go_simp;with_reducible rfl)
    refine pu_ ?_ ?_ 8 (some 92) (lb 19 0x43ff) ?_
    refine ta_ ?_ ?_ 10 (some 94) (lb 19 0x47ff) hHeld ?_ (y:=by rintro w' hS;have d0:=(blk_cell (blk_below HX2.out hS) 0).trans rfl;have d1:=(blk_cell (blk_below HX2.out hS) 1).trans rfl;have d2:=(blk_cell (blk_below HX2.out hS) 2).trans rfl;have d3:=(blk_cell (blk_below HO2.out hS) 0).trans rfl;have d4:=(blk_cell (blk_below HO2.out hS) 1).trans rfl;have d5:=(blk_cell (blk_below HO2.out hS) 2).trans rfl;have d6:=(blk_cell (blk_below HO2.out hS) 3).trans rfl;have d7:=(blk_cell (blk_below HO2.out hS) 4).trans rfl;have d8:=cell_at hS C1.out;have d9:=cell_at hS C2.out;go_simp;with_reducible rfl)
    refine pu_ ?_ ?_ 11 (some 95) (lb 19 0x4fff) ?_
    refine pu_ ?_ ?_ 12 (some 96) (lb 19 0x5fff) ?_
    refine ta_ ?_ ?_ 13 (some 97) (lb 19 0x7fff) hHeld ?_ (y:=by rintro w' hS;have d0:=(blk_cell (blk_below HX2.out hS) 0).trans rfl;have d1:=(blk_cell (blk_below HX2.out hS) 1).trans rfl;have d2:=(blk_cell (blk_below HX2.out hS) 2).trans rfl;have d3:=(blk_cell (blk_below HO2.out hS) 0).trans rfl;have d4:=(blk_cell (blk_below HO2.out hS) 1).trans rfl;have d5:=(blk_cell (blk_below HO2.out hS) 2).trans rfl;have d6:=(blk_cell (blk_below HO2.out hS) 3).trans rfl;have d7:=(blk_cell (blk_below HO2.out hS) 4).trans rfl;have d8:=cell_at hS C1.out;have d9:=cell_at hS C2.out;go_simp;with_reducible rfl)
    refine ta_ ?_ ?_ 15 (some 99) (lb 19 0xffff) hHeld ?_ (y:=by rintro w' hS;have d0:=(blk_cell (blk_below HX2.out hS) 0).trans rfl;have d1:=(blk_cell (blk_below HX2.out hS) 1).trans rfl;have d2:=(blk_cell (blk_below HX2.out hS) 2).trans rfl;have d3:=(blk_cell (blk_below HO2.out hS) 0).trans rfl;have d4:=(blk_cell (blk_below HO2.out hS) 1).trans rfl;have d5:=(blk_cell (blk_below HO2.out hS) 2).trans rfl;have d6:=(blk_cell (blk_below HO2.out hS) 3).trans rfl;have d7:=(blk_cell (blk_below HO2.out hS) 4).trans rfl;have d8:=cell_at hS C1.out;have d9:=cell_at hS C2.out;go_simp;with_reducible rfl)
    refine pu_ ?_ ?_ 16 (some 100) (lb 19 0x1ffff) ?_
    refine ta_ ?_ ?_ 17 (some 101) (lb 19 0x3ffff) hHeld ?_ (y:=by rintro w' hS;have d0:=(blk_cell (blk_below HX2.out hS) 0).trans rfl;have d1:=(blk_cell (blk_below HX2.out hS) 1).trans rfl;have d2:=(blk_cell (blk_below HX2.out hS) 2).trans rfl;have d3:=(blk_cell (blk_below HO2.out hS) 0).trans rfl;have d4:=(blk_cell (blk_below HO2.out hS) 1).trans rfl;have d5:=(blk_cell (blk_below HO2.out hS) 2).trans rfl;have d6:=(blk_cell (blk_below HO2.out hS) 3).trans rfl;have d7:=(blk_cell (blk_below HO2.out hS) 4).trans rfl;have d8:=cell_at hS C1.out;have d9:=cell_at hS C2.out;go_simp;with_reducible rfl)
    refine pu_ ?_ ?_ 18 (some 4) (lb 19 0x7ffff) ?_
    refine done_ (by kernel_rfl) ?_
    go_wp2
    go_ret
    exact ⟨rfl,below_then HB2.out HB2.out.size hHeld⟩
  · have ht:=of_decide_eq_true HTB.out
    obtain ⟨eb,heb⟩ : ∃ b,decide (c = a + 1) = b:=⟨_,rfl⟩
    have hvv : v = (eb && decide (wd.getD a 0 = (sn : Int))):=by rw [HVV.out,if_pos ht,heb]
    obtain ⟨a1,ha1⟩ : ∃ a1,a1 = a + 1:=⟨_,rfl⟩
    have f1 : IntKind.i64.wrap ((a : Int) + 1) = (a1 : Int):=by rw [IntWalk.i64_in _ (by omega)];omega
    rw [← ha1] at heb
    have f2 : decide ((c : Int) = (a1 : Int)) = eb:=by rw [← heb,decide_eq_decide];omega
    have f3 : ((c : Int) == (a1 : Int)) = eb:=f2
    have f4 : (c == a1) = eb:=by rw [← heb];rfl
    have HVW:=Lib.hid hvv
    have HEB:=Lib.hid heb
    have HA1:=Lib.hid ha1
    clear hvv ha1
    go_upto_region 5 with (fail)
    cases eb
    · refine start_ (n:=20) (S:=fun w' => Below v2.heap.size v2 w') (ds:=[]) (lb 20 0x0) (by kernel_rfl) rfl (by kernel_rfl) (below_drew1 (Below.refl _ _)) (fun hHeld => ?_)
      refine pu_ ?_ ?_ 0 (some 65) (lb 20 0x1) ?_
      refine pu_ ?_ ?_ 2 (some 67) (lb 20 0x5) ?_
      refine ta_ ?_ ?_ 1 (some 66) (lb 20 0x7) hHeld ?_ (y:=by rintro w' hS;have d0:=(blk_cell (blk_below HX2.out hS) 0).trans rfl;have d1:=(blk_cell (blk_below HX2.out hS) 1).trans rfl;have d2:=(blk_cell (blk_below HX2.out hS) 2).trans rfl;have d3:=(blk_cell (blk_below HO2.out hS) 0).trans rfl;have d4:=(blk_cell (blk_below HO2.out hS) 1).trans rfl;have d5:=(blk_cell (blk_below HO2.out hS) 2).trans rfl;have d6:=(blk_cell (blk_below HO2.out hS) 3).trans rfl;have d7:=(blk_cell (blk_below HO2.out hS) 4).trans rfl;go_simp;with_reducible rfl)
      refine ta_ ?_ ?_ 3 (some 68) (lb 20 0xf) hHeld ?_ (y:=by rintro w' hS;have d0:=(blk_cell (blk_below HX2.out hS) 0).trans rfl;have d1:=(blk_cell (blk_below HX2.out hS) 1).trans rfl;have d2:=(blk_cell (blk_below HX2.out hS) 2).trans rfl;have d3:=(blk_cell (blk_below HO2.out hS) 0).trans rfl;have d4:=(blk_cell (blk_below HO2.out hS) 1).trans rfl;have d5:=(blk_cell (blk_below HO2.out hS) 2).trans rfl;have d6:=(blk_cell (blk_below HO2.out hS) 3).trans rfl;have d7:=(blk_cell (blk_below HO2.out hS) 4).trans rfl;go_simp;with_reducible rfl)
      refine pu_ ?_ ?_ 4 (some 69) (lb 20 0x1f) ?_
      refine pu_ ?_ ?_ 5 (some 70) (lb 20 0x3f) ?_
      refine pu_ ?_ ?_ 6 (some 71) (lb 20 0x7f) ?_
      refine po_ ?_ 7 (some 72) (lb 20 0xff) ?_
      refine po_ ?_ 8 (some 73) (lb 20 0x1ff) ?_
      refine po_ ?_ 9 (some 74) (lb 20 0x3ff) ?_
      refine po_ ?_ 11 (some 76) (lb 20 0xbff) ?_
      refine po_ ?_ 15 (some 80) (lb 20 0x8bff) ?_
      refine po_ ?_ 10 (some 75) (lb 20 0x8fff) ?_
      refine po_ ?_ 12 (some 77) (lb 20 0x9fff) ?_
      refine po_ ?_ 13 (some 78) (lb 20 0xbfff) ?_
      refine po_ ?_ 14 (some 79) (lb 20 0xffff) ?_
      refine po_ ?_ 16 (some 81) (lb 20 0x1ffff) ?_
      refine po_ ?_ 17 (some 82) (lb 20 0x3ffff) ?_
      refine pu_ ?_ ?_ 18 (some 83) (lb 20 0x7ffff) ?_
      refine pu_ ?_ ?_ 19 (some 4) (lb 20 0xfffff) ?_
      refine done_ (by kernel_rfl) ?_
      go_wp2
      go_ret
      exact ⟨by rw [HVW.out];rfl,below_then HB2.out HB2.out.size hHeld⟩
    · have hca : c = a1:=of_decide_eq_true HEB.out
      have hal : a < wd.length:=by have:=HA1.out;have:=HN.out;omega
      obtain ⟨ad,ead,hw⟩:=at_int HC2.out.w a hal
      have hwd : wd.getD a 0 = wd[a]'hal:=by rw [List.getD_eq_getElem?_getD,List.getElem?_eq_getElem hal];rfl
      obtain ⟨y,hy⟩ : ∃ y,y = wd[a]'hal:=⟨_,rfl⟩
      rw [← hy] at hw hwd
      obtain ⟨yb,hyb⟩ : ∃ b,decide (y = (sn : Int)) = b:=⟨_,rfl⟩
      have g1 : (y == (sn : Int)) = yb:=hyb
      have hvf : v = yb:=by rw [HVW.out,hwd,hyb];rfl
      have HVF:=Lib.hid hvf
      have HWC:=Aside0.mk hw
      have g2 : (a : Int) < (n : Int):=by have:=HN.out;omega
      rw [ead] at HO2
      clear hy hw hwd hvf hca
      refine start_ (n:=20) (S:=fun w' => Below v2.heap.size v2 w') (ds:=[]) (lb 20 0x0) (by kernel_rfl) rfl (by kernel_rfl) (below_drew1 (Below.refl _ _)) (fun hHeld => ?_)
      refine pu_ ?_ ?_ 0 (some 65) (lb 20 0x1) ?_
      refine pu_ ?_ ?_ 2 (some 67) (lb 20 0x5) ?_
      refine ta_ ?_ ?_ 1 (some 66) (lb 20 0x7) hHeld ?_ (y:=by rintro w' hS;have d0:=(blk_cell (blk_below HX2.out hS) 0).trans rfl;have d1:=(blk_cell (blk_below HX2.out hS) 1).trans rfl;have d2:=(blk_cell (blk_below HX2.out hS) 2).trans rfl;have d3:=(blk_cell (blk_below HO2.out hS) 0).trans rfl;have d4:=(blk_cell (blk_below HO2.out hS) 1).trans rfl;have d5:=(blk_cell (blk_below HO2.out hS) 2).trans rfl;have d6:=(blk_cell (blk_below HO2.out hS) 3).trans rfl;have d7:=(blk_cell (blk_below HO2.out hS) 4).trans rfl;have d8:=cell_at hS HWC.out;go_simp;with_reducible rfl)
      refine ta_ ?_ ?_ 3 (some 68) (lb 20 0xf) hHeld ?_ (y:=by rintro w' hS;have d0:=(blk_cell (blk_below HX2.out hS) 0).trans rfl;have d1:=(blk_cell (blk_below HX2.out hS) 1).trans rfl;have d2:=(blk_cell (blk_below HX2.out hS) 2).trans rfl;have d3:=(blk_cell (blk_below HO2.out hS) 0).trans rfl;have d4:=(blk_cell (blk_below HO2.out hS) 1).trans rfl;have d5:=(blk_cell (blk_below HO2.out hS) 2).trans rfl;have d6:=(blk_cell (blk_below HO2.out hS) 3).trans rfl;have d7:=(blk_cell (blk_below HO2.out hS) 4).trans rfl;have d8:=cell_at hS HWC.out;go_simp;with_reducible rfl)
      refine pu_ ?_ ?_ 4 (some 69) (lb 20 0x1f) ?_
      refine pu_ ?_ ?_ 5 (some 70) (lb 20 0x3f) ?_
      refine pu_ ?_ ?_ 6 (some 71) (lb 20 0x7f) ?_
      refine pu_ ?_ ?_ 7 (some 72) (lb 20 0xff) ?_
      refine pu_ ?_ ?_ 8 (some 73) (lb 20 0x1ff) ?_
      refine pu_ ?_ ?_ 9 (some 74) (lb 20 0x3ff) ?_
      refine pu_ ?_ ?_ 11 (some 76) (lb 20 0xbff) ?_
      refine pu_ ?_ ?_ 15 (some 80) (lb 20 0x8bff) ?_
      refine ta_ ?_ ?_ 10 (some 75) (lb 20 0x8fff) hHeld ?_ (y:=by rintro w' hS;have d0:=(blk_cell (blk_below HX2.out hS) 0).trans rfl;have d1:=(blk_cell (blk_below HX2.out hS) 1).trans rfl;have d2:=(blk_cell (blk_below HX2.out hS) 2).trans rfl;have d3:=(blk_cell (blk_below HO2.out hS) 0).trans rfl;have d4:=(blk_cell (blk_below HO2.out hS) 1).trans rfl;have d5:=(blk_cell (blk_below HO2.out hS) 2).trans rfl;have d6:=(blk_cell (blk_below HO2.out hS) 3).trans rfl;have d7:=(blk_cell (blk_below HO2.out hS) 4).trans rfl;have d8:=cell_at hS HWC.out;go_simp;with_reducible rfl)
      refine ta_ ?_ ?_ 12 (some 77) (lb 20 0x9fff) hHeld ?_ (y:=by rintro w' hS;have d0:=(blk_cell (blk_below HX2.out hS) 0).trans rfl;have d1:=(blk_cell (blk_below HX2.out hS) 1).trans rfl;have d2:=(blk_cell (blk_below HX2.out hS) 2).trans rfl;have d3:=(blk_cell (blk_below HO2.out hS) 0).trans rfl;have d4:=(blk_cell (blk_below HO2.out hS) 1).trans rfl;have d5:=(blk_cell (blk_below HO2.out hS) 2).trans rfl;have d6:=(blk_cell (blk_below HO2.out hS) 3).trans rfl;have d7:=(blk_cell (blk_below HO2.out hS) 4).trans rfl;have d8:=cell_at hS HWC.out;go_simp;with_reducible rfl)
      refine pu_ ?_ ?_ 13 (some 78) (lb 20 0xbfff) ?_
      refine ta_ ?_ ?_ 14 (some 79) (lb 20 0xffff) hHeld ?_ (y:=by rintro w' hS;have d0:=(blk_cell (blk_below HX2.out hS) 0).trans rfl;have d1:=(blk_cell (blk_below HX2.out hS) 1).trans rfl;have d2:=(blk_cell (blk_below HX2.out hS) 2).trans rfl;have d3:=(blk_cell (blk_below HO2.out hS) 0).trans rfl;have d4:=(blk_cell (blk_below HO2.out hS) 1).trans rfl;have d5:=(blk_cell (blk_below HO2.out hS) 2).trans rfl;have d6:=(blk_cell (blk_below HO2.out hS) 3).trans rfl;have d7:=(blk_cell (blk_below HO2.out hS) 4).trans rfl;have d8:=cell_at hS HWC.out;go_simp;with_reducible rfl)
      refine ta_ ?_ ?_ 16 (some 81) (lb 20 0x1ffff) hHeld ?_ (y:=by rintro w' hS;have d0:=(blk_cell (blk_below HX2.out hS) 0).trans rfl;have d1:=(blk_cell (blk_below HX2.out hS) 1).trans rfl;have d2:=(blk_cell (blk_below HX2.out hS) 2).trans rfl;have d3:=(blk_cell (blk_below HO2.out hS) 0).trans rfl;have d4:=(blk_cell (blk_below HO2.out hS) 1).trans rfl;have d5:=(blk_cell (blk_below HO2.out hS) 2).trans rfl;have d6:=(blk_cell (blk_below HO2.out hS) 3).trans rfl;have d7:=(blk_cell (blk_below HO2.out hS) 4).trans rfl;have d8:=cell_at hS HWC.out;go_simp;with_reducible rfl)
      refine pu_ ?_ ?_ 17 (some 82) (lb 20 0x3ffff) ?_
      refine pu_ ?_ ?_ 18 (some 83) (lb 20 0x7ffff) ?_
      refine pu_ ?_ ?_ 19 (some 4) (lb 20 0xfffff) ?_
      refine done_ (by kernel_rfl) ?_
      go_wp2
      go_ret
      exact ⟨by have:=HVF.out;subst this;rfl,below_then HB2.out HB2.out.size hHeld⟩
end Go.Proofs.Ytmkgcjhimajgiaa


set_option linter.unusedVariables false
set_option linter.unusedSimpArgs false
namespace Go.Proofs.Ytmkgcjhimajgiaa
open Go.RowKit Go.Proofs.YtmkgcjhimajgiaaW.PrintWords Go.Proofs.YtmkgcjhimajgiaaW.PrintLast Go.Conc

def EndsE (w w' : World) (n1 : Nat) (m : List Bool) (e : Ending) : Prop:=∃ b,e = .returned (.slice (some ⟨b,0,none⟩) n1 n1) ∧ BB w' b m ∧ w.heap.size ≤ b
set_option maxRecDepth 100000 in
set_option maxHeartbeats 16000000 in
theorem endsR_c (k : RB) (g : Gram) (wd : List Int) (M : Tab) (lo : Nat) (A : Option Addr) (d : Nat) (l : List Int) (i : Nat) (W : World) (h : RC W lo k g wd M) (hq : Sm40 g wd) (hl : kInt.C W A l.length l) (hll : l.length ≤ 1000) (hi : i ≤ wd.length) :
    Calls Try.prog 50 #[.pointer (some ⟨k.b,0,none⟩),.slice A l.length d,.int .i64 i] W fun e W' => EndsE W W' (wd.length + 1) (endsN g wd M l i) e ∧ Below W.heap.size W W':=by
  have HC:=Aside0.mk h
  have HQ:=Aside0.mk hq
  have HL:=Aside0.mk hl
  have HO:=Aside0.mk h.o
  obtain ⟨q1,q2,q3⟩:=hq
  obtain ⟨n,hn⟩ : ∃ n,n = wd.length:=⟨_,rfl⟩
  obtain ⟨n1,hn1⟩ : ∃ n1,n1 = n + 1:=⟨_,rfl⟩
  have hn40 : n ≤ 40:=by omega
  have hin : i ≤ n:=by omega
  have HIN:=Aside0.mk hi
  have f1 : IntKind.i64.wrap ((n : Int) + 1) = (n1 : Int):=by rw [IntWalk.i64_in _ (by omega)];omega
  have HNIL:=Lib.hid (endsN_nil (g:=g) (M:=M) hi)
  have HN:=Lib.hid hn
  have HN1:=Lib.hid hn1
  rw [← hn] at HO HNIL ⊢
  rw [← hn1] at HO HNIL ⊢
  have a3:=(blk_cell HO.out 3).trans rfl
  have hmf:=print_make_of (P:=Try.prog) 57 4 (.bool false) 1 Try.underlying57 (by kernel_rfl) rfl (by decide) n1 (by omega)
  obtain ⟨b0,hb0⟩ : ∃ b,b = W.heap.size:=⟨_,rfl⟩
  obtain ⟨v0,hv0⟩ : ∃ v0,v0 = W.alloc (.cells (madeCells #[.bool false] n1) 4):=⟨_,rfl⟩
  have HZB : Aside0 (BB v0 b0 (List.replicate n1 false)):=⟨by rw [hv0,hb0];exact BB.new _ _⟩
  have HV0 : Aside0 (Below W.heap.size W v0):=⟨by rw [hv0];exact (Below.refl _ _).alloc (Nat.le_refl _) _⟩
  have hbv : W.heap.size ≤ b0:=by omega
  have HEN : Hid (∀ m,(endsN g wd M m i).length = n1):=Lib.hid fun m => by rw [endsN_len];omega
  have HMN : Hid (∀ m x a b,(midN g wd M m x i a b).length = n1):=Lib.hid fun m x a b => by rw [midN_len];omega
  have HEG : Hid (∀ m a,a ≤ n → (getB (endsN g wd M m i) (a : Int) = true ↔ RowR (SB g wd M) m i a)):=Lib.hid fun m a ha => endsN_get (by omega)
  have HMS : Hid (∀ m x,midN g wd M m x i i i = List.replicate n1 false):=Lib.hid fun m x => by rw [midN_start,hn1,hn]
  clear h hl hn hn1
  go_enter Try.func50,Try.ntmps50
  go_upto_region 3 with (fail)
  simp only [← hv0]
  simp only [← hb0]
  clear hv0 hb0 a3
  have j1 : (i : Int) < (n1 : Int):=by have:=HN1.out;omega
  have j2:=HZB.out.fz i
  have j3:=HZB.out.cell' (i:=i) (by simp;have:=HN1.out;omega) rfl
  go_upto_region 4 with (fail)
  clear j1 j2 j3
  have HB1 : Aside0 (BB (v0.setCell ⟨b0,i,none⟩ (.bool true)) b0 (endsN g wd M (l.take 0) i)):=⟨by rw [List.take_zero,HNIL.out];exact HZB.out.set i true⟩
  have HW1 : Aside0 (Below W.heap.size W (v0.setCell ⟨b0,i,none⟩ (.bool true))):=⟨below_set HV0.out hbv i _⟩
  clear HZB HV0
  go_wp2
  go_loopw [9,8] (fun kv nv wr => ∃ (kk b : Nat),kk ≤ l.length ∧ kv = .int .i64 kk ∧ nv = .slice (some ⟨b,0,none⟩) n1 n1 ∧ Aside0 (BB wr b (endsN g wd M (l.take kk) i)) ∧ Aside0 (Below W.heap.size W wr) ∧ Aside0 (W.heap.size ≤ b)) (fun kv _ _ => l.length - (intOf kv).toNat)
  case atStart => exact ⟨0,b0,Nat.zero_le _,rfl,rfl,HB1,HW1,⟨hbv⟩⟩
  case round =>
    clear HB1 HW1 hbv
    obtain ⟨kk,b,hk,rfl,rfl,HBB,HB,HBL⟩:=hrel
    rename World => wk
    by_cases hkl : kk < l.length
    · have k2 : (kk : Int) < (l.length : Int):=by omega
      obtain ⟨ad,ead,hc⟩:=at_int HL.out kk hkl
      cases ead
      have HML:=Lib.hid (midN_last (g:=g) (w:=wd) (M:=M) (i:=i) hkl HIN.out)
      obtain ⟨x,hx⟩ : ∃ x,x = l[kk]'hkl:=⟨_,rfl⟩
      rw [← hx] at hc HML
      have HX:=Aside0.mk (pw_cell_below HB.out hc)
      obtain ⟨lt,hlt⟩ : ∃ lt,lt = l.take kk:=⟨_,rfl⟩
      rw [← hlt] at HBB HML
      have HKL:=Aside0.mk hkl
      rw [← HN.out,← HN1.out] at HML
      obtain ⟨b2,hb2⟩ : ∃ b2,b2 = wk.heap.size:=⟨_,rfl⟩
      obtain ⟨v1,hv1⟩ : ∃ v1,v1 = wk.alloc (.cells (madeCells #[.bool false] n1) 4):=⟨_,rfl⟩
      have HZ1 : Aside0 (BB v1 b2 (midN g wd M lt x i i i)):=⟨by rw [HMS.out,hv1,hb2];exact BB.new _ _⟩
      have HV1 : Aside0 (Below wk.heap.size wk v1):=⟨by rw [hv1];exact (Below.refl _ _).alloc (Nat.le_refl _) _⟩
      have hbk : wk.heap.size ≤ b2:=by omega
      have HBK:=Aside0.mk hbk
      have HB2 : Aside0 (W.heap.size ≤ b2):=⟨by have:=HB.out.size;omega⟩
      clear hx hc hlt
      go_upto_region 8 with (fail)
      simp only [← hv1]
      simp only [← hb2]
      clear hv1 hb2 k2 hbk
      have HCk:=Aside0.mk (HC.out.below_ HB.out)
      go_wp2
      go_loopw [11] (fun av wr => ∃ a : Nat,i ≤ a ∧ a ≤ n1 ∧ av = .int .i64 a ∧ Aside0 (BB wr b2 (midN g wd M lt x i a a)) ∧ Aside0 (Below wk.heap.size wk wr)) (fun av _ => n1 - (intOf av).toNat)
      case atStart => exact ⟨i,Nat.le_refl _,by have:=HN1.out;omega,rfl,HZ1,HV1⟩
      case round =>
        clear HZ1 HV1
        obtain ⟨a,ha1,ha2,rfl,HMB,HV⟩:=hrel
        rename World => wa
        by_cases han : a ≤ n
        · have a2 : (a : Int) ≤ (n : Int):=by omega
          have HEA:=Lib.hid (HEG.out lt a han)
          obtain ⟨nb,hnb⟩ : ∃ nb,getB (endsN g wd M lt i) (a : Int) = nb:=⟨_,rfl⟩
          have HNA:=Aside0.mk (HBB.out.cell' (i:=a) (by rw [HEN.out];have:=HN1.out;omega) hnb)
          rw [hnb] at HEA
          have HAN:=Aside0.mk han
          clear hnb
          cases nb
          · have HSK:=Lib.hid (midN_skip (x:=x) (b:=a) (fun hh => by have:=HEA.out.2 hh;cases this))
            have c1:=pw_cell_below HV.out HNA.out
            have i0 : (a : Int) < (n1 : Int):=by have:=HN1.out;omega
            have d1 : decide ((a : Int) ≤ (n : Int)) = true:=decide_eq_true a2
            rw [HSK.out] at HMB
            go_wp2
            clear a2 d1
            go_loopw [12] (fun bv wr => bv = .int .i64 a ∧ wr = wa) (fun bv _ => 5)
            case atStart => exact ⟨rfl,rfl⟩
            case round =>
              obtain ⟨rfl,rfl⟩:=hrel
              have c1:=pw_cell_below HV.out HNA.out
              have a2 : (a : Int) ≤ (n : Int):=by have:=HAN.out;omega
              have d1 : decide ((a : Int) ≤ (n : Int)) = true:=decide_eq_true a2
              go_wp2
              go_roundw
              case rel => exact ⟨a + 1,by omega,by have:=HN1.out;have:=HAN.out;omega,by go_num,HMB,HV⟩
              case measure => have:=HN1.out;have:=HAN.out;simp [intOf];omega
          · have HRA:=Lib.hid (HEA.out.1 rfl)
            go_wp2
            clear a2
            go_loopw [12] (fun bv wr => ∃ t : Nat,a ≤ t ∧ t ≤ n1 ∧ bv = .int .i64 t ∧ Aside0 (BB wr b2 (midN g wd M lt x i a t)) ∧ Aside0 (Below wk.heap.size wk wr)) (fun bv _ => n1 - (intOf bv).toNat)
            case atStart => exact ⟨a,Nat.le_refl _,by have:=HN1.out;have:=HAN.out;omega,rfl,HMB,HV⟩
            case round =>
              clear HMB HV
              obtain ⟨t,ht1,ht2,rfl,HMB,HV⟩:=hrel
              rename World => wt
              have c1:=pw_cell_below HV.out HNA.out
              have i0 : (a : Int) < (n1 : Int):=by have:=HN1.out;have:=HAN.out;omega
              by_cases htn : t ≤ n
              · have t2 : (t : Int) ≤ (n : Int):=by omega
                have d1 : decide ((t : Int) ≤ (n : Int)) = true:=decide_eq_true t2
                have HNX:=Lib.hid (midN_next (g:=g) (w:=wd) (M:=M) (x:=x) HRA.out (show t ≤ wd.length by have:=HN.out;omega))
                obtain ⟨mb,hmb⟩ : ∃ mb,getB (midN g wd M lt x i a t) (t : Int) = mb:=⟨_,rfl⟩
                obtain ⟨sb,hsb⟩ : ∃ sb,spanB g wd M x a t = sb:=⟨_,rfl⟩
                have htm : t < (midN g wd M lt x i a t).length:=by rw [HMN.out];have:=HN1.out;omega
                have HTM:=Aside0.mk htm
                have HMT:=Aside0.mk (HMB.out.cell' (i:=t) htm hmb)
                rw [hmb,hsb] at HNX
                have HSB:=Lib.hid hsb
                have HMBE:=Lib.hid hmb
                have i3 : (t : Int) < (n1 : Int):=by have:=HN1.out;omega
                have HCw:=Aside0.mk (HCk.out.below_ HV.out)
                have HXw:=Aside0.mk (pw_cell_below HV.out HX.out)
                have k2 : (kk : Int) < (l.length : Int):=by have:=HKL.out;omega
                clear hmb hsb htm
                go_upto_region 14 with (fail)
                clear c1 t2 d1 i0
                have fz:=HMB.out.fz t
                have hz:=HMT.out
                cases mb
                · have HTT : Aside0 (∀ W',Below wt.heap.size wt W' → BB (W'.setCell ⟨b2,t,none⟩ (.bool sb)) b2 (midN g wd M lt x i a (t + 1)) ∧ Below wk.heap.size wk (W'.setCell ⟨b2,t,none⟩ (.bool sb)) ∧ W'.frozen? ⟨b2,t,none⟩ = false ∧ W'.cell? ⟨b2,t,none⟩ = some (.bool false)):=⟨fun W' hb => by
                    have h1:=(HMB.out.below hb).set t sb
                    have h2:=HNX.out
                    rw [Bool.false_or] at h2
                    rw [h2] at h1
                    exact ⟨h1,below_set (below_then HV.out HV.out.size hb) HBK.out _ _,(HMB.out.below hb).fz t,pw_cell_below hb HMT.out⟩⟩
                  clear fz hz
                  refine pl_start ?_
                  refine pl_held (B:=wt.heap.size) (v:=wt) (Below.refl _ _) (fun hHeld => ?_)
                  refine pp_ ?_ ?_ ?_
                  refine pp_ ?_ ?_ ?_
                  refine pp_ ?_ ?_ ?_
                  refine pp_ ?_ ?_ ?_
                  refine pp_ ?_ ?_ ?_
                  refine pp_ ?_ ?_ ?_ (y:=by have d0:=cell_at hHeld HMT.out;have d1:=cell_at hHeld HXw.out;go_simp;rfl)
                  refine pp_ ?_ ?_ ?_
                  refine pp_ ?_ ?_ ?_
                  refine pp_ ?_ ?_ ?_
                  refine pp_ ?_ ?_ ?_
                  refine pp_ ?_ ?_ ?_
                  refine pp_ ?_ ?_ ?_ (y:=by have d0:=cell_at hHeld HMT.out;have d1:=cell_at hHeld HXw.out;go_simp;rfl)
                  refine pp_ ?_ ?_ ?_
                  refine pp_ ?_ ?_ ?_
                  refine pp_ ?_ ?_ ?_
                  refine goesCL_ (N:=(some 66)) Try.func27 (by kernel_rfl) rfl (by rfl) rfl rfl (symR_c k g wd M lo x a t _ (HCw.out.below_ hHeld) HQ.out HSB.out) (by simp [Act.eval]) ?_
                  rintro e x14_15 ⟨rfl,hb14_15⟩
                  refine ⟨_,rfl,?_⟩
                  simp only [Act.put,List.setIfInBounds_toArray,List.set_cons_zero,List.set_cons_succ]
                  refine pl_held (B:=wt.heap.size) (v:=wt) (below_then hHeld hHeld.size hb14_15) (fun hHeld => ?_)
                  refine pp_ ?_ ?_ ?_
                  refine pp_ ?_ ?_ ?_
                  obtain ⟨h1,h2,fz,hz⟩:=HTT.out _ hHeld
                  have H1:=Aside0.mk h1
                  have H2:=Aside0.mk h2
                  clear h1 h2
                  refine pl_skip (w1:=?w19) (by rfl) rfl ?h19 ?_
                  case h19 => (go_simp;rfl)
                  refine pl_nil ?_
                  clear fz hz
                  go_wp2
                  go_roundw
                  case rel => exact ⟨t + 1,by omega,by have:=HN1.out;omega,by go_num,H1,H2⟩
                  case measure => have:=HN1.out;simp [intOf];omega
                · refine pl_start ?_
                  refine pl_held (B:=wt.heap.size) (v:=wt) (Below.refl _ _) (fun hHeld => ?_)
                  refine pp_ ?_ ?_ ?_
                  refine pp_ ?_ ?_ ?_
                  refine pp_ ?_ ?_ ?_
                  refine pp_ ?_ ?_ ?_
                  refine pp_ ?_ ?_ ?_
                  refine pp_ ?_ ?_ ?_ (y:=by have d0:=cell_at hHeld HMT.out;have d1:=cell_at hHeld HXw.out;go_simp;rfl)
                  refine pp_ ?_ ?_ ?_
                  refine pf_ ?_ ?_
                  refine pf_ ?_ ?_
                  refine pf_ ?_ ?_
                  refine pf_ ?_ ?_
                  refine pf_ ?_ ?_
                  refine pf_ ?_ ?_
                  refine pf_ ?_ ?_
                  refine pf_ ?_ ?_
                  refine pf_ ?_ ?_
                  refine pp_ ?_ ?_ ?_
                  refine pp_ ?_ ?_ ?_
                  refine pl_skip (w1:=?w38) (by rfl) rfl ?h38 ?_
                  case h38 => (go_simp;rfl)
                  refine pl_nil ?_
                  have H1 : Aside0 (BB (wt.setCell ⟨b2,t,none⟩ (.bool true)) b2 (midN g wd M lt x i a (t + 1))):=⟨by
                    have h1:=HMB.out.set t true
                    have h2:=HNX.out
                    rw [Bool.true_or] at h2
                    rw [h2] at h1
                    exact h1⟩
                  have H2:=Aside0.mk (below_set HV.out HBK.out t (.bool true))
                  clear fz hz
                  go_wp2
                  go_roundw
                  case rel => exact ⟨t + 1,by omega,by have:=HN1.out;omega,by go_num,H1,H2⟩
                  case measure => have:=HN1.out;simp [intOf];omega
              · have t2 : ¬ (t : Int) ≤ (n : Int):=by omega
                have d1 : decide ((t : Int) ≤ (n : Int)) = false:=decide_eq_false t2
                have hte : t = wd.length + 1:=by have:=HN1.out;have:=HN.out;omega
                rw [hte,midN_end] at HMB
                go_wp2
                go_roundw
                case rel => exact ⟨a + 1,by omega,by have:=HN1.out;have:=HAN.out;omega,by go_num,HMB,HV⟩
                case measure => have:=HN1.out;have:=HAN.out;simp [intOf];omega
        · have a2 : ¬ (a : Int) ≤ (n : Int):=by omega
          have hae : a = n1:=by have:=HN1.out;omega
          rw [hae,HML.out] at HMB
          clear hae
          go_wp2
          go_roundw
          case rel => exact ⟨kk + 1,b2,by have:=HKL.out;omega,by go_num,rfl,HMB,⟨below_then HB.out HB.out.size HV.out⟩,HB2⟩
          case measure => have:=HKL.out;simp [intOf];omega
    · have k2 : ¬ (kk : Int) < (l.length : Int):=by omega
      rw [List.take_of_length_le (by omega)] at HBB
      go_wp2
      go_ret
      exact ⟨⟨b,rfl,HBB.out,HBL.out⟩,HB.out⟩
end Go.Proofs.Ytmkgcjhimajgiaa


set_option linter.unusedVariables false
set_option linter.unusedSimpArgs false
namespace Go.Proofs.Ytmkgcjhimajgiaa
open Go.RowKit Go.Proofs.YtmkgcjhimajgiaaW.PrintWords Go.Proofs.YtmkgcjhimajgiaaW.PrintLast Go.Conc

theorem cutC_to {α : Type} (d : Kd α) {t e : TypeId} {z : Option Value} {bytes : Nat} (ht : Try.prog.underlying t = some (.slice e)) (hinfo : (Try.prog.info? e).map (fun i => (i.zero,i.size,i.bytes)) = some (z,d.sz,bytes)) {w : World} {A : Option Addr} {c n : Nat} {xs : List α}
    (h : d.C w A n xs) (hc : n ≤ c) (j : Nat) (hj : j ≤ n) :
    ∃ A',(∀ W : World,(Instr.slice t (.slice A n c) none (some (.int .i64 (j : Int))) none).run Try.prog W = .ok (.slice A' j c) W) ∧ d.C w A' (xs.take j).length (xs.take j):=by
  obtain rfl:=C_len h
  obtain ⟨i0,hi,hzz⟩:=Option.map_eq_some_iff.1 hinfo
  simp only [Prod.mk.injEq] at hzz
  refine ⟨A,fun W => ?_,?_⟩
  · have hel : Try.prog.elem t = e:=by simp [Program.elem,ht]
    have hu : Try.prog.underlying t = some (.slice (Try.prog.elem t)):=by rw [hel];exact ht
    rw [run_slice_h W t A xs.length c hu .i64 (j : Int) (by omega) (by omega),hel]
    by_cases hc0 : c = 0
    · simp [sizeOf,typeInfo,hi,hzz.2.1,sliced,Result.andThen,hc0]
    · simp [sizeOf,typeInfo,hi,hzz.2.1,sliced,Result.andThen,hc0,Ne.symm hc0]
      cases A with
      | none => rfl
      | some a => simp [Addr.add]
  · rw [List.length_take,Nat.min_eq_left hj];exact C_take' h hj
/-- The document's table says all that spans,and nothing else. -/
def Full (g : Gram) (wd : List Int) (M : Tab) : Prop:=∀ (s : Int) (i j : Nat),spanB g wd M s i j = true ↔ Ch g wd (.sym s i j)
theorem Full.row {g : Gram} {wd : List Int} {M : Tab} (h : Full g wd M) {l : List Int} {i j : Nat} : RowR (SB g wd M) l i j ↔ Row g wd l i j:=by
  rw [row_eq]
  exact ⟨rowR_mono fun x a b k => (h x a b).1 k,rowR_mono fun x a b k => (h x a b).2 k⟩
theorem Full.ends {g : Gram} {wd : List Int} {M : Tab} (h : Full g wd M) {r d i j : Nat} (hr : r < g.rules.length) (hd : d ≤ (rightR g r).length) (hi : i ≤ wd.length) (hj : j ≤ wd.length) : getB (endsN g wd M ((rightR g r).take d) i) (j : Int) = partV g wd r d i j:=by
  rw [Bool.eq_iff_iff,endsN_get hj,h.row,partV_nat,part_iff]
  exact ⟨fun k => ⟨hr,hd,hi,k⟩,fun k => k.2.2.2⟩
theorem Full.sym {g : Gram} {wd : List Int} {M : Tab} (h : Full g wd M) (s i j : Int) : spanB g wd M s i j = symV g wd s i j:=by
  by_cases hij : 0 ≤ i ∧ 0 ≤ j
  · obtain ⟨a,rfl⟩:=Int.eq_ofNat_of_zero_le hij.1
    obtain ⟨b,rfl⟩:=Int.eq_ofNat_of_zero_le hij.2
    rw [Bool.eq_iff_iff,symV_nat,h s a b]
  · have h1 : spanB g wd M s i j = false:=by
      unfold spanB
      rw [if_pos (by omega)]
    have h2 : symV g wd s i j = false:=by
      rw [Bool.eq_false_iff]
      intro hh
      rw [symV_iff] at hh
      omega
    rw [h1,h2]
set_option maxRecDepth 100000 in
set_option maxHeartbeats 16000000 in
theorem partR_c (k : RB) (g : Gram) (wd : List Int) (M : Tab) (lo : Nat) (r d i j : Int) (W : World) (h : RC W lo k g wd M) (hq : Sm40 g wd) (hgd : goodF g = true) (hM : Full g wd M) {v : Bool} (hv : partV g wd r d i j = v) :
    Calls Try.prog 23 #[.pointer (some ⟨k.b,0,none⟩),.agg #[.int .i64 r,.int .i64 d,.int .i64 i,.int .i64 j]] W fun e W' => e = .returned (.bool v) ∧ Below W.heap.size W W':=by
  obtain ⟨x0,hx0⟩ : ∃ x0,x0 = W.heap.size:=⟨_,rfl⟩
  obtain ⟨v0,hv0⟩ : ∃ v0 : World,v0 = W.alloc (.cells #[.int .i64 r,.int .i64 d,.int .i64 i,.int .i64 j] 30 (0,0)):=⟨_,rfl⟩
  have HB0 : Aside0 (Below W.heap.size W v0):=⟨by rw [hv0];exact (Below.refl W.heap.size W).alloc (Nat.le_refl _) _⟩
  have HX : Aside0 (v0.heap[x0]? = some (.cells #[.int .i64 r,.int .i64 d,.int .i64 i,.int .i64 j] 30 (0,0))):=⟨by rw [hv0,hx0];exact blk_new W _⟩
  have HC:=Aside0.mk (h.below_ HB0.out)
  have HO:=Aside0.mk HC.out.o
  have HQ:=Aside0.mk hq
  have HM:=Aside0.mk hM
  have HGD:=Lib.hid hgd
  obtain ⟨q1,q2,q3⟩:=hq
  have q4:=(goodF_small hgd).2.2.2
  obtain ⟨n,hn⟩ : ∃ n,n = wd.length:=⟨_,rfl⟩
  have hn40 : n ≤ 40:=by omega
  have HN:=Lib.hid hn
  have hin : v = true → (0 ≤ i ∧ 0 ≤ j ∧ i ≤ n ∧ j ≤ n) ∧ (0 ≤ r ∧ r < g.rules.length) ∧ 0 ≤ d ∧ d ≤ (rightR g r.toNat).length ∧ i ≤ j:=fun h => by
    rw [← hv] at h
    have h1:=partV_in h
    have h2:=(partV_iff.1 h).2.2.2.2.ok
    simp only [Itm.ok] at h2
    omega
  have HIN:=Lib.hid hin
  have HV:=Lib.hid hv
  rw [← hn] at HO
  have a3:=(blk_cell HO.out 3).trans rfl
  clear h hv hn hin hgd hM
  go_enter Try.func23,Try.ntmps23
  go_upto_region 1 with (fail)
  simp only [← hv0]
  simp only [← hx0]
  have HX0:=Lib.hid hx0
  clear hv0 hx0
  go_upto_region 2 with (fail)
  clear a3
  have HLD : Aside0 (∀ w' : World,Below v0.heap.size v0 w' → w'.cell? ⟨x0,0,none⟩ = some (.int .i64 r) ∧ w'.cell? ⟨x0,1,none⟩ = some (.int .i64 d) ∧ w'.cell? ⟨x0,2,none⟩ = some (.int .i64 i) ∧ w'.cell? ⟨x0,3,none⟩ = some (.int .i64 j) ∧ w'.cell? ⟨k.b,0,none⟩ = some (.slice k.A1 g.terms.length k.c1) ∧ w'.cell? ⟨k.b,1,none⟩ = some (.slice k.A2 g.names.length k.c2) ∧ w'.cell? ⟨k.b,2,none⟩ = some (.slice k.A3 g.rules.length k.c3) ∧ w'.cell? ⟨k.b,3,none⟩ = some (.slice k.B n k.cb)):=⟨fun w' h => ⟨(blk_cell (blk_below HX.out h) 0).trans rfl,(blk_cell (blk_below HX.out h) 1).trans rfl,(blk_cell (blk_below HX.out h) 2).trans rfl,(blk_cell (blk_below HX.out h) 3).trans rfl,(blk_cell (blk_below HO.out h) 0).trans rfl,(blk_cell (blk_below HO.out h) 1).trans rfl,(blk_cell (blk_below HO.out h) 2).trans rfl,(blk_cell (blk_below HO.out h) 3).trans rfl⟩⟩
  by_cases z0 : r < 0
  · have y0 : decide (r < 0) = true:=decide_eq_true z0
    have hvf : v = false:=by cases v with | false => rfl | true => (have:=HIN.out rfl;omega)
    subst hvf
    refine start_ (n:=59) (S:=fun w' => Below v0.heap.size v0 w') (ds:=[]) (lb 59 0x0) (by kernel_rfl) rfl (by kernel_rfl) (below_drew1 (Below.refl _ _)) (fun hHeld => ?_)
    refine pu_ ?_ ?_ 0 (some 11) (lb 59 0x1) ?_
    refine ta_ ?_ ?_ 1 (some 12) (lb 59 0x3) hHeld ?_ (y:=by rintro w' hS;obtain ⟨d0,d1,d2,d3,d4,d5,d6,d7⟩:=HLD.out w' hS;go_simp;with_reducible rfl)
    refine pu_ ?_ ?_ 2 (some 13) (lb 59 0x7) ?_
    refine pu_ ?_ ?_ 3 (some 14) (lb 59 0xf) ?_
    refine po_ ?_ 4 (some 15) (lb 59 0x1f) ?_
    refine po_ ?_ 6 (some 17) (lb 59 0x5f) ?_
    refine po_ ?_ 7 (some 18) (lb 59 0xdf) ?_
    refine po_ ?_ 8 (some 19) (lb 59 0x1df) ?_
    refine po_ ?_ 9 (some 20) (lb 59 0x3df) ?_
    refine po_ ?_ 5 (some 16) (lb 59 0x3ff) ?_
    refine po_ ?_ 10 (some 21) (lb 59 0x7ff) ?_
    refine po_ ?_ 11 (some 22) (lb 59 0xfff) ?_
    refine po_ ?_ 12 (some 23) (lb 59 0x1fff) ?_
    refine pu_ ?_ ?_ 13 (some 24) (lb 59 0x3fff) ?_
    refine pu_ ?_ ?_ 14 (some 25) (lb 59 0x7fff) ?_
    refine po_ ?_ 15 (some 26) (lb 59 0xffff) ?_
    refine po_ ?_ 16 (some 27) (lb 59 0x1ffff) ?_
    refine po_ ?_ 17 (some 28) (lb 59 0x3ffff) ?_
    refine pu_ ?_ ?_ 18 (some 29) (lb 59 0x7ffff) ?_
    refine pu_ ?_ ?_ 19 (some 30) (lb 59 0xfffff) ?_
    refine po_ ?_ 20 (some 31) (lb 59 0x1fffff) ?_
    refine po_ ?_ 22 (some 33) (lb 59 0x5fffff) ?_
    refine po_ ?_ 23 (some 34) (lb 59 0xdfffff) ?_
    refine po_ ?_ 24 (some 35) (lb 59 0x1dfffff) ?_
    refine po_ ?_ 25 (some 36) (lb 59 0x3dfffff) ?_
    refine po_ ?_ 27 (some 38) (lb 59 0xbdfffff) ?_
    refine po_ ?_ 21 (some 32) (lb 59 0xbffffff) ?_
    refine po_ ?_ 26 (some 37) (lb 59 0xfffffff) ?_
    refine po_ ?_ 28 (some 39) (lb 59 0x1fffffff) ?_
    refine po_ ?_ 29 (some 40) (lb 59 0x3fffffff) ?_
    refine po_ ?_ 30 (some 41) (lb 59 0x7fffffff) ?_
    refine po_ ?_ 31 (some 42) (lb 59 0xffffffff) ?_
    refine po_ ?_ 32 (some 43) (lb 59 0x1ffffffff) ?_
    refine po_ ?_ 33 (some 44) (lb 59 0x3ffffffff) ?_
    refine pu_ ?_ ?_ 34 (some 45) (lb 59 0x7ffffffff) ?_
    refine pu_ ?_ ?_ 35 (some 46) (lb 59 0xfffffffff) ?_
    refine po_ ?_ 36 (some 47) (lb 59 0x1fffffffff) ?_
    refine po_ ?_ 37 (some 48) (lb 59 0x3fffffffff) ?_
    refine po_ ?_ 38 (some 49) (lb 59 0x7fffffffff) ?_
    refine pu_ ?_ ?_ 39 (some 50) (lb 59 0xffffffffff) ?_
    refine pu_ ?_ ?_ 40 (some 51) (lb 59 0x1ffffffffff) ?_
    refine po_ ?_ 41 (some 52) (lb 59 0x3ffffffffff) ?_
    refine po_ ?_ 43 (some 54) (lb 59 0xbffffffffff) ?_
    refine po_ ?_ 42 (some 53) (lb 59 0xfffffffffff) ?_
    refine po_ ?_ 44 (some 55) (lb 59 0x1fffffffffff) ?_
    refine pu_ ?_ ?_ 45 (some 56) (lb 59 0x3fffffffffff) ?_
    refine pu_ ?_ ?_ 46 (some 57) (lb 59 0x7fffffffffff) ?_
    refine po_ ?_ 47 (some 58) (lb 59 0xffffffffffff) ?_
    refine po_ ?_ 49 (some 60) (lb 59 0x2ffffffffffff) ?_
    refine po_ ?_ 48 (some 59) (lb 59 0x3ffffffffffff) ?_
    refine po_ ?_ 50 (some 61) (lb 59 0x7ffffffffffff) ?_
    refine po_ ?_ 51 (some 62) (lb 59 0xfffffffffffff) ?_
    refine pu_ ?_ ?_ 52 (some 63) (lb 59 0x1fffffffffffff) ?_
    refine pu_ ?_ ?_ 53 (some 64) (lb 59 0x3fffffffffffff) ?_
    refine po_ ?_ 54 (some 65) (lb 59 0x7fffffffffffff) ?_
    refine po_ ?_ 56 (some 67) (lb 59 0x17fffffffffffff) ?_
    refine po_ ?_ 55 (some 66) (lb 59 0x1ffffffffffffff) ?_
    refine po_ ?_ 57 (some 68) (lb 59 0x3ffffffffffffff) ?_
    refine pu_ ?_ ?_ 58 (some 69) (lb 59 0x7ffffffffffffff) ?_
    refine done_ (by kernel_rfl) ?_
    go_wp2
    go_ret
    exact ⟨rfl,below_then HB0.out HB0.out.size hHeld⟩
  have y0 : decide (r < 0) = false:=decide_eq_false z0
  by_cases z1 : (g.rules.length : Int) ≤ r
  · have y1 : decide ((g.rules.length : Int) ≤ r) = true:=decide_eq_true z1
    have hvf : v = false:=by cases v with | false => rfl | true => (have:=HIN.out rfl;omega)
    subst hvf
    refine start_ (n:=59) (S:=fun w' => Below v0.heap.size v0 w') (ds:=[]) (lb 59 0x0) (by kernel_rfl) rfl (by kernel_rfl) (below_drew1 (Below.refl _ _)) (fun hHeld => ?_)
    refine pu_ ?_ ?_ 0 (some 11) (lb 59 0x1) ?_
    refine ta_ ?_ ?_ 1 (some 12) (lb 59 0x3) hHeld ?_ (y:=by rintro w' hS;obtain ⟨d0,d1,d2,d3,d4,d5,d6,d7⟩:=HLD.out w' hS;go_simp;with_reducible rfl)
    refine pu_ ?_ ?_ 2 (some 13) (lb 59 0x7) ?_
    refine pu_ ?_ ?_ 3 (some 14) (lb 59 0xf) ?_
    refine pu_ ?_ ?_ 4 (some 15) (lb 59 0x1f) ?_
    refine pu_ ?_ ?_ 6 (some 17) (lb 59 0x5f) ?_
    refine pu_ ?_ ?_ 7 (some 18) (lb 59 0xdf) ?_
    refine pu_ ?_ ?_ 8 (some 19) (lb 59 0x1df) ?_
    refine pu_ ?_ ?_ 9 (some 20) (lb 59 0x3df) ?_
    refine ta_ ?_ ?_ 5 (some 16) (lb 59 0x3ff) hHeld ?_ (y:=by rintro w' hS;obtain ⟨d0,d1,d2,d3,d4,d5,d6,d7⟩:=HLD.out w' hS;go_simp;with_reducible rfl)
    refine ta_ ?_ ?_ 10 (some 21) (lb 59 0x7ff) hHeld ?_ (y:=by rintro w' hS;obtain ⟨d0,d1,d2,d3,d4,d5,d6,d7⟩:=HLD.out w' hS;go_simp;with_reducible rfl)
    refine pu_ ?_ ?_ 11 (some 22) (lb 59 0xfff) ?_
    refine pu_ ?_ ?_ 12 (some 23) (lb 59 0x1fff) ?_
    refine pu_ ?_ ?_ 13 (some 24) (lb 59 0x3fff) ?_
    refine pu_ ?_ ?_ 14 (some 25) (lb 59 0x7fff) ?_
    refine po_ ?_ 15 (some 26) (lb 59 0xffff) ?_
    refine po_ ?_ 16 (some 27) (lb 59 0x1ffff) ?_
    refine po_ ?_ 17 (some 28) (lb 59 0x3ffff) ?_
    refine pu_ ?_ ?_ 18 (some 29) (lb 59 0x7ffff) ?_
    refine pu_ ?_ ?_ 19 (some 30) (lb 59 0xfffff) ?_
    refine po_ ?_ 20 (some 31) (lb 59 0x1fffff) ?_
    refine po_ ?_ 22 (some 33) (lb 59 0x5fffff) ?_
    refine po_ ?_ 23 (some 34) (lb 59 0xdfffff) ?_
    refine po_ ?_ 24 (some 35) (lb 59 0x1dfffff) ?_
    refine po_ ?_ 25 (some 36) (lb 59 0x3dfffff) ?_
    refine po_ ?_ 27 (some 38) (lb 59 0xbdfffff) ?_
    refine po_ ?_ 21 (some 32) (lb 59 0xbffffff) ?_
    refine po_ ?_ 26 (some 37) (lb 59 0xfffffff) ?_
    refine po_ ?_ 28 (some 39) (lb 59 0x1fffffff) ?_
    refine po_ ?_ 29 (some 40) (lb 59 0x3fffffff) ?_
    refine po_ ?_ 30 (some 41) (lb 59 0x7fffffff) ?_
    refine po_ ?_ 31 (some 42) (lb 59 0xffffffff) ?_
    refine po_ ?_ 32 (some 43) (lb 59 0x1ffffffff) ?_
    refine po_ ?_ 33 (some 44) (lb 59 0x3ffffffff) ?_
    refine pu_ ?_ ?_ 34 (some 45) (lb 59 0x7ffffffff) ?_
    refine pu_ ?_ ?_ 35 (some 46) (lb 59 0xfffffffff) ?_
    refine po_ ?_ 36 (some 47) (lb 59 0x1fffffffff) ?_
    refine po_ ?_ 37 (some 48) (lb 59 0x3fffffffff) ?_
    refine po_ ?_ 38 (some 49) (lb 59 0x7fffffffff) ?_
    refine pu_ ?_ ?_ 39 (some 50) (lb 59 0xffffffffff) ?_
    refine pu_ ?_ ?_ 40 (some 51) (lb 59 0x1ffffffffff) ?_
    refine po_ ?_ 41 (some 52) (lb 59 0x3ffffffffff) ?_
    refine po_ ?_ 43 (some 54) (lb 59 0xbffffffffff) ?_
    refine po_ ?_ 42 (some 53) (lb 59 0xfffffffffff) ?_
    refine po_ ?_ 44 (some 55) (lb 59 0x1fffffffffff) ?_
    refine pu_ ?_ ?_ 45 (some 56) (lb 59 0x3fffffffffff) ?_
    refine pu_ ?_ ?_ 46 (some 57) (lb 59 0x7fffffffffff) ?_
    refine po_ ?_ 47 (some 58) (lb 59 0xffffffffffff) ?_
    refine po_ ?_ 49 (some 60) (lb 59 0x2ffffffffffff) ?_
    refine po_ ?_ 48 (some 59) (lb 59 0x3ffffffffffff) ?_
    refine po_ ?_ 50 (some 61) (lb 59 0x7ffffffffffff) ?_
    refine po_ ?_ 51 (some 62) (lb 59 0xfffffffffffff) ?_
    refine pu_ ?_ ?_ 52 (some 63) (lb 59 0x1fffffffffffff) ?_
    refine pu_ ?_ ?_ 53 (some 64) (lb 59 0x3fffffffffffff) ?_
    refine po_ ?_ 54 (some 65) (lb 59 0x7fffffffffffff) ?_
    refine po_ ?_ 56 (some 67) (lb 59 0x17fffffffffffff) ?_
    refine po_ ?_ 55 (some 66) (lb 59 0x1ffffffffffffff) ?_
    refine po_ ?_ 57 (some 68) (lb 59 0x3ffffffffffffff) ?_
    refine pu_ ?_ ?_ 58 (some 69) (lb 59 0x7ffffffffffffff) ?_
    refine done_ (by kernel_rfl) ?_
    go_wp2
    go_ret
    exact ⟨rfl,below_then HB0.out HB0.out.size hHeld⟩
  have y1 : decide ((g.rules.length : Int) ≤ r) = false:=decide_eq_false z1
  by_cases z2 : d < 0
  · have y2 : decide (d < 0) = true:=decide_eq_true z2
    have hvf : v = false:=by cases v with | false => rfl | true => (have:=HIN.out rfl;omega)
    subst hvf
    refine start_ (n:=59) (S:=fun w' => Below v0.heap.size v0 w') (ds:=[]) (lb 59 0x0) (by kernel_rfl) rfl (by kernel_rfl) (below_drew1 (Below.refl _ _)) (fun hHeld => ?_)
    refine pu_ ?_ ?_ 0 (some 11) (lb 59 0x1) ?_
    refine ta_ ?_ ?_ 1 (some 12) (lb 59 0x3) hHeld ?_ (y:=by rintro w' hS;obtain ⟨d0,d1,d2,d3,d4,d5,d6,d7⟩:=HLD.out w' hS;go_simp;with_reducible rfl)
    refine pu_ ?_ ?_ 2 (some 13) (lb 59 0x7) ?_
    refine pu_ ?_ ?_ 3 (some 14) (lb 59 0xf) ?_
    refine pu_ ?_ ?_ 4 (some 15) (lb 59 0x1f) ?_
    refine pu_ ?_ ?_ 6 (some 17) (lb 59 0x5f) ?_
    refine pu_ ?_ ?_ 7 (some 18) (lb 59 0xdf) ?_
    refine pu_ ?_ ?_ 8 (some 19) (lb 59 0x1df) ?_
    refine pu_ ?_ ?_ 9 (some 20) (lb 59 0x3df) ?_
    refine ta_ ?_ ?_ 5 (some 16) (lb 59 0x3ff) hHeld ?_ (y:=by rintro w' hS;obtain ⟨d0,d1,d2,d3,d4,d5,d6,d7⟩:=HLD.out w' hS;go_simp;with_reducible rfl)
    refine ta_ ?_ ?_ 10 (some 21) (lb 59 0x7ff) hHeld ?_ (y:=by rintro w' hS;obtain ⟨d0,d1,d2,d3,d4,d5,d6,d7⟩:=HLD.out w' hS;go_simp;with_reducible rfl)
    refine pu_ ?_ ?_ 11 (some 22) (lb 59 0xfff) ?_
    refine pu_ ?_ ?_ 12 (some 23) (lb 59 0x1fff) ?_
    refine pu_ ?_ ?_ 13 (some 24) (lb 59 0x3fff) ?_
    refine pu_ ?_ ?_ 14 (some 25) (lb 59 0x7fff) ?_
    refine pu_ ?_ ?_ 15 (some 26) (lb 59 0xffff) ?_
    refine ta_ ?_ ?_ 16 (some 27) (lb 59 0x1ffff) hHeld ?_ (y:=by rintro w' hS;obtain ⟨d0,d1,d2,d3,d4,d5,d6,d7⟩:=HLD.out w' hS;go_simp;with_reducible rfl)
    refine pu_ ?_ ?_ 17 (some 28) (lb 59 0x3ffff) ?_
    refine pu_ ?_ ?_ 18 (some 29) (lb 59 0x7ffff) ?_
    refine pu_ ?_ ?_ 19 (some 30) (lb 59 0xfffff) ?_
    refine po_ ?_ 20 (some 31) (lb 59 0x1fffff) ?_
    refine po_ ?_ 22 (some 33) (lb 59 0x5fffff) ?_
    refine po_ ?_ 23 (some 34) (lb 59 0xdfffff) ?_
    refine po_ ?_ 24 (some 35) (lb 59 0x1dfffff) ?_
    refine po_ ?_ 25 (some 36) (lb 59 0x3dfffff) ?_
    refine po_ ?_ 27 (some 38) (lb 59 0xbdfffff) ?_
    refine po_ ?_ 21 (some 32) (lb 59 0xbffffff) ?_
    refine po_ ?_ 26 (some 37) (lb 59 0xfffffff) ?_
    refine po_ ?_ 28 (some 39) (lb 59 0x1fffffff) ?_
    refine po_ ?_ 29 (some 40) (lb 59 0x3fffffff) ?_
    refine po_ ?_ 30 (some 41) (lb 59 0x7fffffff) ?_
    refine po_ ?_ 31 (some 42) (lb 59 0xffffffff) ?_
    refine po_ ?_ 32 (some 43) (lb 59 0x1ffffffff) ?_
    refine po_ ?_ 33 (some 44) (lb 59 0x3ffffffff) ?_
    refine pu_ ?_ ?_ 34 (some 45) (lb 59 0x7ffffffff) ?_
    refine pu_ ?_ ?_ 35 (some 46) (lb 59 0xfffffffff) ?_
    refine po_ ?_ 36 (some 47) (lb 59 0x1fffffffff) ?_
    refine po_ ?_ 37 (some 48) (lb 59 0x3fffffffff) ?_
    refine po_ ?_ 38 (some 49) (lb 59 0x7fffffffff) ?_
    refine pu_ ?_ ?_ 39 (some 50) (lb 59 0xffffffffff) ?_
    refine pu_ ?_ ?_ 40 (some 51) (lb 59 0x1ffffffffff) ?_
    refine po_ ?_ 41 (some 52) (lb 59 0x3ffffffffff) ?_
    refine po_ ?_ 43 (some 54) (lb 59 0xbffffffffff) ?_
    refine po_ ?_ 42 (some 53) (lb 59 0xfffffffffff) ?_
    refine po_ ?_ 44 (some 55) (lb 59 0x1fffffffffff) ?_
    refine pu_ ?_ ?_ 45 (some 56) (lb 59 0x3fffffffffff) ?_
    refine pu_ ?_ ?_ 46 (some 57) (lb 59 0x7fffffffffff) ?_
    refine po_ ?_ 47 (some 58) (lb 59 0xffffffffffff) ?_
    refine po_ ?_ 49 (some 60) (lb 59 0x2ffffffffffff) ?_
    refine po_ ?_ 48 (some 59) (lb 59 0x3ffffffffffff) ?_
    refine po_ ?_ 50 (some 61) (lb 59 0x7ffffffffffff) ?_
    refine po_ ?_ 51 (some 62) (lb 59 0xfffffffffffff) ?_
    refine pu_ ?_ ?_ 52 (some 63) (lb 59 0x1fffffffffffff) ?_
    refine pu_ ?_ ?_ 53 (some 64) (lb 59 0x3fffffffffffff) ?_
    refine po_ ?_ 54 (some 65) (lb 59 0x7fffffffffffff) ?_
    refine po_ ?_ 56 (some 67) (lb 59 0x17fffffffffffff) ?_
    refine po_ ?_ 55 (some 66) (lb 59 0x1ffffffffffffff) ?_
    refine po_ ?_ 57 (some 68) (lb 59 0x3ffffffffffffff) ?_
    refine pu_ ?_ ?_ 58 (some 69) (lb 59 0x7ffffffffffffff) ?_
    refine done_ (by kernel_rfl) ?_
    go_wp2
    go_ret
    exact ⟨rfl,below_then HB0.out HB0.out.size hHeld⟩
  have y2 : decide (d < 0) = false:=decide_eq_false z2
  obtain ⟨rn,rfl⟩:=Int.eq_ofNat_of_zero_le (show 0 ≤ r by omega)
  have hrl : rn < g.rules.length:=by omega
  obtain ⟨ad,Br,dr,ead,hx,hy,hdr,hC1⟩:=at_rule HC.out.rep.rules rn hrl
  have hR:=rightR_at hrl
  have hr8:=(goodF_mem HGD.out (g.rules[rn]'hrl) (List.getElem_mem _)).2.2.1
  obtain ⟨xr,hxr⟩ : ∃ xr,xr = g.rules[rn]'hrl:=⟨_,rfl⟩
  rw [← hxr] at hy hC1 hR hr8 hdr
  rw [Int.toNat_natCast,hR] at HIN
  have HY:=Aside0.mk hy
  have HCR:=Aside0.mk hC1
  have HRR:=Aside0.mk hR
  have HDR:=Aside0.mk hdr
  rw [ead] at HO
  have r2 : (rn : Int) < (g.rules.length : Int):=by omega
  have r0 : (0 : Int) ≤ (rn : Int):=by omega
  have y1' : decide (g.rules.length ≤ rn) = false:=decide_eq_false (by omega)
  clear hx hy hC1 hxr hR hdr
  have HLE : Aside0 (∀ w' : World,Below v0.heap.size v0 w' → w'.cell? ⟨x0,0,none⟩ = some (.int .i64 (rn : Int)) ∧ w'.cell? ⟨x0,1,none⟩ = some (.int .i64 d) ∧ w'.cell? ⟨x0,2,none⟩ = some (.int .i64 i) ∧ w'.cell? ⟨x0,3,none⟩ = some (.int .i64 j) ∧ w'.cell? ⟨k.b,0,none⟩ = some (.slice k.A1 g.terms.length k.c1) ∧ w'.cell? ⟨k.b,1,none⟩ = some (.slice k.A2 g.names.length k.c2) ∧ w'.cell? ⟨k.b,2,none⟩ = some (.slice (some ad) g.rules.length k.c3) ∧ w'.cell? ⟨k.b,3,none⟩ = some (.slice k.B n k.cb) ∧ w'.cell? ⟨(ad.add (rn * 2)).block,(ad.add (rn * 2)).off + 1,none⟩ = some (.slice Br xr.right.length dr)):=⟨fun w' h => ⟨(blk_cell (blk_below HX.out h) 0).trans rfl,(blk_cell (blk_below HX.out h) 1).trans rfl,(blk_cell (blk_below HX.out h) 2).trans rfl,(blk_cell (blk_below HX.out h) 3).trans rfl,(blk_cell (blk_below HO.out h) 0).trans rfl,(blk_cell (blk_below HO.out h) 1).trans rfl,(blk_cell (blk_below HO.out h) 2).trans rfl,(blk_cell (blk_below HO.out h) 3).trans rfl,pw_cell_below h HY.out⟩⟩
  by_cases z3 : (xr.right.length : Int) < d
  · have y3 : decide ((xr.right.length : Int) < d) = true:=decide_eq_true z3
    have hvf : v = false:=by cases v with | false => rfl | true => (have:=HIN.out rfl;omega)
    subst hvf
    refine start_ (n:=59) (S:=fun w' => Below v0.heap.size v0 w') (ds:=[]) (lb 59 0x0) (by kernel_rfl) rfl (by kernel_rfl) (below_drew1 (Below.refl _ _)) (fun hHeld => ?_)
    refine pu_ ?_ ?_ 0 (some 11) (lb 59 0x1) ?_
    refine ta_ ?_ ?_ 1 (some 12) (lb 59 0x3) hHeld ?_ (y:=by rintro w' hS;obtain ⟨d0,d1,d2,d3,d4,d5,d6,d7,d8⟩:=HLE.out w' hS;go_simp;with_reducible rfl)
    refine pu_ ?_ ?_ 2 (some 13) (lb 59 0x7) ?_
    refine pu_ ?_ ?_ 3 (some 14) (lb 59 0xf) ?_
    refine pu_ ?_ ?_ 4 (some 15) (lb 59 0x1f) ?_
    refine pu_ ?_ ?_ 6 (some 17) (lb 59 0x5f) ?_
    refine pu_ ?_ ?_ 7 (some 18) (lb 59 0xdf) ?_
    refine pu_ ?_ ?_ 8 (some 19) (lb 59 0x1df) ?_
    refine pu_ ?_ ?_ 9 (some 20) (lb 59 0x3df) ?_
    refine ta_ ?_ ?_ 5 (some 16) (lb 59 0x3ff) hHeld ?_ (y:=by rintro w' hS;obtain ⟨d0,d1,d2,d3,d4,d5,d6,d7,d8⟩:=HLE.out w' hS;go_simp;with_reducible rfl)
    refine ta_ ?_ ?_ 10 (some 21) (lb 59 0x7ff) hHeld ?_ (y:=by rintro w' hS;obtain ⟨d0,d1,d2,d3,d4,d5,d6,d7,d8⟩:=HLE.out w' hS;go_simp;with_reducible rfl)
    refine pu_ ?_ ?_ 11 (some 22) (lb 59 0xfff) ?_
    refine pu_ ?_ ?_ 12 (some 23) (lb 59 0x1fff) ?_
    refine pu_ ?_ ?_ 13 (some 24) (lb 59 0x3fff) ?_
    refine pu_ ?_ ?_ 14 (some 25) (lb 59 0x7fff) ?_
    refine pu_ ?_ ?_ 15 (some 26) (lb 59 0xffff) ?_
    refine ta_ ?_ ?_ 16 (some 27) (lb 59 0x1ffff) hHeld ?_ (y:=by rintro w' hS;obtain ⟨d0,d1,d2,d3,d4,d5,d6,d7,d8⟩:=HLE.out w' hS;go_simp;with_reducible rfl)
    refine pu_ ?_ ?_ 17 (some 28) (lb 59 0x3ffff) ?_
    refine pu_ ?_ ?_ 18 (some 29) (lb 59 0x7ffff) ?_
    refine pu_ ?_ ?_ 19 (some 30) (lb 59 0xfffff) ?_
    refine pu_ ?_ ?_ 20 (some 31) (lb 59 0x1fffff) ?_
    refine pu_ ?_ ?_ 22 (some 33) (lb 59 0x5fffff) ?_
    refine pu_ ?_ ?_ 23 (some 34) (lb 59 0xdfffff) ?_
    refine pu_ ?_ ?_ 24 (some 35) (lb 59 0x1dfffff) ?_
    refine pu_ ?_ ?_ 25 (some 36) (lb 59 0x3dfffff) ?_
    refine pu_ ?_ ?_ 27 (some 38) (lb 59 0xbdfffff) ?_
    refine ta_ ?_ ?_ 21 (some 32) (lb 59 0xbffffff) hHeld ?_ (y:=by rintro w' hS;obtain ⟨d0,d1,d2,d3,d4,d5,d6,d7,d8⟩:=HLE.out w' hS;go_simp;with_reducible rfl)
    refine ta_ ?_ ?_ 26 (some 37) (lb 59 0xfffffff) hHeld ?_ (y:=by rintro w' hS;obtain ⟨d0,d1,d2,d3,d4,d5,d6,d7,d8⟩:=HLE.out w' hS;go_simp;with_reducible rfl)
    refine ta_ ?_ ?_ 28 (some 39) (lb 59 0x1fffffff) hHeld ?_ (y:=by rintro w' hS;obtain ⟨d0,d1,d2,d3,d4,d5,d6,d7,d8⟩:=HLE.out w' hS;go_simp;with_reducible rfl)
    refine pu_ ?_ ?_ 29 (some 40) (lb 59 0x3fffffff) ?_
    refine pu_ ?_ ?_ 30 (some 41) (lb 59 0x7fffffff) ?_
    refine ta_ ?_ ?_ 31 (some 42) (lb 59 0xffffffff) hHeld ?_ (y:=by rintro w' hS;obtain ⟨d0,d1,d2,d3,d4,d5,d6,d7,d8⟩:=HLE.out w' hS;go_simp;with_reducible rfl)
    refine pu_ ?_ ?_ 32 (some 43) (lb 59 0x1ffffffff) ?_
    refine pu_ ?_ ?_ 33 (some 44) (lb 59 0x3ffffffff) ?_
    refine pu_ ?_ ?_ 34 (some 45) (lb 59 0x7ffffffff) ?_
    refine pu_ ?_ ?_ 35 (some 46) (lb 59 0xfffffffff) ?_
    refine po_ ?_ 36 (some 47) (lb 59 0x1fffffffff) ?_
    refine po_ ?_ 37 (some 48) (lb 59 0x3fffffffff) ?_
    refine po_ ?_ 38 (some 49) (lb 59 0x7fffffffff) ?_
    refine pu_ ?_ ?_ 39 (some 50) (lb 59 0xffffffffff) ?_
    refine pu_ ?_ ?_ 40 (some 51) (lb 59 0x1ffffffffff) ?_
    refine po_ ?_ 41 (some 52) (lb 59 0x3ffffffffff) ?_
    refine po_ ?_ 43 (some 54) (lb 59 0xbffffffffff) ?_
    refine po_ ?_ 42 (some 53) (lb 59 0xfffffffffff) ?_
    refine po_ ?_ 44 (some 55) (lb 59 0x1fffffffffff) ?_
    refine pu_ ?_ ?_ 45 (some 56) (lb 59 0x3fffffffffff) ?_
    refine pu_ ?_ ?_ 46 (some 57) (lb 59 0x7fffffffffff) ?_
    refine po_ ?_ 47 (some 58) (lb 59 0xffffffffffff) ?_
    refine po_ ?_ 49 (some 60) (lb 59 0x2ffffffffffff) ?_
    refine po_ ?_ 48 (some 59) (lb 59 0x3ffffffffffff) ?_
    refine po_ ?_ 50 (some 61) (lb 59 0x7ffffffffffff) ?_
    refine po_ ?_ 51 (some 62) (lb 59 0xfffffffffffff) ?_
    refine pu_ ?_ ?_ 52 (some 63) (lb 59 0x1fffffffffffff) ?_
    refine pu_ ?_ ?_ 53 (some 64) (lb 59 0x3fffffffffffff) ?_
    refine po_ ?_ 54 (some 65) (lb 59 0x7fffffffffffff) ?_
    refine po_ ?_ 56 (some 67) (lb 59 0x17fffffffffffff) ?_
    refine po_ ?_ 55 (some 66) (lb 59 0x1ffffffffffffff) ?_
    refine po_ ?_ 57 (some 68) (lb 59 0x3ffffffffffffff) ?_
    refine pu_ ?_ ?_ 58 (some 69) (lb 59 0x7ffffffffffffff) ?_
    refine done_ (by kernel_rfl) ?_
    go_wp2
    go_ret
    exact ⟨rfl,below_then HB0.out HB0.out.size hHeld⟩
  have y3 : decide ((xr.right.length : Int) < d) = false:=decide_eq_false z3
  by_cases z4 : i < 0
  · have y4 : decide (i < 0) = true:=decide_eq_true z4
    have hvf : v = false:=by cases v with | false => rfl | true => (have:=HIN.out rfl;omega)
    subst hvf
    refine start_ (n:=59) (S:=fun w' => Below v0.heap.size v0 w') (ds:=[]) (lb 59 0x0) (by kernel_rfl) rfl (by kernel_rfl) (below_drew1 (Below.refl _ _)) (fun hHeld => ?_)
    refine pu_ ?_ ?_ 0 (some 11) (lb 59 0x1) ?_
    refine ta_ ?_ ?_ 1 (some 12) (lb 59 0x3) hHeld ?_ (y:=by rintro w' hS;obtain ⟨d0,d1,d2,d3,d4,d5,d6,d7,d8⟩:=HLE.out w' hS;go_simp;with_reducible rfl)
    refine pu_ ?_ ?_ 2 (some 13) (lb 59 0x7) ?_
    refine pu_ ?_ ?_ 3 (some 14) (lb 59 0xf) ?_
    refine pu_ ?_ ?_ 4 (some 15) (lb 59 0x1f) ?_
    refine pu_ ?_ ?_ 6 (some 17) (lb 59 0x5f) ?_
    refine pu_ ?_ ?_ 7 (some 18) (lb 59 0xdf) ?_
    refine pu_ ?_ ?_ 8 (some 19) (lb 59 0x1df) ?_
    refine pu_ ?_ ?_ 9 (some 20) (lb 59 0x3df) ?_
    refine ta_ ?_ ?_ 5 (some 16) (lb 59 0x3ff) hHeld ?_ (y:=by rintro w' hS;obtain ⟨d0,d1,d2,d3,d4,d5,d6,d7,d8⟩:=HLE.out w' hS;go_simp;with_reducible rfl)
    refine ta_ ?_ ?_ 10 (some 21) (lb 59 0x7ff) hHeld ?_ (y:=by rintro w' hS;obtain ⟨d0,d1,d2,d3,d4,d5,d6,d7,d8⟩:=HLE.out w' hS;go_simp;with_reducible rfl)
    refine pu_ ?_ ?_ 11 (some 22) (lb 59 0xfff) ?_
    refine pu_ ?_ ?_ 12 (some 23) (lb 59 0x1fff) ?_
    refine pu_ ?_ ?_ 13 (some 24) (lb 59 0x3fff) ?_
    refine pu_ ?_ ?_ 14 (some 25) (lb 59 0x7fff) ?_
    refine pu_ ?_ ?_ 15 (some 26) (lb 59 0xffff) ?_
    refine ta_ ?_ ?_ 16 (some 27) (lb 59 0x1ffff) hHeld ?_ (y:=by rintro w' hS;obtain ⟨d0,d1,d2,d3,d4,d5,d6,d7,d8⟩:=HLE.out w' hS;go_simp;with_reducible rfl)
    refine pu_ ?_ ?_ 17 (some 28) (lb 59 0x3ffff) ?_
    refine pu_ ?_ ?_ 18 (some 29) (lb 59 0x7ffff) ?_
    refine pu_ ?_ ?_ 19 (some 30) (lb 59 0xfffff) ?_
    refine pu_ ?_ ?_ 20 (some 31) (lb 59 0x1fffff) ?_
    refine pu_ ?_ ?_ 22 (some 33) (lb 59 0x5fffff) ?_
    refine pu_ ?_ ?_ 23 (some 34) (lb 59 0xdfffff) ?_
    refine pu_ ?_ ?_ 24 (some 35) (lb 59 0x1dfffff) ?_
    refine pu_ ?_ ?_ 25 (some 36) (lb 59 0x3dfffff) ?_
    refine pu_ ?_ ?_ 27 (some 38) (lb 59 0xbdfffff) ?_
    refine ta_ ?_ ?_ 21 (some 32) (lb 59 0xbffffff) hHeld ?_ (y:=by rintro w' hS;obtain ⟨d0,d1,d2,d3,d4,d5,d6,d7,d8⟩:=HLE.out w' hS;go_simp;with_reducible rfl)
    refine ta_ ?_ ?_ 26 (some 37) (lb 59 0xfffffff) hHeld ?_ (y:=by rintro w' hS;obtain ⟨d0,d1,d2,d3,d4,d5,d6,d7,d8⟩:=HLE.out w' hS;go_simp;with_reducible rfl)
    refine ta_ ?_ ?_ 28 (some 39) (lb 59 0x1fffffff) hHeld ?_ (y:=by rintro w' hS;obtain ⟨d0,d1,d2,d3,d4,d5,d6,d7,d8⟩:=HLE.out w' hS;go_simp;with_reducible rfl)
    refine pu_ ?_ ?_ 29 (some 40) (lb 59 0x3fffffff) ?_
    refine pu_ ?_ ?_ 30 (some 41) (lb 59 0x7fffffff) ?_
    refine ta_ ?_ ?_ 31 (some 42) (lb 59 0xffffffff) hHeld ?_ (y:=by rintro w' hS;obtain ⟨d0,d1,d2,d3,d4,d5,d6,d7,d8⟩:=HLE.out w' hS;go_simp;with_reducible rfl)
    refine pu_ ?_ ?_ 32 (some 43) (lb 59 0x1ffffffff) ?_
    refine pu_ ?_ ?_ 33 (some 44) (lb 59 0x3ffffffff) ?_
    refine pu_ ?_ ?_ 34 (some 45) (lb 59 0x7ffffffff) ?_
    refine pu_ ?_ ?_ 35 (some 46) (lb 59 0xfffffffff) ?_
    refine pu_ ?_ ?_ 36 (some 47) (lb 59 0x1fffffffff) ?_
    refine ta_ ?_ ?_ 37 (some 48) (lb 59 0x3fffffffff) hHeld ?_ (y:=by rintro w' hS;obtain ⟨d0,d1,d2,d3,d4,d5,d6,d7,d8⟩:=HLE.out w' hS;go_simp;with_reducible rfl)
    refine pu_ ?_ ?_ 38 (some 49) (lb 59 0x7fffffffff) ?_
    refine pu_ ?_ ?_ 39 (some 50) (lb 59 0xffffffffff) ?_
    refine pu_ ?_ ?_ 40 (some 51) (lb 59 0x1ffffffffff) ?_
    refine po_ ?_ 41 (some 52) (lb 59 0x3ffffffffff) ?_
    refine po_ ?_ 43 (some 54) (lb 59 0xbffffffffff) ?_
    refine po_ ?_ 42 (some 53) (lb 59 0xfffffffffff) ?_
    refine po_ ?_ 44 (some 55) (lb 59 0x1fffffffffff) ?_
    refine pu_ ?_ ?_ 45 (some 56) (lb 59 0x3fffffffffff) ?_
    refine pu_ ?_ ?_ 46 (some 57) (lb 59 0x7fffffffffff) ?_
    refine po_ ?_ 47 (some 58) (lb 59 0xffffffffffff) ?_
    refine po_ ?_ 49 (some 60) (lb 59 0x2ffffffffffff) ?_
    refine po_ ?_ 48 (some 59) (lb 59 0x3ffffffffffff) ?_
    refine po_ ?_ 50 (some 61) (lb 59 0x7ffffffffffff) ?_
    refine po_ ?_ 51 (some 62) (lb 59 0xfffffffffffff) ?_
    refine pu_ ?_ ?_ 52 (some 63) (lb 59 0x1fffffffffffff) ?_
    refine pu_ ?_ ?_ 53 (some 64) (lb 59 0x3fffffffffffff) ?_
    refine po_ ?_ 54 (some 65) (lb 59 0x7fffffffffffff) ?_
    refine po_ ?_ 56 (some 67) (lb 59 0x17fffffffffffff) ?_
    refine po_ ?_ 55 (some 66) (lb 59 0x1ffffffffffffff) ?_
    refine po_ ?_ 57 (some 68) (lb 59 0x3ffffffffffffff) ?_
    refine pu_ ?_ ?_ 58 (some 69) (lb 59 0x7ffffffffffffff) ?_
    refine done_ (by kernel_rfl) ?_
    go_wp2
    go_ret
    exact ⟨rfl,below_then HB0.out HB0.out.size hHeld⟩
  have y4 : decide (i < 0) = false:=decide_eq_false z4
  by_cases z5 : (n : Int) < i
  · have y5 : decide ((n : Int) < i) = true:=decide_eq_true z5
    have hvf : v = false:=by cases v with | false => rfl | true => (have:=HIN.out rfl;omega)
    subst hvf
    refine start_ (n:=59) (S:=fun w' => Below v0.heap.size v0 w') (ds:=[]) (lb 59 0x0) (by kernel_rfl) rfl (by kernel_rfl) (below_drew1 (Below.refl _ _)) (fun hHeld => ?_)
    refine pu_ ?_ ?_ 0 (some 11) (lb 59 0x1) ?_
    refine ta_ ?_ ?_ 1 (some 12) (lb 59 0x3) hHeld ?_ (y:=by rintro w' hS;obtain ⟨d0,d1,d2,d3,d4,d5,d6,d7,d8⟩:=HLE.out w' hS;go_simp;with_reducible rfl)
    refine pu_ ?_ ?_ 2 (some 13) (lb 59 0x7) ?_
    refine pu_ ?_ ?_ 3 (some 14) (lb 59 0xf) ?_
    refine pu_ ?_ ?_ 4 (some 15) (lb 59 0x1f) ?_
    refine pu_ ?_ ?_ 6 (some 17) (lb 59 0x5f) ?_
    refine pu_ ?_ ?_ 7 (some 18) (lb 59 0xdf) ?_
    refine pu_ ?_ ?_ 8 (some 19) (lb 59 0x1df) ?_
    refine pu_ ?_ ?_ 9 (some 20) (lb 59 0x3df) ?_
    refine ta_ ?_ ?_ 5 (some 16) (lb 59 0x3ff) hHeld ?_ (y:=by rintro w' hS;obtain ⟨d0,d1,d2,d3,d4,d5,d6,d7,d8⟩:=HLE.out w' hS;go_simp;with_reducible rfl)
    refine ta_ ?_ ?_ 10 (some 21) (lb 59 0x7ff) hHeld ?_ (y:=by rintro w' hS;obtain ⟨d0,d1,d2,d3,d4,d5,d6,d7,d8⟩:=HLE.out w' hS;go_simp;with_reducible rfl)
    refine pu_ ?_ ?_ 11 (some 22) (lb 59 0xfff) ?_
    refine pu_ ?_ ?_ 12 (some 23) (lb 59 0x1fff) ?_
    refine pu_ ?_ ?_ 13 (some 24) (lb 59 0x3fff) ?_
    refine pu_ ?_ ?_ 14 (some 25) (lb 59 0x7fff) ?_
    refine pu_ ?_ ?_ 15 (some 26) (lb 59 0xffff) ?_
    refine ta_ ?_ ?_ 16 (some 27) (lb 59 0x1ffff) hHeld ?_ (y:=by rintro w' hS;obtain ⟨d0,d1,d2,d3,d4,d5,d6,d7,d8⟩:=HLE.out w' hS;go_simp;with_reducible rfl)
    refine pu_ ?_ ?_ 17 (some 28) (lb 59 0x3ffff) ?_
    refine pu_ ?_ ?_ 18 (some 29) (lb 59 0x7ffff) ?_
    refine pu_ ?_ ?_ 19 (some 30) (lb 59 0xfffff) ?_
    refine pu_ ?_ ?_ 20 (some 31) (lb 59 0x1fffff) ?_
    refine pu_ ?_ ?_ 22 (some 33) (lb 59 0x5fffff) ?_
    refine pu_ ?_ ?_ 23 (some 34) (lb 59 0xdfffff) ?_
    refine pu_ ?_ ?_ 24 (some 35) (lb 59 0x1dfffff) ?_
    refine pu_ ?_ ?_ 25 (some 36) (lb 59 0x3dfffff) ?_
    refine pu_ ?_ ?_ 27 (some 38) (lb 59 0xbdfffff) ?_
    refine ta_ ?_ ?_ 21 (some 32) (lb 59 0xbffffff) hHeld ?_ (y:=by rintro w' hS;obtain ⟨d0,d1,d2,d3,d4,d5,d6,d7,d8⟩:=HLE.out w' hS;go_simp;with_reducible rfl)
    refine ta_ ?_ ?_ 26 (some 37) (lb 59 0xfffffff) hHeld ?_ (y:=by rintro w' hS;obtain ⟨d0,d1,d2,d3,d4,d5,d6,d7,d8⟩:=HLE.out w' hS;go_simp;with_reducible rfl)
    refine ta_ ?_ ?_ 28 (some 39) (lb 59 0x1fffffff) hHeld ?_ (y:=by rintro w' hS;obtain ⟨d0,d1,d2,d3,d4,d5,d6,d7,d8⟩:=HLE.out w' hS;go_simp;with_reducible rfl)
    refine pu_ ?_ ?_ 29 (some 40) (lb 59 0x3fffffff) ?_
    refine pu_ ?_ ?_ 30 (some 41) (lb 59 0x7fffffff) ?_
    refine ta_ ?_ ?_ 31 (some 42) (lb 59 0xffffffff) hHeld ?_ (y:=by rintro w' hS;obtain ⟨d0,d1,d2,d3,d4,d5,d6,d7,d8⟩:=HLE.out w' hS;go_simp;with_reducible rfl)
    refine pu_ ?_ ?_ 32 (some 43) (lb 59 0x1ffffffff) ?_
    refine pu_ ?_ ?_ 33 (some 44) (lb 59 0x3ffffffff) ?_
    refine pu_ ?_ ?_ 34 (some 45) (lb 59 0x7ffffffff) ?_
    refine pu_ ?_ ?_ 35 (some 46) (lb 59 0xfffffffff) ?_
    refine pu_ ?_ ?_ 36 (some 47) (lb 59 0x1fffffffff) ?_
    refine ta_ ?_ ?_ 37 (some 48) (lb 59 0x3fffffffff) hHeld ?_ (y:=by rintro w' hS;obtain ⟨d0,d1,d2,d3,d4,d5,d6,d7,d8⟩:=HLE.out w' hS;go_simp;with_reducible rfl)
    refine pu_ ?_ ?_ 38 (some 49) (lb 59 0x7fffffffff) ?_
    refine pu_ ?_ ?_ 39 (some 50) (lb 59 0xffffffffff) ?_
    refine pu_ ?_ ?_ 40 (some 51) (lb 59 0x1ffffffffff) ?_
    refine pu_ ?_ ?_ 41 (some 52) (lb 59 0x3ffffffffff) ?_
    refine pu_ ?_ ?_ 43 (some 54) (lb 59 0xbffffffffff) ?_
    refine ta_ ?_ ?_ 42 (some 53) (lb 59 0xfffffffffff) hHeld ?_ (y:=by rintro w' hS;obtain ⟨d0,d1,d2,d3,d4,d5,d6,d7,d8⟩:=HLE.out w' hS;go_simp;with_reducible rfl)
    refine pu_ ?_ ?_ 44 (some 55) (lb 59 0x1fffffffffff) ?_
    refine pu_ ?_ ?_ 45 (some 56) (lb 59 0x3fffffffffff) ?_
    refine pu_ ?_ ?_ 46 (some 57) (lb 59 0x7fffffffffff) ?_
    refine po_ ?_ 47 (some 58) (lb 59 0xffffffffffff) ?_
    refine po_ ?_ 49 (some 60) (lb 59 0x2ffffffffffff) ?_
    refine po_ ?_ 48 (some 59) (lb 59 0x3ffffffffffff) ?_
    refine po_ ?_ 50 (some 61) (lb 59 0x7ffffffffffff) ?_
    refine po_ ?_ 51 (some 62) (lb 59 0xfffffffffffff) ?_
    refine pu_ ?_ ?_ 52 (some 63) (lb 59 0x1fffffffffffff) ?_
    refine pu_ ?_ ?_ 53 (some 64) (lb 59 0x3fffffffffffff) ?_
    refine po_ ?_ 54 (some 65) (lb 59 0x7fffffffffffff) ?_
    refine po_ ?_ 56 (some 67) (lb 59 0x17fffffffffffff) ?_
    refine po_ ?_ 55 (some 66) (lb 59 0x1ffffffffffffff) ?_
    refine po_ ?_ 57 (some 68) (lb 59 0x3ffffffffffffff) ?_
    refine pu_ ?_ ?_ 58 (some 69) (lb 59 0x7ffffffffffffff) ?_
    refine done_ (by kernel_rfl) ?_
    go_wp2
    go_ret
    exact ⟨rfl,below_then HB0.out HB0.out.size hHeld⟩
  have y5 : decide ((n : Int) < i) = false:=decide_eq_false z5
  by_cases z6 : j < i
  · have y6 : decide (j < i) = true:=decide_eq_true z6
    have hvf : v = false:=by cases v with | false => rfl | true => (have:=HIN.out rfl;omega)
    subst hvf
    refine start_ (n:=59) (S:=fun w' => Below v0.heap.size v0 w') (ds:=[]) (lb 59 0x0) (by kernel_rfl) rfl (by kernel_rfl) (below_drew1 (Below.refl _ _)) (fun hHeld => ?_)
    refine pu_ ?_ ?_ 0 (some 11) (lb 59 0x1) ?_
    refine ta_ ?_ ?_ 1 (some 12) (lb 59 0x3) hHeld ?_ (y:=by rintro w' hS;obtain ⟨d0,d1,d2,d3,d4,d5,d6,d7,d8⟩:=HLE.out w' hS;go_simp;with_reducible rfl)
    refine pu_ ?_ ?_ 2 (some 13) (lb 59 0x7) ?_
    refine pu_ ?_ ?_ 3 (some 14) (lb 59 0xf) ?_
    refine pu_ ?_ ?_ 4 (some 15) (lb 59 0x1f) ?_
    refine pu_ ?_ ?_ 6 (some 17) (lb 59 0x5f) ?_
    refine pu_ ?_ ?_ 7 (some 18) (lb 59 0xdf) ?_
    refine pu_ ?_ ?_ 8 (some 19) (lb 59 0x1df) ?_
    refine pu_ ?_ ?_ 9 (some 20) (lb 59 0x3df) ?_
    refine ta_ ?_ ?_ 5 (some 16) (lb 59 0x3ff) hHeld ?_ (y:=by rintro w' hS;obtain ⟨d0,d1,d2,d3,d4,d5,d6,d7,d8⟩:=HLE.out w' hS;go_simp;with_reducible rfl)
    refine ta_ ?_ ?_ 10 (some 21) (lb 59 0x7ff) hHeld ?_ (y:=by rintro w' hS;obtain ⟨d0,d1,d2,d3,d4,d5,d6,d7,d8⟩:=HLE.out w' hS;go_simp;with_reducible rfl)
    refine pu_ ?_ ?_ 11 (some 22) (lb 59 0xfff) ?_
    refine pu_ ?_ ?_ 12 (some 23) (lb 59 0x1fff) ?_
    refine pu_ ?_ ?_ 13 (some 24) (lb 59 0x3fff) ?_
    refine pu_ ?_ ?_ 14 (some 25) (lb 59 0x7fff) ?_
    refine pu_ ?_ ?_ 15 (some 26) (lb 59 0xffff) ?_
    refine ta_ ?_ ?_ 16 (some 27) (lb 59 0x1ffff) hHeld ?_ (y:=by rintro w' hS;obtain ⟨d0,d1,d2,d3,d4,d5,d6,d7,d8⟩:=HLE.out w' hS;go_simp;with_reducible rfl)
    refine pu_ ?_ ?_ 17 (some 28) (lb 59 0x3ffff) ?_
    refine pu_ ?_ ?_ 18 (some 29) (lb 59 0x7ffff) ?_
    refine pu_ ?_ ?_ 19 (some 30) (lb 59 0xfffff) ?_
    refine pu_ ?_ ?_ 20 (some 31) (lb 59 0x1fffff) ?_
    refine pu_ ?_ ?_ 22 (some 33) (lb 59 0x5fffff) ?_
    refine pu_ ?_ ?_ 23 (some 34) (lb 59 0xdfffff) ?_
    refine pu_ ?_ ?_ 24 (some 35) (lb 59 0x1dfffff) ?_
    refine pu_ ?_ ?_ 25 (some 36) (lb 59 0x3dfffff) ?_
    refine pu_ ?_ ?_ 27 (some 38) (lb 59 0xbdfffff) ?_
    refine ta_ ?_ ?_ 21 (some 32) (lb 59 0xbffffff) hHeld ?_ (y:=by rintro w' hS;obtain ⟨d0,d1,d2,d3,d4,d5,d6,d7,d8⟩:=HLE.out w' hS;go_simp;with_reducible rfl)
    refine ta_ ?_ ?_ 26 (some 37) (lb 59 0xfffffff) hHeld ?_ (y:=by rintro w' hS;obtain ⟨d0,d1,d2,d3,d4,d5,d6,d7,d8⟩:=HLE.out w' hS;go_simp;with_reducible rfl)
    refine ta_ ?_ ?_ 28 (some 39) (lb 59 0x1fffffff) hHeld ?_ (y:=by rintro w' hS;obtain ⟨d0,d1,d2,d3,d4,d5,d6,d7,d8⟩:=HLE.out w' hS;go_simp;with_reducible rfl)
    refine pu_ ?_ ?_ 29 (some 40) (lb 59 0x3fffffff) ?_
    refine pu_ ?_ ?_ 30 (some 41) (lb 59 0x7fffffff) ?_
    refine ta_ ?_ ?_ 31 (some 42) (lb 59 0xffffffff) hHeld ?_ (y:=by rintro w' hS;obtain ⟨d0,d1,d2,d3,d4,d5,d6,d7,d8⟩:=HLE.out w' hS;go_simp;with_reducible rfl)
    refine pu_ ?_ ?_ 32 (some 43) (lb 59 0x1ffffffff) ?_
    refine pu_ ?_ ?_ 33 (some 44) (lb 59 0x3ffffffff) ?_
    refine pu_ ?_ ?_ 34 (some 45) (lb 59 0x7ffffffff) ?_
    refine pu_ ?_ ?_ 35 (some 46) (lb 59 0xfffffffff) ?_
    refine pu_ ?_ ?_ 36 (some 47) (lb 59 0x1fffffffff) ?_
    refine ta_ ?_ ?_ 37 (some 48) (lb 59 0x3fffffffff) hHeld ?_ (y:=by rintro w' hS;obtain ⟨d0,d1,d2,d3,d4,d5,d6,d7,d8⟩:=HLE.out w' hS;go_simp;with_reducible rfl)
    refine pu_ ?_ ?_ 38 (some 49) (lb 59 0x7fffffffff) ?_
    refine pu_ ?_ ?_ 39 (some 50) (lb 59 0xffffffffff) ?_
    refine pu_ ?_ ?_ 40 (some 51) (lb 59 0x1ffffffffff) ?_
    refine pu_ ?_ ?_ 41 (some 52) (lb 59 0x3ffffffffff) ?_
    refine pu_ ?_ ?_ 43 (some 54) (lb 59 0xbffffffffff) ?_
    refine ta_ ?_ ?_ 42 (some 53) (lb 59 0xfffffffffff) hHeld ?_ (y:=by rintro w' hS;obtain ⟨d0,d1,d2,d3,d4,d5,d6,d7,d8⟩:=HLE.out w' hS;go_simp;with_reducible rfl)
    refine pu_ ?_ ?_ 44 (some 55) (lb 59 0x1fffffffffff) ?_
    refine pu_ ?_ ?_ 45 (some 56) (lb 59 0x3fffffffffff) ?_
    refine pu_ ?_ ?_ 46 (some 57) (lb 59 0x7fffffffffff) ?_
    refine pu_ ?_ ?_ 47 (some 58) (lb 59 0xffffffffffff) ?_
    refine pu_ ?_ ?_ 49 (some 60) (lb 59 0x2ffffffffffff) ?_
    refine ta_ ?_ ?_ 48 (some 59) (lb 59 0x3ffffffffffff) hHeld ?_ (y:=by rintro w' hS;obtain ⟨d0,d1,d2,d3,d4,d5,d6,d7,d8⟩:=HLE.out w' hS;go_simp;with_reducible rfl)
    refine ta_ ?_ ?_ 50 (some 61) (lb 59 0x7ffffffffffff) hHeld ?_ (y:=by rintro w' hS;obtain ⟨d0,d1,d2,d3,d4,d5,d6,d7,d8⟩:=HLE.out w' hS;go_simp;with_reducible rfl)
    refine pu_ ?_ ?_ 51 (some 62) (lb 59 0xfffffffffffff) ?_
    refine pu_ ?_ ?_ 52 (some 63) (lb 59 0x1fffffffffffff) ?_
    refine pu_ ?_ ?_ 53 (some 64) (lb 59 0x3fffffffffffff) ?_
    refine po_ ?_ 54 (some 65) (lb 59 0x7fffffffffffff) ?_
    refine po_ ?_ 56 (some 67) (lb 59 0x17fffffffffffff) ?_
    refine po_ ?_ 55 (some 66) (lb 59 0x1ffffffffffffff) ?_
    refine po_ ?_ 57 (some 68) (lb 59 0x3ffffffffffffff) ?_
    refine pu_ ?_ ?_ 58 (some 69) (lb 59 0x7ffffffffffffff) ?_
    refine done_ (by kernel_rfl) ?_
    go_wp2
    go_ret
    exact ⟨rfl,below_then HB0.out HB0.out.size hHeld⟩
  have y6 : decide (j < i) = false:=decide_eq_false z6
  refine start_ (n:=59) (S:=fun w' => Below v0.heap.size v0 w') (ds:=[]) (lb 59 0x0) (by kernel_rfl) rfl (by kernel_rfl) (below_drew1 (Below.refl _ _)) (fun hHeld => ?_)
  refine pu_ ?_ ?_ 0 (some 11) (lb 59 0x1) ?_
  refine ta_ ?_ ?_ 1 (some 12) (lb 59 0x3) hHeld ?_ (y:=by rintro w' hS;obtain ⟨d0,d1,d2,d3,d4,d5,d6,d7,d8⟩:=HLE.out w' hS;go_simp;with_reducible rfl)
  refine pu_ ?_ ?_ 2 (some 13) (lb 59 0x7) ?_
  refine pu_ ?_ ?_ 3 (some 14) (lb 59 0xf) ?_
  refine pu_ ?_ ?_ 4 (some 15) (lb 59 0x1f) ?_
  refine pu_ ?_ ?_ 6 (some 17) (lb 59 0x5f) ?_
  refine pu_ ?_ ?_ 7 (some 18) (lb 59 0xdf) ?_
  refine pu_ ?_ ?_ 8 (some 19) (lb 59 0x1df) ?_
  refine pu_ ?_ ?_ 9 (some 20) (lb 59 0x3df) ?_
  refine ta_ ?_ ?_ 5 (some 16) (lb 59 0x3ff) hHeld ?_ (y:=by rintro w' hS;obtain ⟨d0,d1,d2,d3,d4,d5,d6,d7,d8⟩:=HLE.out w' hS;go_simp;with_reducible rfl)
  refine ta_ ?_ ?_ 10 (some 21) (lb 59 0x7ff) hHeld ?_ (y:=by rintro w' hS;obtain ⟨d0,d1,d2,d3,d4,d5,d6,d7,d8⟩:=HLE.out w' hS;go_simp;with_reducible rfl)
  refine pu_ ?_ ?_ 11 (some 22) (lb 59 0xfff) ?_
  refine pu_ ?_ ?_ 12 (some 23) (lb 59 0x1fff) ?_
  refine pu_ ?_ ?_ 13 (some 24) (lb 59 0x3fff) ?_
  refine pu_ ?_ ?_ 14 (some 25) (lb 59 0x7fff) ?_
  refine pu_ ?_ ?_ 15 (some 26) (lb 59 0xffff) ?_
  refine ta_ ?_ ?_ 16 (some 27) (lb 59 0x1ffff) hHeld ?_ (y:=by rintro w' hS;obtain ⟨d0,d1,d2,d3,d4,d5,d6,d7,d8⟩:=HLE.out w' hS;go_simp;with_reducible rfl)
  refine pu_ ?_ ?_ 17 (some 28) (lb 59 0x3ffff) ?_
  refine pu_ ?_ ?_ 18 (some 29) (lb 59 0x7ffff) ?_
  refine pu_ ?_ ?_ 19 (some 30) (lb 59 0xfffff) ?_
  refine pu_ ?_ ?_ 20 (some 31) (lb 59 0x1fffff) ?_
  refine pu_ ?_ ?_ 22 (some 33) (lb 59 0x5fffff) ?_
  refine pu_ ?_ ?_ 23 (some 34) (lb 59 0xdfffff) ?_
  refine pu_ ?_ ?_ 24 (some 35) (lb 59 0x1dfffff) ?_
  refine pu_ ?_ ?_ 25 (some 36) (lb 59 0x3dfffff) ?_
  refine pu_ ?_ ?_ 27 (some 38) (lb 59 0xbdfffff) ?_
  refine ta_ ?_ ?_ 21 (some 32) (lb 59 0xbffffff) hHeld ?_ (y:=by rintro w' hS;obtain ⟨d0,d1,d2,d3,d4,d5,d6,d7,d8⟩:=HLE.out w' hS;go_simp;with_reducible rfl)
  refine ta_ ?_ ?_ 26 (some 37) (lb 59 0xfffffff) hHeld ?_ (y:=by rintro w' hS;obtain ⟨d0,d1,d2,d3,d4,d5,d6,d7,d8⟩:=HLE.out w' hS;go_simp;with_reducible rfl)
  refine ta_ ?_ ?_ 28 (some 39) (lb 59 0x1fffffff) hHeld ?_ (y:=by rintro w' hS;obtain ⟨d0,d1,d2,d3,d4,d5,d6,d7,d8⟩:=HLE.out w' hS;go_simp;with_reducible rfl)
  refine pu_ ?_ ?_ 29 (some 40) (lb 59 0x3fffffff) ?_
  refine pu_ ?_ ?_ 30 (some 41) (lb 59 0x7fffffff) ?_
  refine ta_ ?_ ?_ 31 (some 42) (lb 59 0xffffffff) hHeld ?_ (y:=by rintro w' hS;obtain ⟨d0,d1,d2,d3,d4,d5,d6,d7,d8⟩:=HLE.out w' hS;go_simp;with_reducible rfl)
  refine pu_ ?_ ?_ 32 (some 43) (lb 59 0x1ffffffff) ?_
  refine pu_ ?_ ?_ 33 (some 44) (lb 59 0x3ffffffff) ?_
  refine pu_ ?_ ?_ 34 (some 45) (lb 59 0x7ffffffff) ?_
  refine pu_ ?_ ?_ 35 (some 46) (lb 59 0xfffffffff) ?_
  refine pu_ ?_ ?_ 36 (some 47) (lb 59 0x1fffffffff) ?_
  refine ta_ ?_ ?_ 37 (some 48) (lb 59 0x3fffffffff) hHeld ?_ (y:=by rintro w' hS;obtain ⟨d0,d1,d2,d3,d4,d5,d6,d7,d8⟩:=HLE.out w' hS;go_simp;with_reducible rfl)
  refine pu_ ?_ ?_ 38 (some 49) (lb 59 0x7fffffffff) ?_
  refine pu_ ?_ ?_ 39 (some 50) (lb 59 0xffffffffff) ?_
  refine pu_ ?_ ?_ 40 (some 51) (lb 59 0x1ffffffffff) ?_
  refine pu_ ?_ ?_ 41 (some 52) (lb 59 0x3ffffffffff) ?_
  refine pu_ ?_ ?_ 43 (some 54) (lb 59 0xbffffffffff) ?_
  refine ta_ ?_ ?_ 42 (some 53) (lb 59 0xfffffffffff) hHeld ?_ (y:=by rintro w' hS;obtain ⟨d0,d1,d2,d3,d4,d5,d6,d7,d8⟩:=HLE.out w' hS;go_simp;with_reducible rfl)
  refine pu_ ?_ ?_ 44 (some 55) (lb 59 0x1fffffffffff) ?_
  refine pu_ ?_ ?_ 45 (some 56) (lb 59 0x3fffffffffff) ?_
  refine pu_ ?_ ?_ 46 (some 57) (lb 59 0x7fffffffffff) ?_
  refine pu_ ?_ ?_ 47 (some 58) (lb 59 0xffffffffffff) ?_
  refine pu_ ?_ ?_ 49 (some 60) (lb 59 0x2ffffffffffff) ?_
  refine ta_ ?_ ?_ 48 (some 59) (lb 59 0x3ffffffffffff) hHeld ?_ (y:=by rintro w' hS;obtain ⟨d0,d1,d2,d3,d4,d5,d6,d7,d8⟩:=HLE.out w' hS;go_simp;with_reducible rfl)
  refine ta_ ?_ ?_ 50 (some 61) (lb 59 0x7ffffffffffff) hHeld ?_ (y:=by rintro w' hS;obtain ⟨d0,d1,d2,d3,d4,d5,d6,d7,d8⟩:=HLE.out w' hS;go_simp;with_reducible rfl)
  refine pu_ ?_ ?_ 51 (some 62) (lb 59 0xfffffffffffff) ?_
  refine pu_ ?_ ?_ 52 (some 63) (lb 59 0x1fffffffffffff) ?_
  refine pu_ ?_ ?_ 53 (some 64) (lb 59 0x3fffffffffffff) ?_
  refine pu_ ?_ ?_ 54 (some 65) (lb 59 0x7fffffffffffff) ?_
  refine pu_ ?_ ?_ 56 (some 67) (lb 59 0x17fffffffffffff) ?_
  refine ta_ ?_ ?_ 55 (some 66) (lb 59 0x1ffffffffffffff) hHeld ?_ (y:=by rintro w' hS;obtain ⟨d0,d1,d2,d3,d4,d5,d6,d7,d8⟩:=HLE.out w' hS;go_simp;with_reducible rfl)
  refine pu_ ?_ ?_ 57 (some 68) (lb 59 0x3ffffffffffffff) ?_
  refine pu_ ?_ ?_ 58 (some 69) (lb 59 0x7ffffffffffffff) ?_
  refine done_ (by kernel_rfl) ?_
  by_cases z7 : (n : Int) < j
  · have y7 : decide ((n : Int) < j) = true:=decide_eq_true z7
    have hvf : v = false:=by cases v with | false => rfl | true => (have:=HIN.out rfl;omega)
    subst hvf
    go_wp2
    go_ret
    exact ⟨rfl,below_then HB0.out HB0.out.size hHeld⟩
  have y7 : decide ((n : Int) < j) = false:=decide_eq_false z7
  go_upto_region 4 with (fail)
  clear y0 y1 y2 y3 y4 y5 y6 y7 y1'
  obtain ⟨dn,rfl⟩:=Int.eq_ofNat_of_zero_le (show 0 ≤ d by omega)
  obtain ⟨a,rfl⟩:=Int.eq_ofNat_of_zero_le (show 0 ≤ i by omega)
  obtain ⟨c,rfl⟩:=Int.eq_ofNat_of_zero_le (show 0 ≤ j by omega)
  have hdn : dn ≤ xr.right.length:=by omega
  have han : a ≤ n:=by omega
  have hcn : c ≤ n:=by omega
  have hval : getB (endsN g wd M (xr.right.take dn) a) (c : Int) = v:=by
    rw [← HV.out,← HRR.out]
    exact HM.out.ends hrl (by rw [HRR.out];exact hdn) (by have:=HN.out;omega) (by have:=HN.out;omega)
  have HVAL:=Lib.hid hval
  obtain ⟨v1,hv1⟩ : ∃ v1,v1 = v0.drew:=⟨_,rfl⟩
  rw [← hv1] at hHeld ⊢
  have HX1:=Aside0.mk (blk_below HX.out hHeld)
  have HO1:=Aside0.mk (blk_below HO.out hHeld)
  have HC1:=Aside0.mk (HC.out.below_ hHeld)
  have HY1:=Aside0.mk (pw_cell_below hHeld HY.out)
  have HB1:=Aside0.mk (below_then HB0.out HB0.out.size hHeld)
  obtain ⟨As,hsl,hcs⟩:=cutC_to kInt (t:=26) Try.underlying26 infoInt (Kd.C_below HCR.out hHeld) HDR.out dn hdn
  have HCS:=Aside0.mk hcs
  have hlt : (xr.right.take dn).length = dn:=by rw [List.length_take,Nat.min_eq_left hdn]
  have HLT:=Lib.hid hlt
  have hl8 : (xr.right.take dn).length ≤ 1000:=by omega
  have hi2 : a ≤ wd.length:=by have:=HN.out;omega
  have HI2:=Aside0.mk hi2
  have HL8:=Aside0.mk hl8
  obtain ⟨n1,hn1⟩ : ∃ n1,n1 = wd.length + 1:=⟨_,rfl⟩
  have c2 : (c : Int) < (n1 : Int):=by have:=HN.out;omega
  have HN1:=Lib.hid hn1
  clear hv1 hHeld HX HO HC HB0 hcs hval hlt hl8 hi2 hn1 z0 z1 z2 z3 z4 z5 z6 z7
  refine start_ (n:=22) (S:=fun w' => Below v1.heap.size v1 w') (ds:=[]) (lb 22 0x0) (by kernel_rfl) rfl (by kernel_rfl) (below_drew1 (Below.refl _ _)) (fun hHeld => ?_)
  refine pu_ ?_ ?_ 0 (some 70) (lb 22 0x1) ?_
  refine pu_ ?_ ?_ 1 (some 71) (lb 22 0x3) ?_
  refine pu_ ?_ ?_ 2 (some 72) (lb 22 0x7) ?_
  refine pu_ ?_ ?_ 3 (some 73) (lb 22 0xf) ?_
  refine pu_ ?_ ?_ 4 (some 74) (lb 22 0x1f) ?_
  refine pu_ ?_ ?_ 6 (some 76) (lb 22 0x5f) ?_
  refine pu_ ?_ ?_ 11 (some 81) (lb 22 0x85f) ?_
  refine pu_ ?_ ?_ 14 (some 84) (lb 22 0x485f) ?_
  refine pu_ ?_ ?_ 17 (some 87) (lb 22 0x2485f) ?_
  refine ta_ ?_ ?_ 5 (some 75) (lb 22 0x2487f) hHeld ?_ (y:=by rintro w' hS;have d0:=(blk_cell (blk_below HX1.out hS) 0).trans rfl;have d1:=(blk_cell (blk_below HX1.out hS) 1).trans rfl;have d2:=(blk_cell (blk_below HX1.out hS) 2).trans rfl;have d3:=(blk_cell (blk_below HX1.out hS) 3).trans rfl;have d4:=(blk_cell (blk_below HO1.out hS) 0).trans rfl;have d5:=(blk_cell (blk_below HO1.out hS) 1).trans rfl;have d6:=(blk_cell (blk_below HO1.out hS) 2).trans rfl;have d7:=(blk_cell (blk_below HO1.out hS) 3).trans rfl;have d8:=(blk_cell (blk_below HO1.out hS) 4).trans rfl;have d9:=cell_at hS HY1.out;go_simp;with_reducible rfl)
  refine ta_ ?_ ?_ 7 (some 77) (lb 22 0x248ff) hHeld ?_ (y:=by rintro w' hS;have d0:=(blk_cell (blk_below HX1.out hS) 0).trans rfl;have d1:=(blk_cell (blk_below HX1.out hS) 1).trans rfl;have d2:=(blk_cell (blk_below HX1.out hS) 2).trans rfl;have d3:=(blk_cell (blk_below HX1.out hS) 3).trans rfl;have d4:=(blk_cell (blk_below HO1.out hS) 0).trans rfl;have d5:=(blk_cell (blk_below HO1.out hS) 1).trans rfl;have d6:=(blk_cell (blk_below HO1.out hS) 2).trans rfl;have d7:=(blk_cell (blk_below HO1.out hS) 3).trans rfl;have d8:=(blk_cell (blk_below HO1.out hS) 4).trans rfl;have d9:=cell_at hS HY1.out;go_simp;with_reducible rfl)
  refine pu_ ?_ ?_ 8 (some 78) (lb 22 0x249ff) ?_
  refine pu_ ?_ ?_ 9 (some 79) (lb 22 0x24bff) ?_
  refine ta_ ?_ ?_ 10 (some 80) (lb 22 0x24fff) hHeld ?_ (y:=by rintro w' hS;have d0:=(blk_cell (blk_below HX1.out hS) 0).trans rfl;have d1:=(blk_cell (blk_below HX1.out hS) 1).trans rfl;have d2:=(blk_cell (blk_below HX1.out hS) 2).trans rfl;have d3:=(blk_cell (blk_below HX1.out hS) 3).trans rfl;have d4:=(blk_cell (blk_below HO1.out hS) 0).trans rfl;have d5:=(blk_cell (blk_below HO1.out hS) 1).trans rfl;have d6:=(blk_cell (blk_below HO1.out hS) 2).trans rfl;have d7:=(blk_cell (blk_below HO1.out hS) 3).trans rfl;have d8:=(blk_cell (blk_below HO1.out hS) 4).trans rfl;have d9:=cell_at hS HY1.out;go_simp;with_reducible rfl)
  refine ta_ ?_ ?_ 12 (some 82) (lb 22 0x25fff) hHeld ?_ (y:=by rintro w' hS;have d0:=(blk_cell (blk_below HX1.out hS) 0).trans rfl;have d1:=(blk_cell (blk_below HX1.out hS) 1).trans rfl;have d2:=(blk_cell (blk_below HX1.out hS) 2).trans rfl;have d3:=(blk_cell (blk_below HX1.out hS) 3).trans rfl;have d4:=(blk_cell (blk_below HO1.out hS) 0).trans rfl;have d5:=(blk_cell (blk_below HO1.out hS) 1).trans rfl;have d6:=(blk_cell (blk_below HO1.out hS) 2).trans rfl;have d7:=(blk_cell (blk_below HO1.out hS) 3).trans rfl;have d8:=(blk_cell (blk_below HO1.out hS) 4).trans rfl;have d9:=cell_at hS HY1.out;go_simp;with_reducible rfl)
  refine pu_ ?_ ?_ 13 (some 83) (lb 22 0x27fff) ?_
  refine ta_ ?_ ?_ 15 (some 85) (lb 22 0x2ffff) hHeld ?_ (y:=by rintro w' hS;have d0:=(blk_cell (blk_below HX1.out hS) 0).trans rfl;have d1:=(blk_cell (blk_below HX1.out hS) 1).trans rfl;have d2:=(blk_cell (blk_below HX1.out hS) 2).trans rfl;have d3:=(blk_cell (blk_below HX1.out hS) 3).trans rfl;have d4:=(blk_cell (blk_below HO1.out hS) 0).trans rfl;have d5:=(blk_cell (blk_below HO1.out hS) 1).trans rfl;have d6:=(blk_cell (blk_below HO1.out hS) 2).trans rfl;have d7:=(blk_cell (blk_below HO1.out hS) 3).trans rfl;have d8:=(blk_cell (blk_below HO1.out hS) 4).trans rfl;have d9:=cell_at hS HY1.out;go_simp;with_reducible rfl)
  refine ta_ ?_ ?_ 18 (some 88) (lb 22 0x6ffff) hHeld ?_ (y:=by rintro w' hS;have d0:=(blk_cell (blk_below HX1.out hS) 0).trans rfl;have d1:=(blk_cell (blk_below HX1.out hS) 1).trans rfl;have d2:=(blk_cell (blk_below HX1.out hS) 2).trans rfl;have d3:=(blk_cell (blk_below HX1.out hS) 3).trans rfl;have d4:=(blk_cell (blk_below HO1.out hS) 0).trans rfl;have d5:=(blk_cell (blk_below HO1.out hS) 1).trans rfl;have d6:=(blk_cell (blk_below HO1.out hS) 2).trans rfl;have d7:=(blk_cell (blk_below HO1.out hS) 3).trans rfl;have d8:=(blk_cell (blk_below HO1.out hS) 4).trans rfl;have d9:=cell_at hS HY1.out;go_simp;with_reducible rfl)
  refine on_ 16 (some 86) (lb 22 0x7ffff) (fun K hK => ?_)
  (refine goesC_ Try.func50 (by kernel_rfl) rfl (by rfl) rfl rfl (endsR_c k g wd M lo As dr (xr.right.take dn) a _ (HC1.out.below_ hHeld) HQ.out (Kd.C_below HCS.out hHeld) HL8.out HI2.out) (by simp [Act.eval,HLT.out]) ?_;rintro e w9 ⟨⟨be,rfl,hbe,hbl⟩,hb9⟩;rw [← HN1.out];refine ⟨_,rfl,?_⟩;have HQ9:=Aside0.mk (below_then hHeld hHeld.size hb9);have HBE:=Aside0.mk hbe;clear hbe hbl hb9;refine hK.out _ _ HQ9.out (fun hHeld => ?_))
  clear hK K
  refine nm_ ?_ (some 86) ?_
  refine pu_ ?_ ?_ 19 (some 89) (lb 22 0xfffff) ?_
  refine on_ 20 (some 90) (lb 22 0x1fffff) (fun K hK => ?_)
  have z:=HBE.out.cell' (i:=c) (by rw [endsN_len,← HN1.out];omega) HVAL.out
  refine va_ ?_ ?_ ?_
  refine hK.out _ _ hHeld (fun hHeld => ?_)
  clear hK K
  refine nm_ ?_ (some 90) ?_
  refine pu_ ?_ ?_ 21 (some 4) (lb 22 0x3fffff) ?_
  refine done_ (by kernel_rfl) ?_
  go_wp2
  go_ret
  exact ⟨rfl,below_then HB1.out HB1.out.size hHeld⟩
end Go.Proofs.Ytmkgcjhimajgiaa


set_option linter.unusedVariables false
set_option linter.unusedSimpArgs false
namespace Go.Proofs.Ytmkgcjhimajgiaa
open Go.RowKit Go.Proofs.YtmkgcjhimajgiaaW.PrintWords Go.Proofs.YtmkgcjhimajgiaaW.PrintLast Go.Conc

set_option maxRecDepth 100000 in
set_option maxHeartbeats 16000000 in
theorem spansR_c (k : RB) (g : Gram) (wd : List Int) (M : Tab) (lo : Nat) (W : World) (h : RC W lo k g wd M) (hq : Sm40 g wd) (hgd : goodF g = true) (hM : Full g wd M) :
    Calls Try.prog 21 #[.pointer (some ⟨k.b,0,none⟩)] W fun e W' => SpEnd W (spansF g wd) e W' ∧ Below W.heap.size W W':=by
  have HC:=Aside0.mk h
  have HQ:=Aside0.mk hq
  have HM:=Aside0.mk hM
  have HGD:=Aside0.mk hgd
  have HK:=Aside0.mk h.o
  obtain ⟨q1,q2,q3⟩:=hq
  have o0 : W.cell? ⟨k.b,0,none⟩ = some (.slice k.A1 g.terms.length k.c1):=(blk_cell HK.out 0).trans rfl
  have o3 : W.cell? ⟨k.b,3,none⟩ = some (.slice k.B wd.length k.cb):=(blk_cell HK.out 3).trans rfl
  obtain ⟨ns,hns⟩ : ∃ ns,ns = g.terms.length + g.names.length:=⟨_,rfl⟩
  have e1 : IntKind.i64.wrap ((g.terms.length : Int) + (g.names.length : Int)) = (ns : Int):=by rw [IntWalk.i64_in _ (by omega)];omega
  have hns80 : ns ≤ 80:=by omega
  have HNS:=Lib.hid hns
  clear h hgd hM hns
  go_enter Try.func21,Try.ntmps21
  go_wp2
  clear o0 o3
  go_loopw [5,3] (fun kv l wr => ∃ m : Nat,m ≤ g.names.length ∧ kv = .int .i64 ((g.terms.length + m : Nat) : Int) ∧ Aside0 (kSp.R 28 wr W.heap.size (fun _ => True) l (spansL g wd m)) ∧ Aside0 (Below W.heap.size W wr)) (fun kv _ _ => g.terms.length + g.names.length - (intOf kv).toNat)
  case atStart => exact ⟨0,Nat.zero_le _,rfl,⟨Kd.R_nil _ _ _ _ _⟩,⟨Below.refl _ _⟩⟩
  case round =>
    obtain ⟨m,hm,rfl,HR,HB⟩:=hrel
    rename World => wm0
    obtain ⟨Ar,cr,rfl⟩:=Kd.R_slice HR.out
    have HKm:=Aside0.mk (blk_below HK.out HB.out)
    by_cases hml : m < g.names.length
    · obtain ⟨s,hs⟩ : ∃ s,s = g.terms.length + m:=⟨_,rfl⟩
      rw [← hs]
      have m2 : (s : Int) < (ns : Int):=by have:=HNS.out;omega
      have m3 : s < ns:=by omega
      have m4 : decide (s < ns) = true:=decide_eq_true m3
      have m5 : decide ((s : Int) < (ns : Int)) = true:=decide_eq_true m2
      have HS:=Lib.hid hs
      have hs80 : s ≤ 80:=by omega
      clear hs
      go_upto_region 4 with (fail)
      refine start_ (n:=15) (S:=fun w' => Below wm0.heap.size wm0 w') (ds:=[]) (lb 15 0x0) (by kernel_rfl) rfl (by kernel_rfl) (below_drew1 (Below.refl _ _)) (fun hHeld => ?_)
      refine pu_ ?_ ?_ 0 (some 19) (lb 15 0x1) ?_
      refine pu_ ?_ ?_ 1 (some 20) (lb 15 0x3) ?_
      refine pu_ ?_ ?_ 2 (some 21) (lb 15 0x7) ?_
      refine pu_ ?_ ?_ 3 (some 22) (lb 15 0xf) ?_
      refine pu_ ?_ ?_ 4 (some 23) (lb 15 0x1f) ?_
      refine pu_ ?_ ?_ 7 (some 26) (lb 15 0x9f) ?_
      refine pu_ ?_ ?_ 8 (some 27) (lb 15 0x19f) ?_
      refine pu_ ?_ ?_ 9 (some 28) (lb 15 0x39f) ?_
      refine pu_ ?_ ?_ 10 (some 29) (lb 15 0x79f) ?_
      refine ta_ ?_ ?_ 5 (some 24) (lb 15 0x7bf) hHeld ?_ (y:=by rintro w' hS;have d0:=(blk_cell (blk_below HKm.out hS) 0).trans rfl;have d1:=(blk_cell (blk_below HKm.out hS) 1).trans rfl;have d2:=(blk_cell (blk_below HKm.out hS) 2).trans rfl;have d3:=(blk_cell (blk_below HKm.out hS) 3).trans rfl;have d4:=(blk_cell (blk_below HKm.out hS) 4).trans rfl;go_simp;with_reducible rfl)
      refine pu_ ?_ ?_ 6 (some 25) (lb 15 0x7ff) ?_
      refine ta_ ?_ ?_ 11 (some 30) (lb 15 0xfff) hHeld ?_ (y:=by rintro w' hS;have d0:=(blk_cell (blk_below HKm.out hS) 0).trans rfl;have d1:=(blk_cell (blk_below HKm.out hS) 1).trans rfl;have d2:=(blk_cell (blk_below HKm.out hS) 2).trans rfl;have d3:=(blk_cell (blk_below HKm.out hS) 3).trans rfl;have d4:=(blk_cell (blk_below HKm.out hS) 4).trans rfl;go_simp;with_reducible rfl)
      refine pu_ ?_ ?_ 12 (some 31) (lb 15 0x1fff) ?_
      refine pu_ ?_ ?_ 13 (some 32) (lb 15 0x3fff) ?_
      refine pu_ ?_ ?_ 14 (some 33) (lb 15 0x7fff) ?_
      refine done_ (by kernel_rfl) ?_
      obtain ⟨wm,hwm⟩ : ∃ wm,wm = wm0.drew:=⟨_,rfl⟩
      rw [← hwm] at hHeld ⊢
      have HR':=Aside0.mk (Kd.R_below HR.out hHeld)
      have HB':=Aside0.mk (below_then HB.out HB.out.size hHeld)
      clear hwm hHeld HR HB HKm m2 m3 m4 m5
      have HSU:=Lib.hid (spansL_succ g wd m)
      have HSM:=Aside0.mk (fun (i t s : Nat) (hi : i ≤ wd.length) (ht : t ≤ wd.length + 1) => spans_small HGD.out HQ.out.w hml hi ht s)
      obtain ⟨L0,hL0⟩ : ∃ L0,L0 = spansL g wd m:=⟨_,rfl⟩
      rw [← HS.out] at HSU
      rw [← hL0] at HSU HSM
      have HR0 : Aside0 (kSp.R 28 wm W.heap.size (fun _ => True) (.slice Ar (spansL g wd m).length cr) (L0 ++ rowI g wd s 0)):=⟨by rw [hL0];unfold rowI;simpa using HR'.out⟩
      clear hL0
      go_wp2
      go_loopw [6,3] (fun iv l wr => ∃ i : Nat,i ≤ wd.length + 1 ∧ iv = .int .i64 i ∧ Aside0 (kSp.R 28 wr W.heap.size (fun _ => True) l (L0 ++ rowI g wd s i)) ∧ Aside0 (Below W.heap.size W wr)) (fun iv _ _ => wd.length + 1 - (intOf iv).toNat)
      case atStart => exact ⟨0,Nat.zero_le _,rfl,HR0,HB'⟩
      case round =>
        clear HR' HR0 HB'
        obtain ⟨i,hi,rfl,HR,HB⟩:=hrel
        rename World => wi
        obtain ⟨Ai,ci,rfl⟩:=Kd.R_slice HR.out
        by_cases hil : i ≤ wd.length
        · have i2 : (i : Int) ≤ (wd.length : Int):=by omega
          have HSI:=Lib.hid (rowI_succ g wd s i)
          have HSL:=Aside0.mk (fun (t : Nat) (ht : t ≤ wd.length + 1) => HSM.out i t s hil ht)
          obtain ⟨L1,hL1⟩ : ∃ L1,L1 = L0 ++ rowI g wd s i:=⟨_,rfl⟩
          have HR0 : Aside0 (kSp.R 28 wi W.heap.size (fun _ => True) (.slice Ai (L0 ++ rowI g wd s i).length ci) (L1 ++ rowJ g wd s i 0)):=⟨by rw [hL1];unfold rowJ;simpa using HR.out⟩
          rw [← hL1] at HR0 HSL ⊢
          have HSJ : Aside0 (L0 ++ rowI g wd s (i + 1) = L1 ++ rowJ g wd s i (wd.length + 1 - i)):=⟨by rw [HSI.out,hL1,List.append_assoc]⟩
          clear hL1 HR
          go_wp2
          go_loopw [7,3] (fun jv l wr => ∃ t : Nat,t ≤ wd.length + 1 - i ∧ jv = .int .i64 ((i + t : Nat) : Int) ∧ Aside0 (kSp.R 28 wr W.heap.size (fun _ => True) l (L1 ++ rowJ g wd s i t)) ∧ Aside0 (Below W.heap.size W wr)) (fun jv _ _ => wd.length + 1 - (intOf jv).toNat)
          case atStart => exact ⟨0,Nat.zero_le _,rfl,HR0,HB⟩
          case round =>
            clear HR0 HB
            obtain ⟨t,ht,rfl,HR,HB⟩:=hrel
            rename World => wt
            obtain ⟨At,ct,rfl⟩:=Kd.R_slice HR.out
            by_cases htl : i + t ≤ wd.length
            · have t2 : ((i + t : Nat) : Int) ≤ (wd.length : Int):=by omega
              have HSU2:=Lib.hid (rowJ_succ g wd s i t)
              have hln:=HSL.out t (by omega)
              obtain ⟨L2,hL2⟩ : ∃ L2,L2 = L1 ++ rowJ g wd s i t:=⟨_,rfl⟩
              have HN2 : Aside0 (L1 ++ rowJ g wd s i (t + 1) = L2 ++ if symV g wd s i ((i + t : Nat) : Int) = true then [⟨s,i,i + t⟩] else []):=⟨by rw [HSU2.out,hL2,List.append_assoc]⟩
              rw [← hL2] at HR hln ⊢
              clear hL2
              obtain ⟨jt,hjt⟩ : ∃ jt,jt = i + t:=⟨_,rfl⟩
              rw [← hjt] at t2 htl HN2 ⊢
              have HJT:=Lib.hid hjt
              obtain ⟨sv,hsv⟩ : ∃ sv,symV g wd s i (jt : Int) = sv:=⟨_,rfl⟩
              rw [hsv] at HN2
              have HSY:=Aside0.mk (symR_c k g wd M lo s i jt wt (HC.out.below_ HB.out) HQ.out ((HM.out.sym _ _ _).trans hsv))
              clear hsv hjt
              cases sv
              · go_wp2_with (go_at_call 27;go_loud (refine HSY.out.mono ?_;rintro e w5 ⟨rfl,hb5⟩;have HB5:=Aside0.mk (below_then HB.out HB.out.size hb5);have HR5:=Aside0.mk (Kd.R_below HR.out hb5);clear hb5))
                go_roundw
                case rel => exact ⟨t + 1,by have:=HJT.out;omega,by rw [HJT.out];go_num,by rw [HN2.out];simpa using HR5,HB5⟩
                case measure => simp [intOf];omega
              · go_wp2_with (first | (have hx:=HB5.out;at_builtin;refine app_sp (w0:=W) (base:=W.heap.size) (p:=⟨s,i,jt⟩) (ok:=fun _ => True) rfl rfl HR5.out HB5.out HB5.out.size (by omega) (fun _ _ => trivial) rfl (by simp [Act.eval]) ?_;intro v7 w7 A7;obtain ⟨A',c',rfl⟩:=A7.shape;have HR7:=Aside0.mk A7.row;have HB7:=Aside0.mk A7.below;clear A7) | (go_at_call 27;go_loud (refine HSY.out.mono ?_;rintro e w5 ⟨rfl,hb5⟩;have HB5:=Aside0.mk (below_then HB.out HB.out.size hb5);have HR5:=Aside0.mk (Kd.R_below HR.out hb5);clear hb5)))
                go_roundw
                case rel => exact ⟨t + 1,by have:=HJT.out;omega,by rw [HJT.out];go_num,by rw [HN2.out];simpa using HR7,HB7⟩
                case measure => simp [intOf];omega
            · have hte : t = wd.length + 1 - i:=by omega
              have t2 : ¬ ((i + t : Nat) : Int) ≤ (wd.length : Int):=by omega
              have HR9 : Aside0 (kSp.R 28 wt W.heap.size (fun _ => True) (.slice At (L1 ++ rowJ g wd s i t).length ct) (L0 ++ rowI g wd s (i + 1))):=⟨by rw [HSJ.out,← hte];exact HR.out⟩
              clear hte
              clear HR
              go_wp2
              go_roundw
              case rel => exact ⟨i + 1,by omega,by go_num,HR9,HB⟩
              case measure => simp [intOf];omega
        · have hie : i = wd.length + 1:=by omega
          have i2 : ¬ (i : Int) ≤ (wd.length : Int):=by omega
          have HR9 : Aside0 (kSp.R 28 wi W.heap.size (fun _ => True) (.slice Ai (L0 ++ rowI g wd s i).length ci) (spansL g wd (m + 1))):=⟨by rw [HSU.out,← hie];exact HR.out⟩
          clear hie
          clear HR
          go_wp2
          go_roundw
          case rel => exact ⟨m + 1,by omega,by rw [HS.out];go_num,HR9,HB⟩
          case measure => have:=HS.out;simp [intOf];omega
    · have hme : m = g.names.length:=by omega
      obtain ⟨s,hs⟩ : ∃ s,s = g.terms.length + m:=⟨_,rfl⟩
      rw [← hs]
      have m2 : ¬ (s : Int) < (ns : Int):=by have:=HNS.out;omega
      have m3 : ¬ s < ns:=by omega
      have m4 : decide (s < ns) = false:=decide_eq_false m3
      have m5 : decide ((s : Int) < (ns : Int)) = false:=decide_eq_false m2
      have hs80 : s ≤ 80:=by omega
      clear hs
      go_upto_region 4 with (fail)
      refine start_ (n:=15) (S:=fun w' => Below wm0.heap.size wm0 w') (ds:=[]) (lb 15 0x0) (by kernel_rfl) rfl (by kernel_rfl) (below_drew1 (Below.refl _ _)) (fun hHeld => ?_)
      refine pu_ ?_ ?_ 0 (some 19) (lb 15 0x1) ?_
      refine pu_ ?_ ?_ 1 (some 20) (lb 15 0x3) ?_
      refine pu_ ?_ ?_ 2 (some 21) (lb 15 0x7) ?_
      refine pu_ ?_ ?_ 3 (some 22) (lb 15 0xf) ?_
      refine pu_ ?_ ?_ 4 (some 23) (lb 15 0x1f) ?_
      refine pu_ ?_ ?_ 7 (some 26) (lb 15 0x9f) ?_
      refine pu_ ?_ ?_ 8 (some 27) (lb 15 0x19f) ?_
      refine pu_ ?_ ?_ 9 (some 28) (lb 15 0x39f) ?_
      refine pu_ ?_ ?_ 10 (some 29) (lb 15 0x79f) ?_
      refine ta_ ?_ ?_ 5 (some 24) (lb 15 0x7bf) hHeld ?_ (y:=by rintro w' hS;have d0:=(blk_cell (blk_below HKm.out hS) 0).trans rfl;have d1:=(blk_cell (blk_below HKm.out hS) 1).trans rfl;have d2:=(blk_cell (blk_below HKm.out hS) 2).trans rfl;have d3:=(blk_cell (blk_below HKm.out hS) 3).trans rfl;have d4:=(blk_cell (blk_below HKm.out hS) 4).trans rfl;go_simp;with_reducible rfl)
      refine pu_ ?_ ?_ 6 (some 25) (lb 15 0x7ff) ?_
      refine ta_ ?_ ?_ 11 (some 30) (lb 15 0xfff) hHeld ?_ (y:=by rintro w' hS;have d0:=(blk_cell (blk_below HKm.out hS) 0).trans rfl;have d1:=(blk_cell (blk_below HKm.out hS) 1).trans rfl;have d2:=(blk_cell (blk_below HKm.out hS) 2).trans rfl;have d3:=(blk_cell (blk_below HKm.out hS) 3).trans rfl;have d4:=(blk_cell (blk_below HKm.out hS) 4).trans rfl;go_simp;with_reducible rfl)
      refine pu_ ?_ ?_ 12 (some 31) (lb 15 0x1fff) ?_
      refine pu_ ?_ ?_ 13 (some 32) (lb 15 0x3fff) ?_
      refine pu_ ?_ ?_ 14 (some 33) (lb 15 0x7fff) ?_
      refine done_ (by kernel_rfl) ?_
      have HE2 : Aside0 (SpEnd W (spansF g wd) (.returned (.slice Ar (spansL g wd m).length cr)) wm0.drew):=⟨⟨Ar,cr,by rw [hme];rfl,by have:=Kd.R_below HR.out hHeld;rw [hme] at this;exact this⟩⟩
      clear hme
      go_wp2
      go_ret
      exact ⟨HE2.out,below_then HB.out HB.out.size hHeld⟩
end Go.Proofs.Ytmkgcjhimajgiaa


set_option linter.unusedVariables false
set_option linter.unusedSimpArgs false
namespace Go.Proofs.Ytmkgcjhimajgiaa
open Go.RowKit Go.Proofs.YtmkgcjhimajgiaaW.PrintWords Go.Proofs.YtmkgcjhimajgiaaW.PrintLast Go.Conc

set_option maxRecDepth 100000 in
set_option maxHeartbeats 16000000 in
theorem pivR_c (k : RB) (g : Gram) (wd : List Int) (M : Tab) (lo : Nat) (r d i j : Int) (W : World) (h : RC W lo k g wd M) (hq : Sm40 g wd) (hgd : goodF g = true) (hM : Full g wd M) :
    Calls Try.prog 25 #[.pointer (some ⟨k.b,0,none⟩),.agg #[.int .i64 r,.int .i64 d,.int .i64 i,.int .i64 j]] W fun e W' => PivEnd W (pivF g wd r d i j) e W' ∧ Below W.heap.size W W':=by
  obtain ⟨x0,hx0⟩ : ∃ x0,x0 = W.heap.size:=⟨_,rfl⟩
  obtain ⟨v0,hv0⟩ : ∃ v0 : World,v0 = W.alloc (.cells #[.int .i64 r,.int .i64 d,.int .i64 i,.int .i64 j] 30 (0,0)):=⟨_,rfl⟩
  have HB0 : Aside0 (Below W.heap.size W v0):=⟨by rw [hv0];exact (Below.refl W.heap.size W).alloc (Nat.le_refl _) _⟩
  have HX : Aside0 (v0.heap[x0]? = some (.cells #[.int .i64 r,.int .i64 d,.int .i64 i,.int .i64 j] 30 (0,0))):=⟨by rw [hv0,hx0];exact blk_new W _⟩
  have HC:=Aside0.mk (h.below_ HB0.out)
  have HO:=Aside0.mk HC.out.o
  have HQ:=Aside0.mk hq
  have HM:=Aside0.mk hM
  have HGD:=Lib.hid hgd
  obtain ⟨q1,q2,q3⟩:=hq
  have q4:=(goodF_small hgd).2.2.2
  obtain ⟨pv,hpv⟩ : ∃ pv,partV g wd r d i j = pv:=⟨_,rfl⟩
  have HPV:=Lib.hid hpv
  obtain ⟨db,hdb⟩ : ∃ b,decide (d < 1) = b:=⟨_,rfl⟩
  have HDB:=Lib.hid hdb
  have hnil : (pv = false ∨ db = true) → pivF g wd r d i j = []:=by
    intro hh
    unfold pivF
    rw [if_neg]
    rw [hpv]
    rintro ⟨h1,h2⟩
    rcases hh with hh | hh
    · rw [hh] at h2;cases h2
    · rw [hh] at hdb;have:=of_decide_eq_true hdb;omega
  have HNIL:=Lib.hid hnil
  have hsome : pv = true → db = false → pivF g wd r d i j = pivN g wd r.toNat d.toNat i.toNat j.toNat (j.toNat + 1 - i.toNat):=by
    intro h1 h2
    unfold pivF
    rw [if_pos]
    rw [h2] at hdb
    have:=of_decide_eq_false hdb
    exact ⟨by omega,by rw [hpv,h1]⟩
  have HSOME:=Lib.hid hsome
  obtain ⟨L,hL⟩ : ∃ L,L = pivF g wd r d i j:=⟨_,rfl⟩
  rw [← hL] at HNIL HSOME ⊢
  clear h hgd hM hpv hnil hsome hL
  go_enter Try.func25,Try.ntmps25
  go_upto_region 1 with (fail)
  simp only [← hv0]
  simp only [← hx0]
  have HX0:=Lib.hid hx0
  clear hv0 hx0
  cases pv
  · refine pl_start ?_
    refine pl_held (B:=v0.heap.size) (v:=v0) (Below.refl _ _) (fun hHeld => ?_)
    refine pp_ ?_ ?_ ?_
    refine pp_ ?_ ?_ ?_ (y:=by have d0:=(blk_cell (blk_below HX.out hHeld) 0).trans rfl;have d1:=(blk_cell (blk_below HX.out hHeld) 1).trans rfl;have d2:=(blk_cell (blk_below HX.out hHeld) 2).trans rfl;have d3:=(blk_cell (blk_below HX.out hHeld) 3).trans rfl;go_simp;rfl)
    refine goesCL_ (N:=(some 11)) Try.func23 (by kernel_rfl) rfl (by rfl) rfl rfl (partR_c k g wd M lo r d i j _ (HC.out.below_ hHeld) HQ.out HGD.out HM.out HPV.out) (by simp [Act.eval]) ?_
    rintro e x1_2 ⟨rfl,hb1_2⟩
    refine ⟨_,rfl,?_⟩
    simp only [Act.put,List.setIfInBounds_toArray,List.set_cons_zero,List.set_cons_succ]
    refine pl_held (B:=v0.heap.size) (v:=v0) (below_then hHeld hHeld.size hb1_2) (fun hHeld => ?_)
    refine pp_ ?_ ?_ ?_
    refine pp_ ?_ ?_ ?_
    refine pf_ ?_ ?_
    refine pf_ ?_ ?_
    refine pf_ ?_ ?_
    refine pp_ ?_ ?_ ?_
    refine pl_nil ?_
    obtain rfl:=HNIL.out (.inl rfl)
    go_wp2
    go_ret
    exact ⟨⟨none,0,rfl,Kd.R_nil _ _ _ _ _⟩,below_then HB0.out HB0.out.size hHeld⟩
  refine pl_start ?_
  refine pl_held (B:=v0.heap.size) (v:=v0) (Below.refl _ _) (fun hHeld => ?_)
  refine pp_ ?_ ?_ ?_
  refine pp_ ?_ ?_ ?_ (y:=by have d0:=(blk_cell (blk_below HX.out hHeld) 0).trans rfl;have d1:=(blk_cell (blk_below HX.out hHeld) 1).trans rfl;have d2:=(blk_cell (blk_below HX.out hHeld) 2).trans rfl;have d3:=(blk_cell (blk_below HX.out hHeld) 3).trans rfl;go_simp;rfl)
  refine goesCL_ (N:=(some 11)) Try.func23 (by kernel_rfl) rfl (by rfl) rfl rfl (partR_c k g wd M lo r d i j _ (HC.out.below_ hHeld) HQ.out HGD.out HM.out HPV.out) (by simp [Act.eval]) ?_
  rintro e x1_2 ⟨rfl,hb1_2⟩
  refine ⟨_,rfl,?_⟩
  simp only [Act.put,List.setIfInBounds_toArray,List.set_cons_zero,List.set_cons_succ]
  refine pl_held (B:=v0.heap.size) (v:=v0) (below_then hHeld hHeld.size hb1_2) (fun hHeld => ?_)
  refine pp_ ?_ ?_ ?_
  refine pp_ ?_ ?_ ?_
  refine pp_ ?_ ?_ ?_
  refine pp_ ?_ ?_ ?_ (y:=by have d0:=(blk_cell (blk_below HX.out hHeld) 0).trans rfl;have d1:=(blk_cell (blk_below HX.out hHeld) 1).trans rfl;have d2:=(blk_cell (blk_below HX.out hHeld) 2).trans rfl;have d3:=(blk_cell (blk_below HX.out hHeld) 3).trans rfl;go_simp;rfl)
  refine pp_ ?_ ?_ ?_
  refine pp_ ?_ ?_ ?_
  refine pl_nil ?_
  cases db
  case true =>
    obtain rfl:=HNIL.out (.inr rfl)
    go_wp2
    go_ret
    exact ⟨⟨none,0,rfl,Kd.R_nil _ _ _ _ _⟩,below_then HB0.out HB0.out.size hHeld⟩
  have HLE:=Lib.hid (HSOME.out rfl rfl)
  have hd1:=of_decide_eq_false HDB.out
  have hin:=partV_in HPV.out
  obtain ⟨⟨h1,h2,h3,h4⟩,⟨h5,h6⟩,h7,h8⟩:=hin
  obtain ⟨rn,rfl⟩:=Int.eq_ofNat_of_zero_le h5
  obtain ⟨dn,rfl⟩:=Int.eq_ofNat_of_zero_le h7
  obtain ⟨ii,rfl⟩:=Int.eq_ofNat_of_zero_le h1
  obtain ⟨jj,rfl⟩:=Int.eq_ofNat_of_zero_le h2
  have hle : ii ≤ jj:=(partV_nat.1 HPV.out).ok.1
  simp only [Int.toNat_natCast] at h8 HLE
  have hrn : rn < g.rules.length:=by omega
  rename World => w2
  have HX2:=Aside0.mk (blk_below HX.out hHeld)
  have HO2:=Aside0.mk (blk_below HO.out hHeld)
  have HC2:=Aside0.mk (HC.out.below_ hHeld)
  have HB2:=Aside0.mk (below_then HB0.out HB0.out.size hHeld)
  obtain ⟨ad,Br,dr,ead,hx,hy,hdr,hC1⟩:=at_rule HC2.out.rep.rules rn hrn
  have hR:=rightR_at hrn
  have hgm:=goodF_mem HGD.out (g.rules[rn]'hrn) (List.getElem_mem _)
  obtain ⟨xr,hxr⟩ : ∃ xr,xr = g.rules[rn]'hrn:=⟨_,rfl⟩
  rw [← hxr] at hy hC1 hR hgm hdr
  rw [hR] at h8
  have HY:=Aside0.mk hy
  have HCR:=Aside0.mk hC1
  have HRR:=Aside0.mk hR
  have HDR:=Aside0.mk hdr
  rw [ead] at HO2
  have hr8:=hgm.2.2.1
  have r2 : (rn : Int) < (g.rules.length : Int):=by omega
  have r0 : (0 : Int) ≤ (rn : Int):=by omega
  clear hx hy hC1 hxr hdr hHeld HX HO HC HB0 hgm hb1_2 hR
  go_upto_region 3 with (fail)
  refine start_ (n:=11) (S:=fun w' => Below w2.heap.size w2 w') (ds:=[]) (lb 11 0x0) (by kernel_rfl) rfl (by kernel_rfl) (below_drew1 (Below.refl _ _)) (fun hHeld => ?_)
  refine pu_ ?_ ?_ 0 (some 18) (lb 11 0x1) ?_
  refine pu_ ?_ ?_ 1 (some 19) (lb 11 0x3) ?_
  refine pu_ ?_ ?_ 2 (some 20) (lb 11 0x7) ?_
  refine pu_ ?_ ?_ 3 (some 21) (lb 11 0xf) ?_
  refine pu_ ?_ ?_ 5 (some 23) (lb 11 0x2f) ?_
  refine ta_ ?_ ?_ 4 (some 22) (lb 11 0x3f) hHeld ?_ (y:=by rintro w' hS;have d0:=(blk_cell (blk_below HX2.out hS) 0).trans rfl;have d1:=(blk_cell (blk_below HX2.out hS) 1).trans rfl;have d2:=(blk_cell (blk_below HX2.out hS) 2).trans rfl;have d3:=(blk_cell (blk_below HX2.out hS) 3).trans rfl;have d4:=(blk_cell (blk_below HO2.out hS) 0).trans rfl;have d5:=(blk_cell (blk_below HO2.out hS) 1).trans rfl;have d6:=(blk_cell (blk_below HO2.out hS) 2).trans rfl;have d7:=(blk_cell (blk_below HO2.out hS) 3).trans rfl;have d8:=(blk_cell (blk_below HO2.out hS) 4).trans rfl;have d9:=cell_at hS HY.out;go_simp;with_reducible rfl)
  refine ta_ ?_ ?_ 6 (some 24) (lb 11 0x7f) hHeld ?_ (y:=by rintro w' hS;have d0:=(blk_cell (blk_below HX2.out hS) 0).trans rfl;have d1:=(blk_cell (blk_below HX2.out hS) 1).trans rfl;have d2:=(blk_cell (blk_below HX2.out hS) 2).trans rfl;have d3:=(blk_cell (blk_below HX2.out hS) 3).trans rfl;have d4:=(blk_cell (blk_below HO2.out hS) 0).trans rfl;have d5:=(blk_cell (blk_below HO2.out hS) 1).trans rfl;have d6:=(blk_cell (blk_below HO2.out hS) 2).trans rfl;have d7:=(blk_cell (blk_below HO2.out hS) 3).trans rfl;have d8:=(blk_cell (blk_below HO2.out hS) 4).trans rfl;have d9:=cell_at hS HY.out;go_simp;with_reducible rfl)
  refine pu_ ?_ ?_ 7 (some 25) (lb 11 0xff) ?_
  refine pu_ ?_ ?_ 8 (some 26) (lb 11 0x1ff) ?_
  refine ta_ ?_ ?_ 9 (some 27) (lb 11 0x3ff) hHeld ?_ (y:=by rintro w' hS;have d0:=(blk_cell (blk_below HX2.out hS) 0).trans rfl;have d1:=(blk_cell (blk_below HX2.out hS) 1).trans rfl;have d2:=(blk_cell (blk_below HX2.out hS) 2).trans rfl;have d3:=(blk_cell (blk_below HX2.out hS) 3).trans rfl;have d4:=(blk_cell (blk_below HO2.out hS) 0).trans rfl;have d5:=(blk_cell (blk_below HO2.out hS) 1).trans rfl;have d6:=(blk_cell (blk_below HO2.out hS) 2).trans rfl;have d7:=(blk_cell (blk_below HO2.out hS) 3).trans rfl;have d8:=(blk_cell (blk_below HO2.out hS) 4).trans rfl;have d9:=cell_at hS HY.out;go_simp;with_reducible rfl)
  refine pu_ ?_ ?_ 10 (some 5) (lb 11 0x7ff) ?_
  refine done_ (by kernel_rfl) ?_
  obtain ⟨w3,hw3⟩ : ∃ w3,w3 = w2.drew:=⟨_,rfl⟩
  rw [← hw3] at hHeld ⊢
  have HX3:=Aside0.mk (blk_below HX2.out hHeld)
  have HC3:=Aside0.mk (HC2.out.below_ hHeld)
  have HB3:=Aside0.mk (below_then HB2.out HB2.out.size hHeld)
  have HCR3:=Aside0.mk (Kd.C_below HCR.out hHeld)
  clear hw3 hHeld HX2 HO2 HC2 HB2 HY HCR r2 r0
  have hd1' : dn - 1 ≤ xr.right.length:=by omega
  have hy1 : dn - 1 < xr.right.length:=by omega
  have e1 : IntKind.i64.wrap ((dn : Int) - 1) = ((dn - 1 : Nat) : Int):=by rw [IntWalk.i64_in _ (by omega)];omega
  obtain ⟨As,hsl,hcs⟩:=cutC_to kInt (t:=26) Try.underlying26 infoInt HCR3.out HDR.out (dn - 1) hd1'
  have HCS:=Aside0.mk hcs
  obtain ⟨lt,hlt⟩ : ∃ lt,lt = xr.right.take (dn - 1):=⟨_,rfl⟩
  have hltl : lt.length = dn - 1:=by rw [hlt,List.length_take,Nat.min_eq_left hd1']
  rw [← hlt] at HCS
  have HLT:=Lib.hid hltl
  have HI2 : Aside0 (ii ≤ wd.length):=⟨by omega⟩
  have HL8 : Aside0 (lt.length ≤ 1000):=⟨by omega⟩
  have HEV : Hid (∀ m,m ≤ wd.length → getB (endsN g wd M lt ii) (m : Int) = partV g wd rn ((dn - 1 : Nat) : Int) ii m):=Lib.hid fun m hm => by
    rw [hlt,← HRR.out]
    exact HM.out.ends hrn (by rw [HRR.out];omega) HI2.out hm
  obtain ⟨n1,hn1⟩ : ∃ n1,n1 = wd.length + 1:=⟨_,rfl⟩
  have HN1:=Lib.hid hn1
  obtain ⟨y,hy⟩ : ∃ y,y = (rightR g rn).getD (dn - 1) 0:=⟨_,rfl⟩
  have hyr : xr.right[dn - 1]'hy1 = y:=by rw [hy,HRR.out,List.getD_eq_getElem?_getD,List.getElem?_eq_getElem hy1];rfl
  have HYR:=Lib.hid hyr
  have HYE:=Lib.hid hy
  clear hcs hlt hltl hn1 hyr hy
  go_upto_region 4 with (fail)
  refine start_ (n:=10) (S:=fun w' => Below w3.heap.size w3 w') (ds:=[]) (lb 10 0x0) (by kernel_rfl) rfl (by kernel_rfl) (below_drew1 (Below.refl _ _)) (fun hHeld => ?_)
  refine pu_ ?_ ?_ 0 (some 28) (lb 10 0x1) ?_
  refine pu_ ?_ ?_ 1 (some 29) (lb 10 0x3) ?_
  refine pu_ ?_ ?_ 2 (some 30) (lb 10 0x7) ?_
  refine pu_ ?_ ?_ 6 (some 34) (lb 10 0x47) ?_
  refine ta_ ?_ ?_ 3 (some 31) (lb 10 0x4f) hHeld ?_ (y:=by rintro w' hS;have d0:=(blk_cell (blk_below HX3.out hS) 0).trans rfl;have d1:=(blk_cell (blk_below HX3.out hS) 1).trans rfl;have d2:=(blk_cell (blk_below HX3.out hS) 2).trans rfl;have d3:=(blk_cell (blk_below HX3.out hS) 3).trans rfl;go_simp;with_reducible rfl)
  refine pu_ ?_ ?_ 4 (some 32) (lb 10 0x5f) ?_
  refine pu_ ?_ ?_ 5 (some 33) (lb 10 0x7f) ?_
  refine ta_ ?_ ?_ 7 (some 35) (lb 10 0xff) hHeld ?_ (y:=by rintro w' hS;have d0:=(blk_cell (blk_below HX3.out hS) 0).trans rfl;have d1:=(blk_cell (blk_below HX3.out hS) 1).trans rfl;have d2:=(blk_cell (blk_below HX3.out hS) 2).trans rfl;have d3:=(blk_cell (blk_below HX3.out hS) 3).trans rfl;go_simp;with_reducible rfl)
  refine on_ 8 (some 36) (lb 10 0x1ff) (fun K hK => ?_)
  (refine goesC_ Try.func50 (by kernel_rfl) rfl (by rfl) rfl rfl (endsR_c k g wd M lo As dr lt ii _ (HC3.out.below_ hHeld) HQ.out (Kd.C_below HCS.out hHeld) HL8.out HI2.out) (by simp [Act.eval,HLT.out]) ?_;rintro e w9 ⟨⟨be,rfl,hbe,hbl⟩,hb9⟩;rw [← HN1.out];refine ⟨_,rfl,?_⟩;have HQ9:=Aside0.mk (below_then hHeld hHeld.size hb9);have HBE:=Aside0.mk hbe;clear hbe hbl hb9;refine hK.out _ _ HQ9.out (fun hHeld => ?_))
  clear hK K
  refine nm_ ?_ (some 36) ?_
  refine pu_ ?_ ?_ 9 (some 6) (lb 10 0x3ff) ?_
  refine done_ (by kernel_rfl) ?_
  rename World => w4
  have HX4:=Aside0.mk (blk_below HX3.out hHeld)
  have HC4:=Aside0.mk (HC3.out.below_ hHeld)
  have HB4:=Aside0.mk (below_then HB3.out HB3.out.size hHeld)
  obtain ⟨adr,eadr,hrc⟩:=at_int HCR3.out (dn - 1) hy1
  rw [HYR.out] at hrc
  have HRC4:=Aside0.mk (pw_cell_below hHeld hrc)
  clear hrc
  cases eadr
  have x2c : w4.cell? ⟨x0,2,none⟩ = some (.int .i64 (ii : Int)):=(blk_cell HX4.out 2).trans rfl
  clear hHeld HQ9 HX3 HC3 HB3 HCS hsl e1
  go_wp2
  clear x2c
  go_loopw [8,7] (fun kv l wr => ∃ m : Nat,m ≤ jj + 1 - ii ∧ kv = .int .i64 ((ii + m : Nat) : Int) ∧ Aside0 (kInt.R 3 wr w4.heap.size (fun _ => True) l (pivN g wd rn dn ii jj m)) ∧ Aside0 (Below w4.heap.size w4 wr)) (fun kv _ _ => jj + 1 - (intOf kv).toNat)
  case atStart => exact ⟨0,Nat.zero_le _,rfl,⟨Kd.R_nil _ _ _ _ _⟩,⟨Below.refl _ _⟩⟩
  case round =>
    obtain ⟨m,hm,rfl,HR,HB⟩:=hrel
    rename World => wm
    obtain ⟨Ar,cr,rfl⟩:=Kd.R_slice HR.out
    have x3c : wm.cell? ⟨x0,3,none⟩ = some (.int .i64 (jj : Int)):=(blk_cell (blk_below HX4.out HB.out) 3).trans rfl
    by_cases hml : ii + m ≤ jj
    · have m2 : ((ii + m : Nat) : Int) ≤ (jj : Int):=by omega
      have HPL:=Lib.hid (pivN_len g wd rn dn ii jj m)
      have HSU:=Lib.hid (pivN_succ g wd rn dn ii jj m)
      obtain ⟨pl,hpl⟩ : ∃ pl,pl = pivN g wd rn dn ii jj m:=⟨_,rfl⟩
      rw [← hpl] at HR HPL HSU ⊢
      obtain ⟨km,hkm⟩ : ∃ km,km = ii + m:=⟨_,rfl⟩
      rw [← hkm] at m2 hml HSU ⊢
      have HKM:=Lib.hid hkm
      have hpis : isPiv g wd rn dn ii jj km = (symV g wd y km jj && partV g wd rn ((dn - 1 : Nat) : Int) ii km):=by unfold isPiv;rw [← HYE.out]
      rw [hpis] at HSU
      obtain ⟨sv,hsv⟩ : ∃ sv,symV g wd y km jj = sv:=⟨_,rfl⟩
      obtain ⟨qv,hqv⟩ : ∃ qv,partV g wd rn ((dn - 1 : Nat) : Int) ii km = qv:=⟨_,rfl⟩
      rw [hsv,hqv] at HSU
      have HSV:=Lib.hid ((HM.out.sym y km jj).trans hsv)
      have hev:=(HEV.out km (by omega)).trans hqv
      have HEC:=Aside0.mk ((HBE.out.below HB.out).cell' (i:=km) (by rw [endsN_len];omega) hev)
      have HRm:=Aside0.mk (pw_cell_below HB.out HRC4.out)
      have HXm:=Aside0.mk (blk_below HX4.out HB.out)
      have HCm:=Aside0.mk (HC4.out.below_ HB.out)
      have k2 : (km : Int) < (n1 : Int):=by have:=HN1.out;omega
      have k3 : ((dn - 1 : Nat) : Int) < (xr.right.length : Int):=by omega
      have e1 : IntKind.i64.wrap ((dn : Int) - 1) = ((dn - 1 : Nat) : Int):=by rw [IntWalk.i64_in _ (by omega)];omega
      clear hpis hsv hqv hpl hkm hev
      go_upto_region 9 with (fail)
      clear x3c m2
      cases qv
      · refine start_ (n:=18) (S:=fun w' => Below wm.heap.size wm w') (ds:=[]) (lb 18 0x0) (by kernel_rfl) rfl (by kernel_rfl) (below_drew1 (Below.refl _ _)) (fun hHeld => ?_)
        refine pu_ ?_ ?_ 0 (some 45) (lb 18 0x1) ?_
        refine pu_ ?_ ?_ 1 (some 46) (lb 18 0x3) ?_
        refine pu_ ?_ ?_ 2 (some 47) (lb 18 0x7) ?_
        refine ta_ ?_ ?_ 3 (some 48) (lb 18 0xf) hHeld ?_ (y:=by rintro w' hS;have d0:=(blk_cell (blk_below HXm.out hS) 0).trans rfl;have d1:=(blk_cell (blk_below HXm.out hS) 1).trans rfl;have d2:=(blk_cell (blk_below HXm.out hS) 2).trans rfl;have d3:=(blk_cell (blk_below HXm.out hS) 3).trans rfl;have d4:=cell_at hS HEC.out;have d5:=cell_at hS HRm.out;go_simp;with_reducible rfl)
        refine pu_ ?_ ?_ 4 (some 49) (lb 18 0x1f) ?_
        refine po_ ?_ 5 (some 50) (lb 18 0x3f) ?_
        refine po_ ?_ 6 (some 51) (lb 18 0x7f) ?_
        refine po_ ?_ 7 (some 52) (lb 18 0xff) ?_
        refine po_ ?_ 12 (some 57) (lb 18 0x10ff) ?_
        refine po_ ?_ 13 (some 58) (lb 18 0x30ff) ?_
        refine po_ ?_ 8 (some 53) (lb 18 0x31ff) ?_
        refine po_ ?_ 9 (some 54) (lb 18 0x33ff) ?_
        refine po_ ?_ 10 (some 55) (lb 18 0x37ff) ?_
        refine po_ ?_ 11 (some 56) (lb 18 0x3fff) ?_
        refine po_ ?_ 14 (some 59) (lb 18 0x7fff) ?_
        refine po_ ?_ 15 (some 60) (lb 18 0xffff) ?_
        refine on_ 16 (some 61) (lb 18 0x1ffff) (fun K hK => ?_)
        refine off_ (by rfl) ?_
        refine hK.out _ _ hHeld (fun hHeld => ?_)
        clear hK K
        refine nm_ ?_ (some 61) ?_
        refine pu_ ?_ ?_ 17 (some 62) (lb 18 0x3ffff) ?_
        refine done_ (by kernel_rfl) ?_
        have HR5:=Aside0.mk (Kd.R_below HR.out hHeld)
        have HB5:=Aside0.mk (below_then HB.out HB.out.size hHeld)
        clear hHeld
        go_wp2
        go_roundw
        case rel => exact ⟨m + 1,by have:=HKM.out;omega,by rw [HKM.out];go_num,by rw [HSU.out];simpa using HR5,HB5⟩
        case measure => simp [intOf];omega
      · refine start_ (n:=18) (S:=fun w' => Below wm.heap.size wm w') (ds:=[]) (lb 18 0x0) (by kernel_rfl) rfl (by kernel_rfl) (below_drew1 (Below.refl _ _)) (fun hHeld => ?_)
        refine pu_ ?_ ?_ 0 (some 45) (lb 18 0x1) ?_
        refine pu_ ?_ ?_ 1 (some 46) (lb 18 0x3) ?_
        refine pu_ ?_ ?_ 2 (some 47) (lb 18 0x7) ?_
        refine ta_ ?_ ?_ 3 (some 48) (lb 18 0xf) hHeld ?_ (y:=by rintro w' hS;have d0:=(blk_cell (blk_below HXm.out hS) 0).trans rfl;have d1:=(blk_cell (blk_below HXm.out hS) 1).trans rfl;have d2:=(blk_cell (blk_below HXm.out hS) 2).trans rfl;have d3:=(blk_cell (blk_below HXm.out hS) 3).trans rfl;have d4:=cell_at hS HEC.out;have d5:=cell_at hS HRm.out;go_simp;with_reducible rfl)
        refine pu_ ?_ ?_ 4 (some 49) (lb 18 0x1f) ?_
        refine pu_ ?_ ?_ 5 (some 50) (lb 18 0x3f) ?_
        refine pu_ ?_ ?_ 6 (some 51) (lb 18 0x7f) ?_
        refine pu_ ?_ ?_ 7 (some 52) (lb 18 0xff) ?_
        refine pu_ ?_ ?_ 12 (some 57) (lb 18 0x10ff) ?_
        refine pu_ ?_ ?_ 13 (some 58) (lb 18 0x30ff) ?_
        refine ta_ ?_ ?_ 8 (some 53) (lb 18 0x31ff) hHeld ?_ (y:=by rintro w' hS;have d0:=(blk_cell (blk_below HXm.out hS) 0).trans rfl;have d1:=(blk_cell (blk_below HXm.out hS) 1).trans rfl;have d2:=(blk_cell (blk_below HXm.out hS) 2).trans rfl;have d3:=(blk_cell (blk_below HXm.out hS) 3).trans rfl;have d4:=cell_at hS HEC.out;have d5:=cell_at hS HRm.out;go_simp;with_reducible rfl)
        refine pu_ ?_ ?_ 9 (some 54) (lb 18 0x33ff) ?_
        refine pu_ ?_ ?_ 10 (some 55) (lb 18 0x37ff) ?_
        refine ta_ ?_ ?_ 11 (some 56) (lb 18 0x3fff) hHeld ?_ (y:=by rintro w' hS;have d0:=(blk_cell (blk_below HXm.out hS) 0).trans rfl;have d1:=(blk_cell (blk_below HXm.out hS) 1).trans rfl;have d2:=(blk_cell (blk_below HXm.out hS) 2).trans rfl;have d3:=(blk_cell (blk_below HXm.out hS) 3).trans rfl;have d4:=cell_at hS HEC.out;have d5:=cell_at hS HRm.out;go_simp;with_reducible rfl)
        refine ta_ ?_ ?_ 14 (some 59) (lb 18 0x7fff) hHeld ?_ (y:=by rintro w' hS;have d0:=(blk_cell (blk_below HXm.out hS) 0).trans rfl;have d1:=(blk_cell (blk_below HXm.out hS) 1).trans rfl;have d2:=(blk_cell (blk_below HXm.out hS) 2).trans rfl;have d3:=(blk_cell (blk_below HXm.out hS) 3).trans rfl;have d4:=cell_at hS HEC.out;have d5:=cell_at hS HRm.out;go_simp;with_reducible rfl)
        refine pu_ ?_ ?_ 15 (some 60) (lb 18 0xffff) ?_
        refine on_ 16 (some 61) (lb 18 0x1ffff) (fun K hK => ?_)
        (refine goesC_ Try.func27 (by kernel_rfl) rfl (by rfl) rfl rfl (symR_c k g wd M lo y km jj _ (HCm.out.below_ hHeld) HQ.out HSV.out) (by simp [Act.eval]) ?_;rintro e w9 ⟨rfl,hb9⟩;refine ⟨_,rfl,?_⟩;have HQ9:=Aside0.mk (below_then hHeld hHeld.size hb9);clear hb9;refine hK.out _ _ HQ9.out (fun hHeld => ?_))
        clear hK K
        refine nm_ ?_ (some 61) ?_
        refine pu_ ?_ ?_ 17 (some 62) (lb 18 0x3ffff) ?_
        refine done_ (by kernel_rfl) ?_
        rename World => w5
        have HR5:=Aside0.mk (Kd.R_below HR.out hHeld)
        have HB5:=Aside0.mk (below_then HB.out HB.out.size hHeld)
        clear hHeld
        cases sv
        · go_wp2
          go_roundw
          case rel => exact ⟨m + 1,by have:=HKM.out;omega,by rw [HKM.out];go_num,by rw [HSU.out];simpa using HR5,HB5⟩
          case measure => simp [intOf];omega
        · go_wp2_with (at_builtin;refine app_int (w0:=w4) (base:=w4.heap.size) (p:=(km : Int)) (ok:=fun _ => True) rfl rfl HR5.out HB5.out HB5.out.size (by have:=HPL.out;omega) (fun _ _ => trivial) rfl (by simp [Act.eval]) ?_;intro v7 w7 A7;obtain ⟨A',c',rfl⟩:=A7.shape;have HR7:=Aside0.mk A7.row;have HB7:=Aside0.mk A7.below;clear A7)
          go_roundw
          case rel => exact ⟨m + 1,by have:=HKM.out;omega,by rw [HKM.out];go_num,by rw [HSU.out];simpa using HR7,HB7⟩
          case measure => simp [intOf];omega
    · have hme : m = jj + 1 - ii:=by omega
      have m2 : ¬ ((ii + m : Nat) : Int) ≤ (jj : Int):=by omega
      have HE2 : Aside0 (PivEnd W L (.returned (.slice Ar (pivN g wd rn dn ii jj (jj + 1 - ii)).length cr)) wm):=⟨by rw [HLE.out];exact ⟨Ar,cr,rfl,by have:=HR.out;rw [hme] at this;exact Kd.R_lower this HB4.out.size⟩⟩
      rw [hme]
      clear hme
      go_wp2
      go_ret
      exact ⟨HE2.out,below_then HB4.out HB4.out.size HB.out⟩
end Go.Proofs.Ytmkgcjhimajgiaa


set_option linter.unusedVariables false
set_option linter.unusedSimpArgs false
namespace Go.Proofs.Ytmkgcjhimajgiaa
open Go.RowKit Go.Proofs.YtmkgcjhimajgiaaW.PrintWords Go.Proofs.YtmkgcjhimajgiaaW.PrintLast Go.Conc

/-- The kind of a row of rows that are written: of each row its block. -/
def kBR (m : Nat) : Kd Nat:=Kd.scalar (fun b => .slice (some ⟨b,0,none⟩) m m) (fun _ => rfl)
theorem infoBR : (Try.prog.info? 57).map (fun i => (i.zero,i.size,i.bytes)) = some (some (.slice none 0 0),1,24):=by kernel_rfl
theorem app_br_step {ops : Array Oper} {o : Oper} {a : Act} {Q : Exit → Act → World → Prop} {Kc : Act → World → Prop} {base : Nat} {w0 W : World} {v : Value} {ok : Nat → Prop} {s x : Operand} {m : Nat} {xs : List Nat} {p : Nat} (hw : Region.wanted o (yielded ops a.tmps) = true) (ho : o.op = .call { callee:=.builtin .append,args:=#[s,x],argTypes:=#[103,103] })
    (HO : (kBR m).R 57 W base ok v xs) (HB : Below base w0 W) (hbase : base ≤ W.heap.size) (hl : xs.length + 1 ≤ 1000000000) (hfresh : ∀ k,W.heap.size ≤ k → ok k) (hs : a.eval s = v) (hx : a.eval x = .slice (some ⟨W.heap.size,0,none⟩) 1 1)
    (h : ∀ v1 w1,Appd (kBR m) 57 w0 W base ok v (xs ++ [p]) v1 w1 → Kc (a.put o.dst v1) w1) :
    if Region.wanted o (yielded ops a.tmps) = true then Oper.wp Try.prog o a (W.alloc (.cells #[.slice (some ⟨p,0,none⟩) m m] 57)) Kc Q else Kc (a.put o.dst undef) (W.alloc (.cells #[.slice (some ⟨p,0,none⟩) m m] 57)) :=
  Kd.R_append_step (kBR m) base hw s x 103 57 _ 24 ho Try.underlying103 infoBR rfl (by show 0 < 1;decide) (by decide) v xs p [.slice (some ⟨p,0,none⟩) m m] ok (fun _ => False) hs hx rfl (fun _ h => h.elim) hfresh HO HB hbase (by omega) (fun v1 w1 h1 h2 h3 h4 => h v1 w1 ⟨h1,h2,h3,h4⟩)
theorem at_br {m : Nat} {w : World} {A : Option Addr} {n : Nat} {xs : List Nat} (h : (kBR m).C w A n xs) (i : Nat) (hi : i < xs.length) : ∃ ad,A = some ad ∧ w.cell? (ad.add i) = some (.slice (some ⟨xs[i],0,none⟩) m m):=by
  obtain ⟨ad,c,e,_,rfl,hc⟩:=C_at h i hi
  exact ⟨ad,e,by simpa [kBR,Kd.scalar] using hc 0 _ rfl⟩
section
variable {ops : Array Oper} {rest : List Oper} {oi : Oper} {a : Act} {Q : Exit → Act → World → Prop} {N : Option Tmp}
end
/-- The chart's struct,its rows one behind the other. -/
structure MR (v0 W : World) (lo m pt : Nat) (X1 X2 X3 X4 vS : Value) (wd : List Int) (bs : List Nat) (M : Tab) : Prop where
  tab : W.heap[pt]? = some (.cells #[X1,X2,X3,X4,vS] 105 (0,0))
  wr : kInt.R 3 W lo (fun _ => True) X4 wd
  below : Below lo v0 W
  row : (kBR m).R 57 W lo (fun _ => True) vS bs
  rows : ∀ i (h : i < bs.length),BB W bs[i] (rowT M (i : Int))
  nodup : bs.Nodup
  low : ∀ b ∈ bs,lo ≤ b
  sh : ShT bs.length m M
  pl : lo ≤ pt
section
variable {v0 W W' : World} {lo m pt : Nat} {X1 X2 X3 X4 vS : Value} {wd : List Int} {bs : List Nat} {M : Tab}
theorem MR.lt (h : MR v0 W lo m pt X1 X2 X3 X4 vS wd bs M) {b : Nat} (hb : b ∈ bs) : b < W.heap.size:=by
  obtain ⟨i,hi,rfl⟩:=List.getElem_of_mem hb
  exact blk_lt (h.rows i hi)
theorem MR.below_ (h : MR v0 W lo m pt X1 X2 X3 X4 vS wd bs M) (hb : Below W.heap.size W W') (hl : lo ≤ W.heap.size) : MR v0 W' lo m pt X1 X2 X3 X4 vS wd bs M :=
  ⟨blk_below h.tab hb,Kd.R_below h.wr hb,below_then h.below hl hb,Kd.R_below h.row hb,fun i hi => (h.rows i hi).below hb,h.nodup,h.low,h.sh,h.pl⟩
theorem MR.grow (h : MR v0 W lo m pt X1 X2 X3 X4 vS wd bs M) {v1 : Value} {w1 : World} (A : Appd (kBR m) 57 v0 (W.alloc (.cells (madeCells #[.bool false] m) 4)) lo (fun _ => True) vS (bs ++ [W.heap.size]) v1 w1) (hl : lo ≤ W.heap.size) :
    MR v0 (w1.setCell ⟨pt,4,none⟩ v1) lo m pt X1 X2 X3 X4 v1 wd (bs ++ [W.heap.size]) (M ++ [List.replicate m false]):=by
  have hb1:=below_alloc (Below.refl W.heap.size W) (.cells (madeCells #[.bool false] m) 4)
  have hR:=Kd.R_below h.row hb1
  have ht:=blk_grown (blk_below h.tab hb1) A.grown (Kd.R_ne hR (blk_below h.tab hb1) (by decide))
  have bbs : ∀ {q : Nat} {x : List Bool},BB (W.alloc (.cells (madeCells #[.bool false] m) 4)) q x → BB (w1.setCell ⟨pt,4,none⟩ v1) q x:=fun hq => BB.far (blk_grown hq A.grown (Kd.R_ne hR hq (by decide))) (by
    have:=blk_ne (blk_grown hq A.grown (Kd.R_ne hR hq (by decide))) ht (by decide)
    exact this) _
  refine ⟨blk_set ht 4 v1,Kd.R_set (Kd.R_over (Kd.R_below h.wr hb1) hR (by decide) A.grown) ht (show ∀ q,q ∈ [3] → q ≠ 105 by decide) 4 v1,below_set A.below h.pl 4 v1,Kd.R_set A.row ht (show ∀ q,q ∈ [57] → q ≠ 105 by decide) 4 v1,fun i hi => ?_,?_,fun b hb => ?_,⟨by simp [h.sh.1],fun r hr => ?_⟩,h.pl⟩
  · by_cases hib : i < bs.length
    · rw [List.getElem_append_left hib]
      have e : rowT (M ++ [List.replicate m false]) (i : Int) = rowT M (i : Int):=by
        have hM : i < M.length:=by rw [h.sh.1];exact hib
        rw [rowT_at (by simp;omega),rowT_at hM,List.getElem_append_left hM]
      rw [e]
      exact bbs ((h.rows i hib).below hb1)
    · have hie : i = bs.length:=by simp at hi;omega
      subst hie
      have e : rowT (M ++ [List.replicate m false]) (bs.length : Int) = List.replicate m false:=by
        rw [rowT_at (by simp [h.sh.1]),List.getElem_append_right (by rw [h.sh.1];exact Nat.le_refl _)]
        simp
      rw [e,List.getElem_append_right (Nat.le_refl _)]
      simp only [Nat.sub_self,List.getElem_cons_zero]
      exact bbs (BB.new W m)
  · refine List.nodup_append.2 ⟨h.nodup,by simp,fun a ha b hb => ?_⟩
    have:=h.lt ha
    have e:=List.mem_singleton.1 hb
    omega
  · rcases List.mem_append.1 hb with hb | hb
    · exact h.low b hb
    · rw [List.mem_singleton.1 hb];exact hl
  · rcases List.mem_append.1 hr with hr | hr
    · exact h.sh.2 r hr
    · rw [List.mem_singleton.1 hr];simp
theorem MR.mid (h : MR v0 W lo m pt X1 X2 X3 X4 vS wd bs M) {v1 : Value} {w1 : World} {p : Nat} (A : Appd (kBR m) 57 v0 (W.alloc (.cells (madeCells #[.bool false] m) 4)) lo (fun _ => True) vS (bs ++ [p]) v1 w1) :
    w1.heap[pt]? = some (.cells #[X1,X2,X3,X4,vS] 105 (0,0)):=by
  have hb1:=below_alloc (Below.refl W.heap.size W) (.cells (madeCells #[.bool false] m) 4)
  exact blk_grown (blk_below h.tab hb1) A.grown (Kd.R_ne (Kd.R_below h.row hb1) (blk_below h.tab hb1) (by decide))
theorem MR.tt (h : MR v0 W lo m pt X1 X2 X3 X4 vS wd bs M) (hn : 0 < bs.length) : ∃ g c,vS = .slice (some ⟨g,0,none⟩) bs.length c ∧ TT W lo g bs m M:=by
  obtain ⟨g,c,rfl,hg,hgl,cells,hc⟩:=Kd.R_form h.row hn
  obtain ⟨A,c',e,_,hC⟩:=Kd.R_reads h.row
  injection e with e1 _ _
  subst e1
  refine ⟨g,c,rfl,⟨fun i hi => ?_,h.rows,h.nodup,fun hgb => ?_,h.sh,hg,h.low⟩⟩
  · obtain ⟨ad,e,hx⟩:=at_br hC i hi
    cases e
    rw [add0_] at hx
    exact hx
  · obtain ⟨i,hi,e⟩:=List.getElem_of_mem hgb
    exact blk_ne hc (h.rows i hi) (by decide) e.symm
end
/-- The chart,all its rows made,while cells are set. -/
structure RQ (v0 W : World) (k : RB) (g : Gram) (wd : List Int) (M : Tab) : Prop where
  o : W.heap[k.b]? = some (.cells #[.slice k.A1 g.terms.length k.c1,.slice k.A2 g.names.length k.c2,.slice k.A3 g.rules.length k.c3,.slice k.B wd.length k.cb,.slice (some ⟨k.h,0,none⟩) (nsym g * (wd.length + 1)) k.ch] 105 (0,0))
  rep : RepG v0 g k.A1 k.A2 k.A3 k.c1 k.c2 k.c3
  below : Below v0.heap.size v0 W
  wr : kInt.R 3 W v0.heap.size (fun _ => True) (.slice k.B wd.length k.cb) wd
  t : TT W v0.heap.size k.h k.bs (wd.length + 1) M
  bl : k.bs.length = nsym g * (wd.length + 1)
section
variable {v0 W W' : World} {k : RB} {g : Gram} {wd : List Int} {M : Tab}
theorem RQ.rc (h : RQ v0 W k g wd M) : RC W v0.heap.size k g wd M:=⟨h.o,h.rep.below_ h.below,(Kd.R_reads' h.wr).2.2,h.t,h.bl⟩
theorem RQ.below_ (h : RQ v0 W k g wd M) (hb : Below W.heap.size W W') : RQ v0 W' k g wd M:=⟨blk_below h.o hb,h.rep,below_then h.below h.below.size hb,Kd.R_below h.wr hb,h.t.below hb,h.bl⟩
theorem RQ.put (h : RQ v0 W k g wd M) {ix j : Nat} (hi : ix < k.bs.length) : RQ v0 (W.setCell ⟨k.bs[ix],j,none⟩ (.bool true)) k g wd (setRow M (ix : Int) ((rowT M (ix : Int)).set j true)):=by
  have hr:=h.t.row ix hi
  have hr' : W.heap[k.bs[ix]]? = some (.cells ((rowT M (ix : Int)).map Value.bool).toArray 4 (0,0)):=hr
  exact ⟨blk_far h.o (blk_ne h.o hr' (by decide)) _,h.rep,below_set h.below (h.t.lo2 _ (List.getElem_mem hi)) _ _,Kd.R_set h.wr hr' (show ∀ q,q ∈ [3] → q ≠ 4 by decide) j _,h.t.set hi j true,h.bl⟩
end
theorem sndT_none {g : Gram} {wd : List Int} : SndT g wd (List.replicate (nsym g * (wd.length + 1)) (List.replicate (wd.length + 1) false)):=by
  refine ⟨⟨by simp,fun r hr => by rw [List.eq_of_mem_replicate hr];simp⟩,fun s i j h => ?_⟩
  obtain ⟨h0,h1,h2,h3,h4⟩:=h
  unfold getT at h4
  rw [atT_eq h0,rowT_at (by rw [List.length_replicate];exact atT_lt h0 h1 h2),List.getElem_replicate,getB_replicate] at h4
  cases h4
theorem SB.put {g : Gram} {wd : List Int} {M : Tab} (hg : goodF g = true) (h : SndT g wd M) {r i j : Nat} (hr : r < g.rules.length) (hi : i ≤ wd.length) (hj : j ≤ wd.length) (hrow : RowR (SB g wd M) (rightR g r) i j) {s : Int} {a b : Nat} (k : SB g wd M s a b) : SB g wd (putT wd.length M (leftR g r) i j) s a b:=by
  have h2:=sndT_put hg h hr hi hj hrow
  obtain ⟨h0,h1⟩:=left_in hg hr
  have k2:=(spanB_iff hg h s a b).1 k
  refine (spanB_iff hg h2 s a b).2 ?_
  unfold SymOf at k2 ⊢
  split at k2
  · rename_i ht
    rw [if_pos ht];exact k2
  · rename_i ht
    rw [if_neg ht]
    exact (hasT_put h (by omega) h1 hi hj s a b).2 (.inl k2)
end Go.Proofs.Ytmkgcjhimajgiaa


set_option linter.unusedVariables false
set_option linter.unusedSimpArgs false
namespace Go.Proofs.Ytmkgcjhimajgiaa
open Go.RowKit Go.Proofs.YtmkgcjhimajgiaaW.PrintWords Go.Proofs.YtmkgcjhimajgiaaW.PrintLast Go.Conc

set_option maxRecDepth 100000 in
set_option maxHeartbeats 16000000 in
theorem ofR_form (g : Gram) (A1 A2 A3 : Option Addr) (c1 c2 c3 : Nat) (B : Option Addr) (d : Nat) (l : List Int) (w : World) (hg : RepG w g A1 A2 A3 c1 c2 c3) (hz : Sized g) (hgd : goodF g = false) :
    Calls Try.prog 18 #[.agg #[.slice A1 g.terms.length c1,.slice A2 g.names.length c2,.slice A3 g.rules.length c3],.slice B l.length d] w fun e w' => e = .returned (.tuple #[.pointer none,.int .i64 16]) ∧ Below w.heap.size w w':=by
  obtain ⟨v0,hv0⟩ : ∃ v0 : World,v0 = w.alloc (.cells #[.slice A1 g.terms.length c1,.slice A2 g.names.length c2,.slice A3 g.rules.length c3] 25 (0,0)):=⟨_,rfl⟩
  have HB0 : Aside0 (Below w.heap.size w v0):=⟨by rw [hv0];exact below_alloc (Below.refl _ _) _⟩
  have HP0 : Aside0 (v0.heap[w.heap.size]? = some (.cells #[.slice A1 g.terms.length c1,.slice A2 g.names.length c2,.slice A3 g.rules.length c3] 25 (0,0))):=⟨by rw [hv0];exact blk_new w _⟩
  have HG0:=Aside0.mk (hg.below_ HB0.out)
  have HZ:=Aside0.mk hz
  have HGD:=Lib.hid hgd
  clear hg hz hgd
  go_enter Try.func18,Try.ntmps18
  go_upto_region 1 with (fail)
  simp only [← hv0]
  clear hv0
  refine pl_start ?_
  refine pl_held (B:=v0.heap.size) (v:=v0) (Below.refl _ _) (fun hHeld => ?_)
  refine pp_ ?_ ?_ ?_ (y:=by have d0:=(blk_cell (blk_below HP0.out hHeld) 0).trans rfl;have d1:=(blk_cell (blk_below HP0.out hHeld) 1).trans rfl;have d2:=(blk_cell (blk_below HP0.out hHeld) 2).trans rfl;go_simp;rfl)
  refine goesCL_ (N:=(some 16)) Try.func28 (by kernel_rfl) rfl (by rfl) rfl rfl (good1_v g A1 A2 A3 c1 c2 c3 _ (HG0.out.below_ hHeld) HZ.out HGD.out) (by simp [Act.eval]) ?_
  rintro e x1_1 ⟨rfl,hb1_1⟩
  refine ⟨_,rfl,?_⟩
  simp only [Act.put,List.setIfInBounds_toArray,List.set_cons_zero,List.set_cons_succ]
  refine pl_held (B:=v0.heap.size) (v:=v0) (below_then hHeld hHeld.size hb1_1) (fun hHeld => ?_)
  refine pp_ ?_ ?_ ?_
  refine pl_nil ?_
  go_wp2
  go_ret2
  exact ⟨rfl,below_then HB0.out HB0.out.size hHeld⟩
set_option maxRecDepth 100000 in
set_option maxHeartbeats 16000000 in
theorem ofR_large (g : Gram) (A1 A2 A3 : Option Addr) (c1 c2 c3 : Nat) (B : Option Addr) (d : Nat) (l : List Int) (w : World) (hg : RepG w g A1 A2 A3 c1 c2 c3) (hz : Sized g) (hgd : goodF g = true) (hl : 40 < l.length) :
    Calls Try.prog 18 #[.agg #[.slice A1 g.terms.length c1,.slice A2 g.names.length c2,.slice A3 g.rules.length c3],.slice B l.length d] w fun e w' => e = .returned (.tuple #[.pointer none,.int .i64 14]) ∧ Below w.heap.size w w':=by
  obtain ⟨v0,hv0⟩ : ∃ v0 : World,v0 = w.alloc (.cells #[.slice A1 g.terms.length c1,.slice A2 g.names.length c2,.slice A3 g.rules.length c3] 25 (0,0)):=⟨_,rfl⟩
  have HB0 : Aside0 (Below w.heap.size w v0):=⟨by rw [hv0];exact below_alloc (Below.refl _ _) _⟩
  have HP0 : Aside0 (v0.heap[w.heap.size]? = some (.cells #[.slice A1 g.terms.length c1,.slice A2 g.names.length c2,.slice A3 g.rules.length c3] 25 (0,0))):=⟨by rw [hv0];exact blk_new w _⟩
  have HG0:=Aside0.mk (hg.below_ HB0.out)
  have HZ:=Aside0.mk hz
  have HGD:=Lib.hid hgd
  have d1 : decide ((40 : Int) < (l.length : Int)) = true:=decide_eq_true (by omega)
  have d2 : (40 : Int) < (l.length : Int):=by omega
  clear hg hz hgd
  go_enter Try.func18,Try.ntmps18
  go_upto_region 1 with (fail)
  simp only [← hv0]
  clear hv0
  refine pl_start ?_
  refine pl_held (B:=v0.heap.size) (v:=v0) (Below.refl _ _) (fun hHeld => ?_)
  refine pp_ ?_ ?_ ?_ (y:=by have d0:=(blk_cell (blk_below HP0.out hHeld) 0).trans rfl;have d1:=(blk_cell (blk_below HP0.out hHeld) 1).trans rfl;have d2:=(blk_cell (blk_below HP0.out hHeld) 2).trans rfl;go_simp;rfl)
  refine goesCL_ (N:=(some 16)) Try.func28 (by kernel_rfl) rfl (by rfl) rfl rfl (good1_v g A1 A2 A3 c1 c2 c3 _ (HG0.out.below_ hHeld) HZ.out HGD.out) (by simp [Act.eval]) ?_
  rintro e x1_1 ⟨rfl,hb1_1⟩
  refine ⟨_,rfl,?_⟩
  simp only [Act.put,List.setIfInBounds_toArray,List.set_cons_zero,List.set_cons_succ]
  refine pl_held (B:=v0.heap.size) (v:=v0) (below_then hHeld hHeld.size hb1_1) (fun hHeld => ?_)
  refine pp_ ?_ ?_ ?_
  refine pl_nil ?_
  go_wp2
  go_ret2
  exact ⟨rfl,below_then HB0.out HB0.out.size hHeld⟩
def OfREnd (w : World) (g : Gram) (l : List Int) (e : Ending) (w' : World) : Prop:=∃ (k : RB) (M : Tab) (lo : Nat),e = .returned (.tuple #[.pointer (some ⟨k.b,0,none⟩),.int .i64 0]) ∧ RC w' lo k g l M ∧ Full g l M
/-- What has been gone through. -/
def DoneR (g : Gram) (n : Nat) (a r j : Nat) : Nat → Nat → Nat → Prop:=fun r' i' j' => r' < g.rules.length ∧ i' ≤ n ∧ j' ≤ n ∧ (a < i' ∨ (a = i' ∧ (r' < r ∨ (r' = r ∧ j' < j))))
set_option maxRecDepth 100000 in
set_option maxHeartbeats 16000000 in
theorem ofR_yes (g : Gram) (A1 A2 A3 : Option Addr) (c1 c2 c3 : Nat) (B : Option Addr) (d : Nat) (l : List Int) (w : World) (hg : RepG w g A1 A2 A3 c1 c2 c3) (hz : Sized g) (hr : kInt.C w B l.length l) (hgd : goodF g = true) (hl : l.length ≤ 40) :
    Calls Try.prog 18 #[.agg #[.slice A1 g.terms.length c1,.slice A2 g.names.length c2,.slice A3 g.rules.length c3],.slice B l.length d] w fun e w' => OfREnd w g l e w' ∧ Below w.heap.size w w':=by
  obtain ⟨q1,q2,q3,q4⟩:=goodF_small hgd
  obtain ⟨x0,hx0⟩ : ∃ x0,x0 = w.heap.size:=⟨_,rfl⟩
  obtain ⟨v0,hv0⟩ : ∃ v0 : World,v0 = w.alloc (.cells #[.slice A1 g.terms.length c1,.slice A2 g.names.length c2,.slice A3 g.rules.length c3] 25 (0,0)):=⟨_,rfl⟩
  have HB0 : Aside0 (Below w.heap.size w v0):=⟨by rw [hv0];exact below_alloc (Below.refl _ _) _⟩
  have HP0 : Aside0 (v0.heap[x0]? = some (.cells #[.slice A1 g.terms.length c1,.slice A2 g.names.length c2,.slice A3 g.rules.length c3] 25 (0,0))):=⟨by rw [hv0,hx0];exact blk_new w _⟩
  have HG0:=Aside0.mk (hg.below_ HB0.out)
  have HL0:=Aside0.mk (Kd.C_below hr HB0.out)
  have HZ:=Aside0.mk hz
  have HGD:=Lib.hid hgd
  have HQ : Aside0 (Sm40 g l):=⟨⟨q1,q3,hl⟩⟩
  have d1 : decide ((40 : Int) < (l.length : Int)) = false:=decide_eq_false (by omega)
  have d2 : ¬ (40 : Int) < (l.length : Int):=by omega
  clear hg hz hgd hr
  go_enter Try.func18,Try.ntmps18
  go_upto_region 1 with (fail)
  simp only [← hv0]
  simp only [← hx0]
  have HX0:=Lib.hid hx0
  clear hv0 hx0
  refine pl_start ?_
  refine pl_held (B:=v0.heap.size) (v:=v0) (Below.refl _ _) (fun hHeld => ?_)
  refine pp_ ?_ ?_ ?_ (y:=by have d0:=(blk_cell (blk_below HP0.out hHeld) 0).trans rfl;have d1:=(blk_cell (blk_below HP0.out hHeld) 1).trans rfl;have d2:=(blk_cell (blk_below HP0.out hHeld) 2).trans rfl;go_simp;rfl)
  refine goesCL_ (N:=(some 16)) Try.func28 (by kernel_rfl) rfl (by rfl) rfl rfl (good1_v g A1 A2 A3 c1 c2 c3 _ (HG0.out.below_ hHeld) HZ.out HGD.out) (by simp [Act.eval]) ?_
  rintro e x1_1 ⟨rfl,hb1_1⟩
  refine ⟨_,rfl,?_⟩
  simp only [Act.put,List.setIfInBounds_toArray,List.set_cons_zero,List.set_cons_succ]
  refine pl_held (B:=v0.heap.size) (v:=v0) (below_then hHeld hHeld.size hb1_1) (fun hHeld => ?_)
  refine pp_ ?_ ?_ ?_
  refine pl_nil ?_
  go_upto_region 6 with (fail)
  clear d1 d2
  have HP1:=Aside0.mk (blk_below HP0.out hHeld)
  have HG1:=Aside0.mk (HG0.out.below_ hHeld)
  have HL1:=Aside0.mk (Kd.C_below HL0.out hHeld)
  have HV1:=Aside0.mk (below_then HB0.out HB0.out.size hHeld)
  rename World => v
  clear hHeld hb1_1 HP0 HG0 HL0 HB0
  refine start_ (n:=7) (S:=fun w' => Below v.heap.size v w') (ds:=[]) (lb 7 0x0) (by kernel_rfl) rfl (by kernel_rfl) (below_drew1 (Below.refl _ _)) (fun hHeld => ?_)
  refine pu_ ?_ ?_ 2 (some 25) (lb 7 0x4) ?_
  refine ta_ ?_ ?_ 0 (some 23) (lb 7 0x5) hHeld ?_ (y:=by rintro w' hS;have d0:=(blk_cell (blk_below HP1.out hS) 0).trans rfl;have d1:=(blk_cell (blk_below HP1.out hS) 1).trans rfl;have d2:=(blk_cell (blk_below HP1.out hS) 2).trans rfl;go_simp;with_reducible rfl)
  refine on_ 1 (some 24) (lb 7 0x7) (fun K hK => ?_)
  refine va_ ?_ ?_ ?_
  have hW:=hHeld
  refine hK.out _ _ (hHeld.alloc hHeld.size _) (fun hHeld => ?_)
  clear hK K
  refine nm_ ?_ (some 24) ?_
  refine on_ 3 (some 26) (lb 7 0xf) (fun K hK => ?_)
  refine app_ints_step (base:=v.heap.size) (w0:=v) (ok:=fun _ => True) (xs:=[]) (ys:=l) (by rfl) rfl (ints_new _ _ hW.size _ trivial) hHeld hHeld.size (by simp;omega) (fun _ _ => trivial) (by rfl) (by rfl) (Kd.C_below HL1.out hHeld) ?_;intro v1 w1 hr hb1 hg hat;rw [List.nil_append] at hr;obtain ⟨A7,c7,rfl⟩:=Kd.R_slice hr;have HR7:=Aside0.mk hr;have HB7:=Aside0.mk hb1;clear hr hg hat;refine hK.out _ _ hb1 (fun hHeld => ?_)
  clear hK K
  refine nm_ ?_ (some 26) ?_
  refine pu_ ?_ ?_ 4 (some 27) (lb 7 0x1f) ?_
  refine on_ 5 (some 28) (lb 7 0x3f) (fun K hK => ?_)
  refine va_ ?_ ?_ ?_
  refine hK.out _ _ (hHeld.alloc hHeld.size _) (fun hHeld => ?_)
  clear hK K
  refine nm_ ?_ (some 28) ?_
  refine pu_ ?_ ?_ 6 (some 7) (lb 7 0x7f) ?_
  refine done_ (by kernel_rfl) ?_
  obtain ⟨pt,hpt⟩ : ∃ pt,pt = w1.heap.size:=⟨_,rfl⟩
  have HMR : Aside0 (MR v (w1.alloc (.cells #[.slice A1 g.terms.length c1,.slice A2 g.names.length c2,.slice A3 g.rules.length c3,.slice A7 l.length c7,.slice none 0 0] 105 (0,0))) v.heap.size (l.length + 1) pt (.slice A1 g.terms.length c1) (.slice A2 g.names.length c2) (.slice A3 g.rules.length c3) (.slice A7 l.length c7) (.slice none 0 0) l [] []) :=
    ⟨⟨by rw [hpt];exact blk_new w1 _,Kd.R_below HR7.out (below_alloc (Below.refl _ _) _),hHeld,Kd.R_nil _ _ _ _ _,fun i hi => (by simp at hi),List.nodup_nil,fun b hb => (by cases hb),⟨rfl,fun r hr => (by cases hr)⟩,by rw [hpt];exact HB7.out.size⟩⟩
  simp only [← hpt]
  have HW1 : Aside0 (v.heap.size ≤ pt):=⟨by rw [hpt];exact HB7.out.size⟩
  generalize w1.alloc (.cells #[.slice A1 g.terms.length c1,.slice A2 g.names.length c2,.slice A3 g.rules.length c3,.slice A7 l.length c7,.slice none 0 0] 105 (0,0)) = W6 at HMR hHeld ⊢
  clear hpt hW HR7 HB7 hHeld
  obtain ⟨n,hn⟩ : ∃ n,n = l.length:=⟨_,rfl⟩
  obtain ⟨n1,hn1⟩ : ∃ n1,n1 = n + 1:=⟨_,rfl⟩
  obtain ⟨ns,hns⟩ : ∃ ns,ns = nsym g:=⟨_,rfl⟩
  have hn40 : n ≤ 40:=by omega
  have hns80 : ns ≤ 80:=by rw [hns];unfold nsym;omega
  have hns1 : 1 ≤ ns:=by rw [hns];unfold nsym;omega
  have hN2 : ns * n1 ≤ 80 * 41:=Nat.mul_le_mul hns80 (by omega)
  have hN1 : 1 * 1 ≤ ns * n1:=Nat.mul_le_mul hns1 (by omega)
  obtain ⟨N,hN⟩ : ∃ N,N = ns * n1:=⟨_,rfl⟩
  have e1 : IntKind.i64.wrap ((g.terms.length : Int) + (g.names.length : Int)) = (ns : Int):=by rw [IntWalk.i64_in _ (by omega),hns];unfold nsym;omega
  have f1 : IntKind.i64.wrap ((n : Int) + 1) = (n1 : Int):=by rw [IntWalk.i64_in _ (by omega)];omega
  have f2 : IntKind.i64.wrap ((ns : Int) * (n1 : Int)) = (N : Int):=by rw [← Int.natCast_mul,← hN,IntWalk.i64_in _ (by omega)]
  rw [← hN] at hN1 hN2
  have hmf:=print_make_of (P:=Try.prog) 57 4 (.bool false) 1 Try.underlying57 (by kernel_rfl) rfl (by decide) n1 (by omega)
  have HN:=Lib.hid hn
  have HN1:=Lib.hid hn1
  have HNS:=Lib.hid hns
  have HNN:=Lib.hid hN
  have hnl : l.length = n:=hn.symm
  rw [hnl] at HMR ⊢
  rw [← hn1] at HMR
  have HRL:=Lib.hid hnl
  clear hn hn1 hns hN hnl
  go_wp2
  go_loopw [8] (fun kv wr => ∃ (k : Nat) (vS : Value) (bs : List Nat),k ≤ N ∧ kv = .int .i64 k ∧ Aside0 (bs.length = k) ∧ Aside0 (MR v wr v.heap.size n1 pt (.slice A1 g.terms.length c1) (.slice A2 g.names.length c2) (.slice A3 g.rules.length c3) (.slice A7 n c7) vS l bs (List.replicate k (List.replicate n1 false)))) (fun kv _ => N - (intOf kv).toNat)
  case atStart => exact ⟨0,_,[],Nat.zero_le _,rfl,⟨rfl⟩,HMR⟩
  case round =>
    clear HMR
    obtain ⟨k,vS,bs,hk,rfl,HBK,HM⟩:=hrel
    rename World => wi
    have KG:=Aside0.mk (blk_below HP1.out HM.out.below)
    have a1:=(blk_cell KG.out 0).trans rfl
    have a2:=(blk_cell KG.out 1).trans rfl
    by_cases hlt : k < N
    · have k2 : (k : Int) < (N : Int):=by omega
      have KT:=Aside0.mk HM.out.tab
      obtain ⟨As,cs,hvs⟩:=Kd.R_slice HM.out.row
      subst hvs
      have HVI : Aside0 (v.heap.size ≤ wi.heap.size):=⟨HM.out.below.size⟩
      go_upto_region 10 with (fail)
      clear a1 a2 k2
      have HMd:=Aside0.mk (HM.out.below_ (below_drew1 (Below.refl wi.heap.size wi)) HVI.out)
      refine start_ (n:=13) (S:=fun w' => Below wi.heap.size wi w') (ds:=[9,12]) (lb 13 0x0) (by kernel_rfl) rfl (by kernel_rfl) (below_drew1 (Below.refl _ _)) (fun hHeld => ?_)
      refine pu_ ?_ ?_ 0 (some 43) (lb 13 0x1) ?_
      refine pu_ ?_ ?_ 1 (some 44) (lb 13 0x3) ?_
      refine pu_ ?_ ?_ 2 (some 45) (lb 13 0x7) ?_
      refine pu_ ?_ ?_ 3 (some 46) (lb 13 0xf) ?_
      refine pu_ ?_ ?_ 5 (some 48) (lb 13 0x2f) ?_
      refine pu_ ?_ ?_ 6 (some 49) (lb 13 0x6f) ?_
      refine ta_ ?_ ?_ 4 (some 47) (lb 13 0x7f) hHeld ?_ (y:=by rintro w' hS;have d0:=(blk_cell (blk_below KT.out hS) 0).trans rfl;have d1:=(blk_cell (blk_below KT.out hS) 1).trans rfl;have d2:=(blk_cell (blk_below KT.out hS) 2).trans rfl;have d3:=(blk_cell (blk_below KT.out hS) 3).trans rfl;have d4:=(blk_cell (blk_below KT.out hS) 4).trans rfl;go_simp;with_reducible rfl)
      refine on_ 7 (some 50) (lb 13 0xff) (fun K hK => ?_)
      refine va_ ?_ ?_ ?_
      refine hK.out _ _ (hHeld.alloc hHeld.size _) (fun hHeld => ?_)
      clear hK K
      refine nm_ ?_ (some 50) ?_
      refine on_ 8 (some 51) (lb 13 0x1ff) (fun K hK => ?_)
      refine va_ ?_ ?_ ?_
      refine hK.out _ _ (hHeld.alloc hHeld.size _) (fun hHeld => ?_)
      clear hK K
      refine nm_ ?_ (some 51) ?_
      refine ls_ 9 (some 52) (lb 13 0x3ff) (fun K hK => ?_)
      (refine app_br_step (w0:=v) (base:=v.heap.size) (ok:=fun _ => True) (m:=n1) (xs:=bs) (p:=wi.heap.size) (by rfl) rfl (Kd.R_below HMd.out.row (below_alloc (Below.refl _ _) _)) (HMd.out.below.alloc HVI.out _) (by have:=HVI.out;simp;omega) (by have:=HBK.out;omega) (fun _ _ => trivial) (by simp [Act.eval]) (by simp [Act.eval]) ?_;intro v3 w3 A3;obtain ⟨Av3,cv3,rfl⟩:=A3.shape;have HM3:=Aside0.mk (HMd.out.grow A3 HVI.out);have E1:=Aside0.mk (HMd.out.mid A3);have e4:=(blk_cell E1.out 4).trans rfl;have e5:=blk_frozen E1.out 4;clear A3)
      refine hK.out _ _ ?_
      clear hK K
      refine nm_ ?_ (some 52) ?_
      refine pu_ ?_ ?_ 10 (some 53) (lb 13 0x7ff) ?_
      refine pu_ ?_ ?_ 11 (some 54) (lb 13 0xfff) ?_
      refine ls_ 12 none (lb 13 0x1fff) (fun K hK => ?_)
      skip
      refine skip_ (w1:=?_) (by rfl) rfl ?_ ?_
      rotate_left
      · (go_simp;first | rfl | (constructor;rfl;rfl))
      refine hK.out _ _ ?_
      clear hK K
      refine done_ (by kernel_rfl) ?_
      rw [show wi.drew.heap.size = wi.heap.size from rfl] at HM3
      clear e4 e5
      go_wp2
      go_roundw
      case rel => exact ⟨k + 1,_,bs ++ [wi.heap.size],by omega,by go_num,⟨by have:=HBK.out;simp;omega⟩,by rw [List.replicate_succ'];exact HM3⟩
      case measure => simp [intOf];omega
    · obtain rfl : k = N:=by omega
      have k2 : ¬ (k : Int) < (k : Int):=by omega
      obtain ⟨hb,ch,hvs,htt⟩:=HM.out.tt (by have:=HBK.out;omega)
      subst hvs
      rw [HBK.out] at HM
      have HSN : Aside0 (SndT g l (List.replicate k (List.replicate n1 false))):=⟨by have:=sndT_none (g:=g) (wd:=l);rwa [HRL.out,← HN1.out,← HNS.out,← HNN.out] at this⟩
      obtain ⟨kk,hkk⟩ : ∃ kk : RB,kk = ⟨pt,A1,A2,A3,c1,c2,c3,A7,c7,hb,ch,bs⟩:=⟨_,rfl⟩
      have HRQ : Aside0 (RQ v wi kk g l (List.replicate k (List.replicate n1 false))):=⟨by
        rw [hkk]
        refine ⟨?_,HG1.out,HM.out.below,?_,?_,?_⟩
        · have:=HM.out.tab;rwa [HRL.out,← HN1.out,← HNS.out,← HNN.out]
        · have:=HM.out.wr;rwa [HRL.out]
        · rw [HRL.out,← HN1.out];exact htt
        · show bs.length = _;rw [HBK.out,HRL.out,← HN1.out,← HNS.out,← HNN.out]⟩
      have HKB : Hid (kk.b = pt ∧ kk.bs = bs ∧ kk.h = hb ∧ kk.ch = ch ∧ kk.A3 = A3):=Lib.hid (by rw [hkk];exact ⟨rfl,rfl,rfl,rfl,rfl⟩)
      clear htt HM hkk hmf
      go_wp2
      clear k2 hlt hk a1 a2 KG e1 f2
      go_loopw [9] (fun cv wr => ∃ (M : Tab) (c : Bool),cv = .bool c ∧ Aside0 (RQ v wr kk g l M) ∧ Aside0 (SndT g l M) ∧ Aside0 (c = false → Full g l M)) (fun cv wr => 2 * (k * n1 - cntVs wr bs) + (if isTV cv = true then 1 else 0))
      case atStart => exact ⟨_,true,rfl,HRQ,HSN,⟨fun h => by cases h⟩⟩
      case round =>
        clear HRQ HSN
        obtain ⟨M,c,rfl,HR,HSN,HF⟩:=hrel
        rename World => wo
        cases c
        · go_wp2
          go_ret2
          exact ⟨⟨kk,M,v.heap.size,by rw [HKB.out.1];rfl,HR.out.rc,by first | exact HF.out rfl | exact HF.out trivial⟩,below_then HV1.out HV1.out.size HR.out.below⟩
        · have HMO : Aside0 (cntVs wo bs = cntT M):=⟨by have:=HR.out.t.cntVs;rwa [HKB.out.2.1] at this⟩
          have HM0 : Aside0 (Mid g l M M false (fun r' i' j' => r' < g.rules.length ∧ i' ≤ n ∧ j' ≤ n ∧ n1 ≤ i')):=⟨(Mid.start HSN.out).mono fun _ r i j hd _ => by have:=HN1.out;omega⟩
          clear HF HSN
          go_wp2
          go_loopw [10,9] (fun iv cv wr => ∃ (a : Nat) (M' : Tab) (c : Bool),a ≤ n1 ∧ iv = .int .i64 ((a : Int) - 1) ∧ cv = .bool c ∧ Aside0 (RQ v wr kk g l M') ∧ Aside0 (Mid g l M M' c (fun r' i' j' => r' < g.rules.length ∧ i' ≤ n ∧ j' ≤ n ∧ a ≤ i'))) (fun iv _ _ => (intOf iv + 1).toNat)
          case atStart => exact ⟨n1,M,false,Nat.le_refl _,by rw [HN1.out];simp,rfl,HR,HM0⟩
          case round =>
            clear HR HM0
            obtain ⟨a,M',c,ha,rfl,rfl,HR,HMI⟩:=hrel
            rename World => wa
            by_cases ha0 : 0 < a
            · obtain ⟨ii,rfl⟩ : ∃ ii,a = ii + 1:=⟨a - 1,by omega⟩
              have h0 : ((ii + 1 : Nat) : Int) - 1 = (ii : Int):=by omega
              rw [h0]
              have hin : ii ≤ n:=by have:=HN1.out;omega
              have i0 : (0 : Int) ≤ (ii : Int):=by omega
              have i1 : decide ((0 : Int) ≤ (ii : Int)) = true:=decide_eq_true i0
              have HM0 : Aside0 (Mid g l M M' c (DoneR g n ii 0 0)):=⟨HMI.out.mono fun _ r i j hd _ => .inl (by unfold DoneR at hd;omega)⟩
              clear HMI h0 ha0
              go_wp2
              clear i0 i1
              go_loopw [11,9] (fun rv cv wr => ∃ (r : Nat) (M' : Tab) (c : Bool),r ≤ g.rules.length ∧ rv = .int .i64 r ∧ cv = .bool c ∧ Aside0 (RQ v wr kk g l M') ∧ Aside0 (Mid g l M M' c (DoneR g n ii r 0))) (fun rv _ _ => g.rules.length - (intOf rv).toNat)
              case atStart => exact ⟨0,M',c,Nat.zero_le _,rfl,rfl,HR,HM0⟩
              case round =>
                clear HR HM0
                obtain ⟨r,M',c,hr,rfl,rfl,HR,HMI⟩:=hrel
                rename World => wr_
                have a3 : wr_.cell? ⟨x0,2,none⟩ = some (.slice A3 g.rules.length c3):=(blk_cell (blk_below HP1.out HR.out.below) 2).trans rfl
                by_cases hrl : r < g.rules.length
                · have r2 : (r : Int) < (g.rules.length : Int):=by omega
                  have r0 : (0 : Int) ≤ (r : Int):=by omega
                  obtain ⟨ad,Br,dr,ead,hx,hy,hdr,hC1⟩:=at_rule HG1.out.rules r hrl
                  cases ead
                  have hR:=rightR_at hrl
                  have hLf:=leftR_eq hrl
                  have hgm:=goodF_mem HGD.out (g.rules[r]'hrl) (List.getElem_mem _)
                  obtain ⟨x,hx1⟩ : ∃ x,x = g.rules[r]'hrl:=⟨_,rfl⟩
                  rw [← hx1] at hx hy hC1 hR hLf hgm
                  obtain ⟨lf,hlf⟩:=Int.eq_ofNat_of_zero_le (show 0 ≤ x.left by omega)
                  rw [hlf] at hx hLf
                  have hlfn : lf < ns:=by have:=hgm.2.1;rw [← HNS.out] at this;omega
                  have hr8:=hgm.2.2.1
                  have HX:=Aside0.mk hx
                  have HCR:=Aside0.mk hC1
                  have HRR:=Aside0.mk hR
                  have HLF:=Lib.hid hLf
                  have a4:=pw_cell_below HR.out.below hy
                  have HRLT:=Aside0.mk hrl
                  have HE:=Aside0.mk (endsR_c kk g l M' v.heap.size Br dr x.right ii wr_ HR.out.rc HQ.out (Kd.C_below HCR.out HR.out.below) (by omega) (by have:=HRL.out;omega))
                  rw [HRL.out,← HN1.out] at HE
                  have hbs : ∀ b ∈ bs,b < wr_.heap.size:=fun b hb => by
                    have h1:=HR.out.t
                    rw [HKB.out.2.1] at h1
                    obtain ⟨q,hq,rfl⟩:=List.getElem_of_mem hb
                    exact blk_lt (h1.row q hq)
                  have HBS:=Aside0.mk hbs
                  have HKP : Hid (kk.b = pt):=Lib.hid HKB.out.1
                  clear hx hy hC1 hR hLf hgm hx1 hlf hdr hbs
                  rw [HKP.out] at HE
                  go_upto_region 21 with (go_at_call 50;go_loud (refine HE.out.mono ?_;rintro e w5 ⟨⟨be,rfl,hbe,hbl⟩,hb5⟩;have HBE:=Aside0.mk hbe;have HBL:=Aside0.mk hbl;have HR5:=Aside0.mk (HR.out.below_ hb5);clear hbe hbl hb5))
                  clear a3 a4 r2 r0 HE
                  have HNE : Aside0 (be ∉ bs):=⟨fun hb => by have:=HBS.out be hb;have:=HBL.out;omega⟩
                  have HM0 : Aside0 (Mid g l M M' c (DoneR g n ii r ii)):=⟨HMI.out.mono fun _ r' i' j' hd hrow => by
                    have:=rowR_ok (fun s i j h => (SB.ok h).1) hrow
                    unfold DoneR at hd ⊢
                    exact .inl (by omega)⟩
                  clear HMI HR HBS
                  go_wp2
                  go_loopw [13,9] (fun jv cv wr => ∃ (j : Nat) (M2 : Tab) (c : Bool),ii ≤ j ∧ j ≤ n1 ∧ jv = .int .i64 j ∧ cv = .bool c ∧ Aside0 (RQ v wr kk g l M2) ∧ Aside0 (Mid g l M M2 c (DoneR g n ii r j)) ∧ Aside0 (c = false → M2 = M') ∧ Aside0 (∀ s a b,SB g l M' s a b → SB g l M2 s a b) ∧ Aside0 (BB wr be (endsN g l M' x.right ii))) (fun jv _ _ => n1 - (intOf jv).toNat)
                  case atStart => exact ⟨ii,M',c,Nat.le_refl _,by have:=HN1.out;omega,rfl,rfl,HR5,HM0,⟨fun _ => rfl⟩,⟨fun _ _ _ h => h⟩,HBE⟩
                  case round =>
                    clear HR5 HM0 HBE
                    obtain ⟨j,M2,c,hj1,hj2,rfl,rfl,HR,HMI,HSA,HMO2,HBE⟩:=hrel
                    rename World => wj
                    by_cases hjn : j ≤ n
                    · have j2 : (j : Int) ≤ (n : Int):=by omega
                      have j3 : (j : Int) < (n1 : Int):=by have:=HN1.out;omega
                      have r2 : (r : Int) < (g.rules.length : Int):=by have:=HRLT.out;omega
                      have a3 : wj.cell? ⟨x0,2,none⟩ = some (.slice (some ad) g.rules.length c3):=(blk_cell (blk_below HP1.out HR.out.below) 2).trans rfl
                      have a5:=pw_cell_below HR.out.below HX.out
                      obtain ⟨q,hq⟩ : ∃ q,q = lf * n1:=⟨_,rfl⟩
                      have hq1 : q + n1 ≤ k:=by rw [hq,HNN.out,← Nat.succ_mul];exact Nat.mul_le_mul_right _ hlfn
                      obtain ⟨ix,hix⟩ : ∃ ix,ix = q + ii:=⟨_,rfl⟩
                      have g2 : IntKind.i64.wrap ((lf : Int) * (n1 : Int)) = (q : Int):=by rw [← Int.natCast_mul,← hq,IntWalk.i64_in _ (by omega)]
                      have g3 : IntKind.i64.wrap ((q : Int) + (ii : Int)) = (ix : Int):=by rw [IntWalk.i64_in _ (by omega)];omega
                      have hixk : ix < k:=by have:=HN1.out;omega
                      have ix2 : (ix : Int) < (k : Int):=by omega
                      have hat : atT l.length (leftR g r) ii = (ix : Int):=by
                        rw [HLF.out,atT_eq (by omega),HRL.out,Int.toNat_natCast,← HN1.out,← hq,← hix]
                      have HAT:=Lib.hid hat
                      obtain ⟨eb,heb⟩ : ∃ eb,getB (endsN g l M' x.right ii) (j : Int) = eb:=⟨_,rfl⟩
                      have HEB : Hid (eb = true ↔ RowR (SB g l M') (rightR g r) ii j):=Lib.hid (by rw [← heb,HRR.out];exact endsN_get (by have:=HRL.out;omega))
                      have c1:=HBE.out.cell' (i:=j) (by rw [endsN_len];have:=HRL.out;have:=HN1.out;omega) heb
                      have hbl : ix < kk.bs.length:=by rw [HKB.out.2.1,HBK.out];exact hixk
                      have HBLK:=Aside0.mk hbl
                      have c2:=HR.out.t.cell ix hbl
                      obtain ⟨hb2,hhb⟩ : ∃ hb2,getB (rowT M2 (ix : Int)) (j : Int) = hb2:=⟨_,rfl⟩
                      have c3_:=(HR.out.t.row ix hbl).cell' (i:=j) (by rw [HR.out.t.rlen hbl,HRL.out];omega) hhb
                      have HHB:=Lib.hid hhb
                      have fz:=(HR.out.t.row ix hbl).fz j
                      have o4:=(blk_cell HR.out.o 4).trans rfl
                      rw [HRL.out,← HN1.out,← HNS.out,← HNN.out,HKB.out.1,HKB.out.2.2.1,HKB.out.2.2.2.1] at o4
                      rw [HRL.out,← HN1.out,HKB.out.2.2.1] at c2
                      obtain ⟨br,hbr⟩ : ∃ br,br = kk.bs[ix]:=⟨_,rfl⟩
                      rw [← hbr] at c2 c3_ fz
                      have HBR:=Lib.hid hbr
                      have HMD : eb = false ∨ hb2 = true → Mid g l M M2 c (DoneR g n ii r (j + 1)):=fun hh => HMI.out.mono fun hc r' i' j' hd hrow => by
                        unfold DoneR at hd ⊢
                        by_cases hcur : ii = i' ∧ r' = r ∧ j' = j
                        · obtain ⟨rfl,rfl,rfl⟩:=hcur
                          right
                          rcases hh with hh | hh
                          · have h1:=HEB.out.2 (by rw [HSA.out hc] at hrow;exact hrow)
                            rw [hh] at h1;cases h1
                          · refine ⟨by rw [HLF.out];omega,by rw [HLF.out,← HNS.out];omega,by rw [HRL.out];omega,by rw [HRL.out];omega,?_⟩
                            unfold getT
                            rw [HAT.out,HHB.out,hh]
                        · left;omega
                      have HMDD:=Aside0.mk HMD
                      have HMP : eb = true → hb2 = false → Mid g l M (putT l.length M2 (leftR g r) ii j) true (DoneR g n ii r (j + 1)) ∧ (∀ s a b,SB g l M' s a b → SB g l (putT l.length M2 (leftR g r) ii j) s a b):=fun h1 h2 => by
                        have hrow : RowR (SB g l M2) (rightR g r) ii j:=rowR_mono HMO2.out (HEB.out.1 h1)
                        refine ⟨HMI.out.put HGD.out HRLT.out (by rw [HRL.out];exact hin) (by rw [HRL.out];exact hjn) hrow ?_,fun s a b h => SB.put HGD.out HMI.out.1 HRLT.out (by rw [HRL.out];exact hin) (by rw [HRL.out];exact hjn) hrow (HMO2.out s a b h)⟩
                        unfold getT
                        rw [HAT.out,HHB.out,h2]
                      have HMPP:=Aside0.mk HMP
                      have HJN:=Aside0.mk hjn
                      clear HMD HMP hq hq1 hix hat heb hhb hbr
                      cases eb
                      · have HMM:=Aside0.mk (HMDD.out (.inl rfl))
                        go_wp2
                        go_roundw
                        case rel => exact ⟨j + 1,M2,c,by omega,by have:=HN1.out;have:=HJN.out;omega,by go_num,rfl,HR,HMM,HSA,HMO2,HBE⟩
                        case measure => have:=HN1.out;have:=HJN.out;simp [intOf];omega
                      · cases hb2
                        · obtain ⟨HM9,HSB9⟩:=HMPP.out rfl rfl
                          have HMM:=Aside0.mk HM9
                          have HSS:=Aside0.mk HSB9
                          have HRP : Aside0 (RQ v (wj.setCell ⟨br,j,none⟩ (.bool true)) kk g l (putT l.length M2 (leftR g r) ii j)):=⟨by
                            have h1:=HR.out.put (j:=j) HBLK.out
                            rw [← HBR.out] at h1
                            unfold putT
                            rw [HAT.out]
                            exact h1⟩
                          have HBP : Aside0 (BB (wj.setCell ⟨br,j,none⟩ (.bool true)) be (endsN g l M' x.right ii)):=⟨BB.far HBE.out (fun e => HNE.out (by have e' : be = br:=e;rw [e',HBR.out,← HKB.out.2.1];exact List.getElem_mem HBLK.out)) _⟩
                          clear HM9 HSB9
                          go_wp2
                          go_roundw
                          case rel => exact ⟨j + 1,_,true,by omega,by have:=HN1.out;have:=HJN.out;omega,by go_num,rfl,HRP,HMM,⟨fun h => by cases h⟩,HSS,HBP⟩
                          case measure => have:=HN1.out;have:=HJN.out;simp [intOf];omega
                        · have HMM:=Aside0.mk (HMDD.out (.inr rfl))
                          go_wp2
                          go_roundw
                          case rel => exact ⟨j + 1,M2,c,by omega,by have:=HN1.out;have:=HJN.out;omega,by go_num,rfl,HR,HMM,HSA,HMO2,HBE⟩
                          case measure => have:=HN1.out;have:=HJN.out;simp [intOf];omega
                    · have j2 : ¬ (j : Int) ≤ (n : Int):=by omega
                      have HM9 : Aside0 (Mid g l M M2 c (DoneR g n ii (r + 1) 0)):=⟨HMI.out.mono fun _ r' i' j' hd _ => .inl (by unfold DoneR at hd ⊢;omega)⟩
                      clear HMI
                      go_wp2
                      go_roundw
                      case rel => exact ⟨r + 1,M2,c,by have:=HRLT.out;omega,by go_num,rfl,HR,HM9⟩
                      case measure => have:=HRLT.out;simp [intOf];omega
                · have r2 : ¬ (r : Int) < (g.rules.length : Int):=by omega
                  have HM9 : Aside0 (Mid g l M M' c (fun r' i' j' => r' < g.rules.length ∧ i' ≤ n ∧ j' ≤ n ∧ ii ≤ i')):=⟨HMI.out.mono fun _ r' i' j' hd _ => .inl (by unfold DoneR;omega)⟩
                  clear HMI
                  have h9 : IntKind.i64.wrap ((ii : Int) - 1) = (ii : Int) - 1:=by rw [IntWalk.i64_in _ (by omega)]
                  go_wp2
                  go_roundw
                  case rel => exact ⟨ii,M',c,by omega,rfl,rfl,HR,HM9⟩
                  case measure => simp [intOf] <;> omega
            · obtain rfl : a = 0:=by omega
              have i1 : decide ((0 : Int) ≤ ((0 : Nat) : Int) - 1) = false:=rfl
              have i2 : ¬ (0 : Int) ≤ ((0 : Nat) : Int) - 1:=by omega
              have HFU : Aside0 (c = false → Full g l M'):=⟨fun hc => by
                subst hc
                have h1:=HMI.out
                have e0:=(h1.2.1 rfl).1
                exact (h1.mono (D':=fun r i j => r < g.rules.length ∧ i ≤ l.length ∧ j ≤ l.length) fun _ r i j hd _ => .inl (by rw [HRL.out] at hd;omega)).is HGD.out⟩
              have HLC : Aside0 (c = true → cntT M < cntT M'):=⟨HMI.out.2.2⟩
              have HLE : Aside0 (c = false → M' = M):=⟨fun hc => (HMI.out.2.1 hc).1⟩
              have HMX : Aside0 (cntT M' ≤ k * n1):=⟨by have:=cntT_le HMI.out.1.sh;rwa [HRL.out,← HN1.out,← HNS.out,← HNN.out] at this⟩
              have HCV : Aside0 (cntVs wa bs = cntT M'):=⟨by have:=HR.out.t.cntVs;rwa [HKB.out.2.1] at this⟩
              have HSN:=Aside0.mk HMI.out.1
              clear HMI
              go_wp2
              go_roundw
              case rel => exact ⟨M',c,rfl,HR,HSN,HFU⟩
              case measure =>
                have h1:=HCV.out
                have h2:=HMO.out
                have h3:=HMX.out
                cases c
                · have h4:=HLE.out rfl
                  rw [h4] at h1
                  simp [isTV,h1,h2]
                · have h4:=HLC.out rfl
                  simp [isTV,h1,h2]
                  omega
end Go.Proofs.Ytmkgcjhimajgiaa

