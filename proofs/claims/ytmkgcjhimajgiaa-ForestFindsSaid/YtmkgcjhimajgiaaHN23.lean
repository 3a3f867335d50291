/- Contracts of functions of the program, and plain laws (text N23): each theorem says what it proves. -/
import Derived.Test.YtmkgcjhimajgiaaHX
set_option linter.unusedVariables false
set_option linter.unusedSimpArgs false
namespace Go.Proofs.Ytmkgcjhimajgiaa
open Go.RowKit Go.Proofs.YtmkgcjhimajgiaaW.PrintWords Go.Proofs.YtmkgcjhimajgiaaW.PrintLast Go.Conc

theorem find_n (A : Option Addr) (n c : Nat) (F : Forest) (x : Lab) (B : Option Addr) (m d : Nat) (w : World) (hr : kNode.C w A n F) :
    Calls Try.prog 38 #[.agg #[.slice A n c],aggN x B m d] w fun e w' => e = .returned (.tuple #[.int .i64 (if 0 ≤ posN F x then posN F x else 0),.bool (decide (0 ≤ posN F x))]) ∧ Below w.heap.size w w':=by
  obtain rfl:=C_len hr
  exact find_c A c F x B m d w hr
set_option maxRecDepth 100000 in
set_option maxHeartbeats 16000000 in
theorem forestFinds_c (F : Forest) (A : Option Addr) (c : Nat) (kn : Int) (w : World) (hcap : F.length ≤ c) (hF : kNode.C w A F.length F) (hI : ∀ x ∈ F,NodI x) (hkn : 0 ≤ kn ∧ kn ≤ 65535) :
    Calls Try.prog 13 #[.agg #[.slice A F.length c],.int .u16 kn] w fun e w' => e = .returned (.bool true) ∧ Below w.heap.size w w':=by
  obtain ⟨x0,hx0⟩ : ∃ x0,x0 = w.heap.size:=⟨_,rfl⟩
  obtain ⟨n,hn⟩ : ∃ n,n = F.length:=⟨_,rfl⟩
  rw [← hn] at hF ⊢
  obtain ⟨v0,hv0⟩ : ∃ v0 : World,v0 = w.alloc (.cells #[.slice A n c] 63 (0,0)):=⟨_,rfl⟩
  have HB0 : Aside0 (Below w.heap.size w v0):=⟨by rw [hv0];exact (Below.refl w.heap.size w).alloc (Nat.le_refl _) _⟩
  have HP0 : Aside0 (v0.heap[x0]? = some (.cells #[.slice A n c] 63 (0,0))):=⟨by rw [hv0,hx0];exact blk_new w _⟩
  have HF0:=Aside0.mk (Kd.C_below hF HB0.out)
  have HNF:=Lib.hid hn
  have HI:=Aside0.mk hI
  obtain ⟨K,rfl⟩:=Int.eq_ofNat_of_zero_le hkn.1
  have HKN:=Lib.hid hkn.2
  have hLG:=Aside0.mk (fun W (hW : Below v0.heap.size v0 W) => largeFo_c F A c W (by rw [← hn];exact Kd.C_below HF0.out hW))
  rw [← hn] at hLG
  clear hF hI hkn hcap hn
  go_enter Try.func13,Try.ntmps13
  go_upto_region 1 with (fail)
  simp only [← hv0]
  simp only [← hx0]
  clear hv0 hx0
  refine pl_start ?_
  refine pl_held (B:=v0.heap.size) (v:=v0) (Below.refl _ _) (fun hHeld => ?_)
  refine pp_ ?_ ?_ ?_ (y:=by have d0:=(blk_cell (blk_below HP0.out hHeld) 0).trans rfl;go_simp;rfl)
  refine goesCL_ (N:=(some 17)) Try.func32 (by kernel_rfl) rfl (by rfl) rfl rfl (hLG.out _ hHeld) (by simp [Act.eval]) ?_
  rintro e x1_1 ⟨⟨b,rfl,hlg⟩,hb1_1⟩
  refine ⟨_,rfl,?_⟩
  simp only [Act.put,List.setIfInBounds_toArray,List.set_cons_zero,List.set_cons_succ]
  refine pl_held (B:=v0.heap.size) (v:=v0) (below_then hHeld hHeld.size hb1_1) (fun hHeld => ?_)
  cases b
  case true =>
    refine pl_held (B:=v0.heap.size) (v:=v0) (hHeld) (fun hHeld => ?_)
    refine pp_ ?_ ?_ ?_
    refine pf_ ?_ ?_
    refine pf_ ?_ ?_
    refine pf_ ?_ ?_
    refine pf_ ?_ ?_
    refine pp_ ?_ ?_ ?_
    refine pp_ ?_ ?_ ?_
    refine pf_ ?_ ?_
    refine pf_ ?_ ?_
    refine pf_ ?_ ?_
    refine pf_ ?_ ?_
    refine pp_ ?_ ?_ ?_
    refine pl_nil ?_
    go_wp2_with (go_at_call 33;refine (wakes25_c _).mono ?_;rintro e w9 ⟨rfl,hb9⟩)
    go_ret
    exact ⟨rfl,below_then (below_then HB0.out HB0.out.size hHeld) (below_then HB0.out HB0.out.size hHeld).size hb9⟩
  have hsz:=hlg rfl
  clear hlg
  by_cases h2 : (200 : Int) < (n : Int)
  · have i2 : decide ((200 : Int) < (n : Int)) = true:=decide_eq_true h2
    have i2n : decide (200 < n) = true:=decide_eq_true (by omega)
    refine pl_held (B:=v0.heap.size) (v:=v0) (hHeld) (fun hHeld => ?_)
    refine pp_ ?_ ?_ ?_
    refine pp_ ?_ ?_ ?_
    refine pp_ ?_ ?_ ?_ (y:=by have d0:=(blk_cell (blk_below HP0.out hHeld) 0).trans rfl;go_simp;rfl)
    refine pp_ ?_ ?_ ?_
    refine pp_ ?_ ?_ ?_
    refine pp_ ?_ ?_ ?_
    refine pp_ ?_ ?_ ?_
    refine pf_ ?_ ?_
    refine pf_ ?_ ?_
    refine pf_ ?_ ?_
    refine pf_ ?_ ?_
    refine pp_ ?_ ?_ ?_
    refine pl_nil ?_
    go_wp2_with (go_at_call 33;refine (wakes25_c _).mono ?_;rintro e w9 ⟨rfl,hb9⟩)
    go_ret
    exact ⟨rfl,below_then (below_then HB0.out HB0.out.size hHeld) (below_then HB0.out HB0.out.size hHeld).size hb9⟩
  have i2 : decide ((200 : Int) < (n : Int)) = false:=decide_eq_false h2
  have i2n : decide (200 < n) = false:=decide_eq_false (by omega)
  refine pl_held (B:=v0.heap.size) (v:=v0) (hHeld) (fun hHeld => ?_)
  refine pp_ ?_ ?_ ?_
  refine pp_ ?_ ?_ ?_
  refine pp_ ?_ ?_ ?_ (y:=by have d0:=(blk_cell (blk_below HP0.out hHeld) 0).trans rfl;go_simp;rfl)
  refine pp_ ?_ ?_ ?_
  refine pp_ ?_ ?_ ?_
  refine pp_ ?_ ?_ ?_
  refine pp_ ?_ ?_ ?_
  refine pp_ ?_ ?_ ?_
  refine pp_ ?_ ?_ ?_ (y:=by have d0:=(blk_cell (blk_below HP0.out hHeld) 0).trans rfl;go_simp;rfl)
  refine pp_ ?_ ?_ ?_
  refine pp_ ?_ ?_ ?_
  refine pp_ ?_ ?_ ?_
  refine pl_nil ?_
  by_cases h3 : n = 0
  · subst h3
    go_wp2_with (go_at_call 33;refine (wakes25_c _).mono ?_;rintro e w9 ⟨rfl,hb9⟩)
    go_ret
    exact ⟨rfl,below_then (below_then HB0.out HB0.out.size hHeld) (below_then HB0.out HB0.out.size hHeld).size hb9⟩
  have i3 : ((n : Int) == 0) = false:=by simpa using h3
  have i3' : ¬ (n : Int) = 0:=by omega
  obtain ⟨i0,hi0⟩ : ∃ i0,i0 = K % n:=⟨_,rfl⟩
  have hi0n : i0 < n:=by rw [hi0];exact Nat.mod_lt _ (by omega)
  have hif : i0 < F.length:=by rw [← HNF.out];exact hi0n
  have r1 : (K : Int).tmod (n : Int) = (i0 : Int):=by
    rw [hi0,Int.tmod_eq_emod_of_nonneg (by omega)]
    rfl
  have HC1:=Aside0.mk (Kd.C_below HF0.out hHeld)
  have HP1:=Aside0.mk (blk_below HP0.out hHeld)
  have HB1:=Aside0.mk (below_then HB0.out HB0.out.size hHeld)
  obtain ⟨v,hv⟩ : ∃ v,v = x1_1:=⟨_,rfl⟩
  rw [← hv] at HC1 HP1 HB1 ⊢
  have HSZ:=Lib.hid hsz
  have hCF:=HC1.out
  rw [HNF.out] at hCF
  obtain ⟨ad,Ap,cp,ead,y0,y1,y2,y3,y4,y5,hcp,hCp⟩:=at_node hCF i0 hif
  cases ead
  obtain ⟨x,hx⟩ : ∃ x,x = F[i0]'hif:=⟨_,rfl⟩
  have HX:=Lib.hid hx
  have HXI : Aside0 (NodI x):=⟨by rw [hx];exact HI.out _ (List.getElem_mem _)⟩
  rw [← hx] at y0 y1 y2 y3 y4 y5 hcp hCp
  obtain ⟨np,hnp⟩ : ∃ np,np = x.packs.length:=⟨_,rfl⟩
  rw [← hnp] at y5
  have i0a : (0 : Int) ≤ (i0 : Int):=by omega
  have i0b : (i0 : Int) < (n : Int):=by omega
  have HI0:=Lib.hid hi0
  have hn2 : n ≤ 200:=by omega
  have HR1:=Lib.hid r1
  have rK : IntKind.i64.wrap (K : Int) = (K : Int):=IntWalk.i64_in _ (by have:=HKN.out;omega)
  clear hHeld hsz hv hx hnp r1 hcp hCp hCF hi0 i2 i2n h2 h3 i3 HF0 HP0 HB0 hb1_1
  go_upto_region 3 with (fail)
  refine start_ (n:=12) (S:=fun w' => Below v.heap.size v w') (ds:=[11]) (lb 12 0x0) (by kernel_rfl) rfl (by kernel_rfl) (below_drew1 (Below.refl _ _)) (fun hHeld => ?_)
  refine pu_ ?_ ?_ 0 (some 31) (lb 12 0x1) ?_
  refine pu_ ?_ ?_ 2 (some 33) (lb 12 0x5) ?_
  refine pu_ ?_ ?_ 3 (some 34) (lb 12 0xd) ?_
  refine pu_ ?_ ?_ 4 (some 35) (lb 12 0x1d) ?_
  refine ta_ ?_ ?_ 1 (some 32) (lb 12 0x1f) hHeld ?_ (y:=by rintro w' hS;have d0:=(blk_cell (blk_below HP1.out hS) 0).trans rfl;have d1:=cell_at hS y0;have d2:=cell_at hS y1;have d3:=cell_at hS y2;have d4:=cell_at hS y3;have d5:=cell_at hS y4;have d6:=cell_at hS y5;go_simp;with_reducible rfl)
  refine ta_ ?_ ?_ 5 (some 36) (lb 12 0x3f) hHeld ?_ (y:=by rintro w' hS;have d0:=(blk_cell (blk_below HP1.out hS) 0).trans rfl;have d1:=cell_at hS y0;have d2:=cell_at hS y1;have d3:=cell_at hS y2;have d4:=cell_at hS y3;have d5:=cell_at hS y4;have d6:=cell_at hS y5;go_simp;with_reducible rfl)
  refine pu_ ?_ ?_ 6 (some 37) (lb 12 0x7f) ?_
  refine pu_ (.int .i64 (i0 : Int)) ?_ 7 (some 38) (lb 12 0xff) ?_ (hy:=by intro w';go_simp;rw [if_neg (by omega),HR1.out])
  refine pu_ ?_ ?_ 8 (some 39) (lb 12 0x1ff) ?_
  refine ta_ ?_ ?_ 9 (some 40) (lb 12 0x3ff) hHeld ?_ (y:=by rintro w' hS;have d0:=(blk_cell (blk_below HP1.out hS) 0).trans rfl;have d1:=cell_at hS y0;have d2:=cell_at hS y1;have d3:=cell_at hS y2;have d4:=cell_at hS y3;have d5:=cell_at hS y4;have d6:=cell_at hS y5;go_simp;with_reducible rfl)
  refine on_ 10 (some 5) (lb 12 0x7ff) (fun K hK => ?_)
  refine va_ ?_ ?_ ?_
  refine hK.out _ _ (hHeld.alloc hHeld.size _) (fun hHeld => ?_)
  clear hK K
  refine nm_ ?_ (some 5) ?_
  refine ls_ 11 none (lb 12 0xfff) (fun K hK => ?_)
  skip
  refine skip_ (w1:=?_) (by rfl) rfl ?_ ?_
  rotate_left
  · (go_simp;first | rfl | (constructor;rfl;rfl))
  refine hK.out _ _ ?_
  clear hK K
  refine done_ (by kernel_rfl) ?_
  obtain ⟨z,hz⟩ : ∃ z,z = v.heap.size:=⟨_,rfl⟩
  obtain ⟨v1,hv1⟩ : ∃ v1,v1 = (v.alloc (.cells #[.int .i64 x.lab.sym,.int .i64 x.lab.rule,.int .i64 x.lab.dot,.int .i64 x.lab.i,.int .i64 x.lab.j,.slice Ap np cp] 66 (0,0))).drew:=⟨_,rfl⟩
  have hb1 : Below v.heap.size v v1:=by rw [hv1];exact below_drew1 (below_alloc (Below.refl _ _) _)
  have hN1 : v1.heap[z]? = some (.cells #[.int .i64 x.lab.sym,.int .i64 x.lab.rule,.int .i64 x.lab.dot,.int .i64 x.lab.i,.int .i64 x.lab.j,.slice Ap np cp] 66 (0,0)):=by
    rw [hv1,hz];exact blk_below (blk_new v _) (below_drew1 (Below.refl _ _))
  simp only [← hv1]
  simp only [← hz]
  have hzl : Aside0 (v.heap.size ≤ z):=⟨by rw [hz];exact Nat.le_refl _⟩
  have HB2:=Aside0.mk hb1
  have HN1:=Aside0.mk hN1
  clear hv1 hz hb1 y0 y1 y2 y3 y4 y5 rK i0a i0b hHeld
  have t5:=(blk_cell hN1 5).trans rfl
  have f5:=blk_frozen hN1 5
  go_upto_region 5 with (fail)
  obtain ⟨v2,hv2⟩ : ∃ v2,v2 = v1.setCell ⟨z,5,none⟩ (.slice none 0 0):=⟨_,rfl⟩
  have hb2 : Below v.heap.size v v2:=by rw [hv2];exact below_set HB2.out hzl.out _ _
  have HN2 : Aside0 (v2.heap[z]? = some (.cells #[.int .i64 x.lab.sym,.int .i64 x.lab.rule,.int .i64 x.lab.dot,.int .i64 x.lab.i,.int .i64 x.lab.j,.slice none 0 0] 66 (0,0))):=⟨by rw [hv2];exact blk_set HN1.out 5 _⟩
  simp only [← hv2]
  have HB3:=Aside0.mk (below_then HB1.out HB1.out.size hb2)
  have HP2:=Aside0.mk (blk_below HP1.out hb2)
  have HC2:=Aside0.mk (Kd.C_below HC1.out hb2)
  have HV2:=Aside0.mk hb2
  clear hv2 hb2 t5 f5 hN1 HN1 HB2
  obtain ⟨k,hk,hki,hpos,hkl⟩:=posN_at hif
  rw [← HX.out] at hpos hkl
  have HKL:=Lib.hid hkl
  have p1 : (if 0 ≤ posN F x.lab then posN F x.lab else 0) = (k : Int):=by rw [hpos];exact if_pos (by omega)
  have p2 : decide (0 ≤ posN F x.lab) = true:=by rw [hpos];exact decide_eq_true (by omega)
  have hfd : ∀ W,Below v2.heap.size v2 W → Calls Try.prog 38 #[.agg #[.slice (some ad) n c],.agg #[.int .i64 x.lab.sym,.int .i64 x.lab.rule,.int .i64 x.lab.dot,.int .i64 x.lab.i,.int .i64 x.lab.j,.slice none 0 0]] W fun e w' => e = .returned (.tuple #[.int .i64 (k : Int),.bool true]) ∧ Below W.heap.size W w':=fun W hW => by
    have:=find_n (some ad) n c F x.lab none 0 0 W (Kd.C_below HC2.out hW)
    rw [p1,p2] at this
    exact this
  have HFD:=Aside0.mk hfd
  clear hfd p1 p2 hpos hkl
  refine pl_start ?_
  refine pl_held (B:=v2.heap.size) (v:=v2) (Below.refl _ _) (fun hHeld => ?_)
  refine pp_ ?_ ?_ ?_ (y:=by have d0:=(blk_cell (blk_below HP2.out hHeld) 0).trans rfl;have d1:=(blk_cell (blk_below HN2.out hHeld) 0).trans rfl;have d2:=(blk_cell (blk_below HN2.out hHeld) 1).trans rfl;have d3:=(blk_cell (blk_below HN2.out hHeld) 2).trans rfl;have d4:=(blk_cell (blk_below HN2.out hHeld) 3).trans rfl;have d5:=(blk_cell (blk_below HN2.out hHeld) 4).trans rfl;have d6:=(blk_cell (blk_below HN2.out hHeld) 5).trans rfl;go_simp;rfl)
  refine pp_ ?_ ?_ ?_ (y:=by have d0:=(blk_cell (blk_below HP2.out hHeld) 0).trans rfl;have d1:=(blk_cell (blk_below HN2.out hHeld) 0).trans rfl;have d2:=(blk_cell (blk_below HN2.out hHeld) 1).trans rfl;have d3:=(blk_cell (blk_below HN2.out hHeld) 2).trans rfl;have d4:=(blk_cell (blk_below HN2.out hHeld) 3).trans rfl;have d5:=(blk_cell (blk_below HN2.out hHeld) 4).trans rfl;have d6:=(blk_cell (blk_below HN2.out hHeld) 5).trans rfl;go_simp;rfl)
  refine goesCL_ (N:=(some 45)) Try.func38 (by kernel_rfl) rfl (by rfl) rfl rfl (HFD.out _ hHeld) (by simp [Act.eval]) ?_
  rintro e x5_2 ⟨rfl,hb5_2⟩
  refine ⟨_,rfl,?_⟩
  simp only [Act.put,List.setIfInBounds_toArray,List.set_cons_zero,List.set_cons_succ]
  refine pl_held (B:=v2.heap.size) (v:=v2) (below_then hHeld hHeld.size hb5_2) (fun hHeld => ?_)
  refine pp_ ?_ ?_ ?_
  refine pp_ ?_ ?_ ?_
  refine pp_ ?_ ?_ ?_
  refine pp_ ?_ ?_ ?_
  refine pp_ ?_ ?_ ?_
  refine pl_nil ?_
  have HB4:=Aside0.mk (below_then HB3.out HB3.out.size hHeld)
  have HP3:=Aside0.mk (blk_below HP2.out hHeld)
  have HN3:=Aside0.mk (blk_below HN2.out hHeld)
  have HC3:=Aside0.mk (Kd.C_below HC2.out hHeld)
  obtain ⟨v3,hv3⟩ : ∃ v3,v3 = x5_2:=⟨_,rfl⟩
  have HV3:=Aside0.mk (below_then HV2.out HV2.out.size hHeld)
  rw [← hv3] at HB4 HP3 HN3 HC3 HV3 ⊢
  clear hv3 hHeld HN2 HP2 HB3 HFD HV2
  have HKI:=Lib.hid hki
  have HKn : Aside0 (k < n):=⟨by rw [HNF.out];exact hk⟩
  have g1 : decide ((k : Int) < 0) = false:=decide_eq_false (by omega)
  have g2 : decide ((n : Int) ≤ (k : Int)) = false:=decide_eq_false (by have:=HKn.out;omega)
  have g2n : decide (n ≤ k) = false:=decide_eq_false (by have:=HKn.out;omega)
  have g3 : decide ((i0 : Int) < (k : Int)) = false:=decide_eq_false (by have:=HKI.out;omega)
  have g3n : decide (i0 < k) = false:=decide_eq_false (by have:=HKI.out;omega)
  have rK : IntKind.i64.wrap (K : Int) = (K : Int):=IntWalk.i64_in _ (by have:=HKN.out;omega)
  clear hki
  go_upto_region 6 with (fail)
  refine pl_start ?_
  refine pl_held (B:=v3.heap.size) (v:=v3) (Below.refl _ _) (fun hHeld => ?_)
  refine pp_ ?_ ?_ ?_
  refine pp_ ?_ ?_ ?_
  refine pp_ ?_ ?_ ?_
  refine pp_ ?_ ?_ ?_
  refine pp_ ?_ ?_ ?_
  refine pp_ ?_ ?_ ?_
  refine pp_ ?_ ?_ ?_
  refine pp_ ?_ ?_ ?_
  refine pp_ ?_ ?_ ?_
  refine pp_ ?_ ?_ ?_ (y:=by have d0:=(blk_cell (blk_below HP3.out hHeld) 0).trans rfl;go_simp;rfl)
  refine pp_ ?_ ?_ ?_
  refine pp_ ?_ ?_ ?_
  refine pp_ ?_ ?_ ?_
  refine pp_ ?_ ?_ ?_
  refine pp_ ?_ ?_ ?_
  refine pp_ ?_ ?_ ?_
  refine pp_ ?_ ?_ ?_
  refine pp_ ?_ ?_ ?_
  refine pp_ ?_ ?_ ?_ (y:=by have d0:=(blk_cell (blk_below HP3.out hHeld) 0).trans rfl;go_simp;rfl)
  refine pp_ ?_ ?_ ?_
  refine pp_ (.int .i64 (i0 : Int)) ?_ ?_ (y:=by go_simp;rw [if_neg (by omega),HR1.out])
  refine pp_ ?_ ?_ ?_
  refine pp_ ?_ ?_ ?_
  refine pl_nil ?_
  clear g1 g2 g2n g3 g3n rK hHeld
  have hCF:=HC3.out
  rw [HNF.out] at hCF
  obtain ⟨ad',Ak,ck,ead,y0,y1,y2,y3,y4,y5,hcp,hCp⟩:=at_node hCF k hk
  cases ead
  rw [HKL.out] at y0 y1 y2 y3 y4
  obtain ⟨nk,hnk⟩ : ∃ nk,nk = (F[k]'hk).packs.length:=⟨_,rfl⟩
  rw [← hnk] at y5
  have k0 : (0 : Int) ≤ (k : Int):=by omega
  have k1 : (k : Int) < (n : Int):=by have:=HKn.out;omega
  have c0:=(blk_cell HP3.out 0).trans rfl
  clear hnk hcp hCp hCF
  go_upto_region 9 with (fail)
  obtain ⟨z8,hz8⟩ : ∃ z8,z8 = v3.heap.size:=⟨_,rfl⟩
  obtain ⟨v4,hv4⟩ : ∃ v4,v4 = v3.alloc (.cells #[.int .i64 x.lab.sym,.int .i64 x.lab.rule,.int .i64 x.lab.dot,.int .i64 x.lab.i,.int .i64 x.lab.j,.slice Ak nk ck] 66 (0,0)):=⟨_,rfl⟩
  have hb4 : Below v3.heap.size v3 v4:=by rw [hv4];exact below_alloc (Below.refl _ _) _
  have HZ8 : Aside0 (v4.heap[z8]? = some (.cells #[.int .i64 x.lab.sym,.int .i64 x.lab.rule,.int .i64 x.lab.dot,.int .i64 x.lab.i,.int .i64 x.lab.j,.slice Ak nk ck] 66 (0,0))):=⟨by rw [hv4,hz8];exact blk_new v3 _⟩
  simp only [← hv4]
  simp only [← hz8]
  have HB5:=Aside0.mk (below_then HB4.out HB4.out.size hb4)
  have HP4:=Aside0.mk (blk_below HP3.out hb4)
  have HN4:=Aside0.mk (blk_below HN3.out hb4)
  have HC4:=Aside0.mk (Kd.C_below HC3.out hb4)
  have HV4:=Aside0.mk (below_then HV3.out HV3.out.size hb4)
  clear hv4 hz8 hb4 HV3 HB4 HP3 HN3 HC3 c0 y0 y1 y2 y3 y4 y5 k0 k1
  have c0:=(blk_cell HZ8.out 0).trans rfl
  have c1:=(blk_cell HZ8.out 1).trans rfl
  have c2:=(blk_cell HZ8.out 2).trans rfl
  have c3:=(blk_cell HZ8.out 3).trans rfl
  have c4:=(blk_cell HZ8.out 4).trans rfl
  have d0:=(blk_cell HN4.out 0).trans rfl
  have d1:=(blk_cell HN4.out 1).trans rfl
  have d2:=(blk_cell HN4.out 2).trans rfl
  have d3:=(blk_cell HN4.out 3).trans rfl
  have d4:=(blk_cell HN4.out 4).trans rfl
  go_upto_region 11 with (fail)
  clear c0 c1 c2 c3 c4 d0 d1 d2 d3 d4 HZ8
  have c0:=(blk_cell HP4.out 0).trans rfl
  go_wp2
  clear c0
  go_loop [10,9] (fun iv tv => ∃ (i : Nat) (t : Int),i ≤ n ∧ iv = .int .i64 i ∧ tv = .int .i64 t ∧ 0 ≤ t ∧ t < 1099511627776) (fun iv _ => n - (intOf iv).toNat)
  case atStart => exact ⟨0,0,Nat.zero_le _,rfl,rfl,by omega,by omega⟩
  case round =>
    obtain ⟨i,t,hi,rfl,rfl,ht0,ht1⟩:=hrel
    have c0:=(blk_cell HP4.out 0).trans rfl
    by_cases hin : i < n
    · have hif' : i < F.length:=by rw [← HNF.out];exact hin
      have hCF:=HC4.out
      rw [HNF.out] at hCF
      obtain ⟨adi,Ai,ci,ead,-,-,-,-,y4,-,-,-⟩:=at_node hCF i hif'
      cases ead
      obtain ⟨J,hJ⟩ : ∃ J,J = (F[i]'hif').lab.j:=⟨_,rfl⟩
      rw [← hJ] at y4
      have j0 : (0 : Int) ≤ (i : Int):=by omega
      have j1 : (i : Int) < (n : Int):=by omega
      clear hJ hCF
      by_cases hJ : J < 1099511627776
      · go_wp2
        go_roundw
        case rel =>
          refine ⟨i + 1,_,by omega,by go_num,rfl,?_,?_⟩
          · split <;> go_num
          · split <;> go_num
        case measure => simp [intOf];omega
      · go_wp2
        go_roundw
        case rel => exact ⟨i + 1,t,by omega,by go_num,rfl,ht0,ht1⟩
        case measure => simp [intOf];omega
    · have hie : ¬ (i : Int) < (n : Int):=by omega
      have t4:=(blk_cell HN4.out 4).trans rfl
      have f4:=blk_frozen HN4.out 4
      have tw : IntKind.i64.wrap (t + 1) = t + 1:=IntWalk.i64_in _ (by omega)
      go_upto_region 18 with (fail)
      obtain ⟨v5,hv5⟩ : ∃ v5,v5 = v4.setCell ⟨z,4,none⟩ (.int .i64 (t + 1)):=⟨_,rfl⟩
      have HV5 : Aside0 (Below v.heap.size v v5):=⟨by rw [hv5];exact below_set HV4.out hzl.out _ _⟩
      have HN5 : Aside0 (v5.heap[z]? = some (.cells #[.int .i64 x.lab.sym,.int .i64 x.lab.rule,.int .i64 x.lab.dot,.int .i64 x.lab.i,.int .i64 (t + 1),.slice none 0 0] 66 (0,0))):=⟨by rw [hv5];exact blk_set HN4.out 4 _⟩
      simp only [← hv5]
      have HP5:=Aside0.mk (blk_below HP1.out HV5.out)
      have HC5:=Aside0.mk (Kd.C_below HC1.out HV5.out)
      have HB6:=Aside0.mk (below_then HB1.out HB1.out.size HV5.out)
      obtain ⟨x',hx'⟩ : ∃ x' : Lab,x' = ⟨x.lab.sym,x.lab.rule,x.lab.dot,x.lab.i,t + 1⟩:=⟨_,rfl⟩
      have e0 : x.lab.sym = x'.sym:=by rw [hx']
      have e1 : x.lab.rule = x'.rule:=by rw [hx']
      have e2 : x.lab.dot = x'.dot:=by rw [hx']
      have e3 : x.lab.i = x'.i:=by rw [hx']
      have e4 : t + 1 = x'.j:=by rw [hx']
      rw [e0,e1,e2,e3,e4] at HN5
      obtain ⟨k',hk'⟩ : ∃ k',k' = (if 0 ≤ posN F x' then posN F x' else 0):=⟨_,rfl⟩
      obtain ⟨b,hb⟩ : ∃ b,b = hasN F x':=⟨_,rfl⟩
      have HFD : Aside0 (∀ W,Below v5.heap.size v5 W → Calls Try.prog 38 #[.agg #[.slice (some ad) n c],.agg #[.int .i64 x'.sym,.int .i64 x'.rule,.int .i64 x'.dot,.int .i64 x'.i,.int .i64 x'.j,.slice none 0 0]] W fun e w' => e = .returned (.tuple #[.int .i64 k',.bool b]) ∧ Below W.heap.size W w'):=⟨fun W hW => by
        have:=find_n (some ad) n c F x' none 0 0 W (Kd.C_below HC5.out hW)
        rw [posN_has,← hb,← hk'] at this
        exact this⟩
      have HBB:=Lib.hid hb
      clear hb hk' hx' e0 e1 e2 e3 e4 hv5 tw t4 f4 hie c0 hi ht0 ht1 HN4 HP4 HC4 HB5 HV4
      refine pl_start ?_
      refine pl_held (B:=v5.heap.size) (v:=v5) (Below.refl _ _) (fun hHeld => ?_)
      refine pp_ ?_ ?_ ?_ (y:=by have d0:=(blk_cell (blk_below HP5.out hHeld) 0).trans rfl;have d1:=(blk_cell (blk_below HN5.out hHeld) 0).trans rfl;have d2:=(blk_cell (blk_below HN5.out hHeld) 1).trans rfl;have d3:=(blk_cell (blk_below HN5.out hHeld) 2).trans rfl;have d4:=(blk_cell (blk_below HN5.out hHeld) 3).trans rfl;have d5:=(blk_cell (blk_below HN5.out hHeld) 4).trans rfl;have d6:=(blk_cell (blk_below HN5.out hHeld) 5).trans rfl;go_simp;rfl)
      refine pp_ ?_ ?_ ?_ (y:=by have d0:=(blk_cell (blk_below HP5.out hHeld) 0).trans rfl;have d1:=(blk_cell (blk_below HN5.out hHeld) 0).trans rfl;have d2:=(blk_cell (blk_below HN5.out hHeld) 1).trans rfl;have d3:=(blk_cell (blk_below HN5.out hHeld) 2).trans rfl;have d4:=(blk_cell (blk_below HN5.out hHeld) 3).trans rfl;have d5:=(blk_cell (blk_below HN5.out hHeld) 4).trans rfl;have d6:=(blk_cell (blk_below HN5.out hHeld) 5).trans rfl;go_simp;rfl)
      refine goesCL_ (N:=(some 137)) Try.func38 (by kernel_rfl) rfl (by rfl) rfl rfl (HFD.out _ hHeld) (by simp [Act.eval]) ?_
      rintro e x18_2 ⟨rfl,hb18_2⟩
      refine ⟨_,rfl,?_⟩
      simp only [Act.put,List.setIfInBounds_toArray,List.set_cons_zero,List.set_cons_succ]
      refine pl_held (B:=v5.heap.size) (v:=v5) (below_then hHeld hHeld.size hb18_2) (fun hHeld => ?_)
      refine pp_ ?_ ?_ ?_
      refine pp_ ?_ ?_ ?_
      refine pp_ ?_ ?_ ?_
      refine pp_ ?_ ?_ ?_
      refine pp_ ?_ ?_ ?_
      refine pl_nil ?_
      have HB7:=Aside0.mk (below_then HB6.out HB6.out.size hHeld)
      have HP6:=Aside0.mk (blk_below HP5.out hHeld)
      have HN6:=Aside0.mk (blk_below HN5.out hHeld)
      have HC6:=Aside0.mk (Kd.C_below HC5.out hHeld)
      obtain ⟨v6,hv6⟩ : ∃ v6,v6 = x18_2:=⟨_,rfl⟩
      rw [← hv6] at HB7 HP6 HN6 HC6 ⊢
      clear hv6 hHeld HN5 HP5 HB6 HFD HV5 HC5
      go_wp2
      go_loopw [14,13] (fun iv bv wr => ∃ i : Nat,i ≤ n ∧ iv = .int .i64 i ∧ bv = .bool (hasN (F.take i) x') ∧ Aside0 (Below v6.heap.size v6 wr)) (fun iv _ _ => n - (intOf iv).toNat)
      case atStart => exact ⟨0,Nat.zero_le _,rfl,by simp [hasN],⟨Below.refl _ _⟩⟩
      case round =>
        obtain ⟨i,hi,rfl,rfl,HB⟩:=hrel
        rename World => wi
        have HPi:=Aside0.mk (blk_below HP6.out HB.out)
        have HNi:=Aside0.mk (blk_below HN6.out HB.out)
        have c0:=(blk_cell HPi.out 0).trans rfl
        by_cases hin : i < n
        · have hif' : i < F.length:=by rw [← HNF.out];exact hin
          have hCF:=Kd.C_below HC6.out HB.out
          rw [HNF.out] at hCF
          obtain ⟨adi,Ai,ci,ead,y0,y1,y2,y3,y4,y5,hcp,hCp⟩:=at_node hCF i hif'
          cases ead
          have HTK:=Lib.hid (hasN_take (x:=x') hif')
          obtain ⟨y,hy⟩ : ∃ y,y = F[i]'hif':=⟨_,rfl⟩
          rw [← hy] at y0 y1 y2 y3 y4 y5 HTK
          obtain ⟨ny,hny⟩ : ∃ ny,ny = y.packs.length:=⟨_,rfl⟩
          rw [← hny] at y5
          have j0 : (0 : Int) ≤ (i : Int):=by omega
          have j1 : (i : Int) < (n : Int):=by omega
          clear hy hny hcp hCp hCF
          go_upto_region 24 with (fail)
          obtain ⟨z9,hz9⟩ : ∃ z9,z9 = wi.heap.size:=⟨_,rfl⟩
          obtain ⟨wj,hwj⟩ : ∃ wj,wj = wi.alloc (.cells #[.int .i64 y.lab.sym,.int .i64 y.lab.rule,.int .i64 y.lab.dot,.int .i64 y.lab.i,.int .i64 y.lab.j,.slice Ai ny ci] 66 (0,0)):=⟨_,rfl⟩
          have hbj : Below wi.heap.size wi wj:=by rw [hwj];exact below_alloc (Below.refl _ _) _
          have HNJ : Aside0 (wj.heap[z9]? = some (.cells #[.int .i64 y.lab.sym,.int .i64 y.lab.rule,.int .i64 y.lab.dot,.int .i64 y.lab.i,.int .i64 y.lab.j,.slice Ai ny ci] 66 (0,0))):=⟨by rw [hwj,hz9];exact blk_new wi _⟩
          simp only [← hwj]
          simp only [← hz9]
          have HB8:=Aside0.mk (below_then HB.out HB.out.size hbj)
          have HN7:=Aside0.mk (blk_below HNi.out hbj)
          clear hwj hz9 hbj y0 y1 y2 y3 y4 y5 j0 j1 c0 HPi HNi
          have c0:=(blk_cell HNJ.out 0).trans rfl
          have c1:=(blk_cell HNJ.out 1).trans rfl
          have c2:=(blk_cell HNJ.out 2).trans rfl
          have c3:=(blk_cell HNJ.out 3).trans rfl
          have c4:=(blk_cell HNJ.out 4).trans rfl
          have d0:=(blk_cell HN7.out 0).trans rfl
          have d1:=(blk_cell HN7.out 1).trans rfl
          have d2:=(blk_cell HN7.out 2).trans rfl
          have d3:=(blk_cell HN7.out 3).trans rfl
          have d4:=(blk_cell HN7.out 4).trans rfl
          by_cases hyx : y.lab = x'
          · have n0 : (y.lab.sym == x'.sym) = true:=by rw [hyx];simp
            have n1 : (y.lab.rule == x'.rule) = true:=by rw [hyx];simp
            have n2 : (y.lab.dot == x'.dot) = true:=by rw [hyx];simp
            have n3 : (y.lab.i == x'.i) = true:=by rw [hyx];simp
            have n4 : (y.lab.j == x'.j) = true:=by rw [hyx];simp
            have hq : Hid (hasN (F.take (i + 1)) x' = true):=Lib.hid (by rw [HTK.out,decide_eq_true hyx,Bool.or_true])
            clear hyx
            obtain ⟨bi,hbi⟩ : ∃ bi,bi = hasN (F.take i) x':=⟨_,rfl⟩
            rw [← hbi]
            clear hbi
            cases bi
            · go_wp2
              go_roundw
              case rel => exact ⟨i + 1,by omega,by go_num,by rw [hq.out],HB8⟩
              case measure => simp [intOf];omega
            · go_wp2
              go_roundw
              case rel => exact ⟨i + 1,by omega,by go_num,by rw [hq.out],HB8⟩
              case measure => simp [intOf];omega
          · obtain ⟨bi,hbi⟩ : ∃ bi,bi = hasN (F.take i) x':=⟨_,rfl⟩
            have hq : Hid (hasN (F.take (i + 1)) x' = bi):=Lib.hid (by rw [HTK.out,decide_eq_false hyx,Bool.or_false,hbi])
            rw [← hbi]
            clear hbi HTK
            cases bi
            · rcases lab_ne hyx with h | ⟨h0,h⟩ | ⟨h0,h1,h⟩ | ⟨h0,h1,h2,h⟩ | ⟨h0,h1,h2,h3,h⟩
              · have n0 : (y.lab.sym == x'.sym) = false:=by simpa using h
                clear hyx h
                go_wp2
                go_roundw
                case rel => exact ⟨i + 1,by omega,by go_num,by rw [hq.out],HB8⟩
                case measure => simp [intOf];omega
              · have n0 : (y.lab.sym == x'.sym) = true:=by simpa using h0
                have n1 : (y.lab.rule == x'.rule) = false:=by simpa using h
                clear hyx h h0
                go_wp2
                go_roundw
                case rel => exact ⟨i + 1,by omega,by go_num,by rw [hq.out],HB8⟩
                case measure => simp [intOf];omega
              · have n0 : (y.lab.sym == x'.sym) = true:=by simpa using h0
                have n1 : (y.lab.rule == x'.rule) = true:=by simpa using h1
                have n2 : (y.lab.dot == x'.dot) = false:=by simpa using h
                clear hyx h h0 h1
                go_wp2
                go_roundw
                case rel => exact ⟨i + 1,by omega,by go_num,by rw [hq.out],HB8⟩
                case measure => simp [intOf];omega
              · have n0 : (y.lab.sym == x'.sym) = true:=by simpa using h0
                have n1 : (y.lab.rule == x'.rule) = true:=by simpa using h1
                have n2 : (y.lab.dot == x'.dot) = true:=by simpa using h2
                have n3 : (y.lab.i == x'.i) = false:=by simpa using h
                clear hyx h h0 h1 h2
                go_wp2
                go_roundw
                case rel => exact ⟨i + 1,by omega,by go_num,by rw [hq.out],HB8⟩
                case measure => simp [intOf];omega
              · have n0 : (y.lab.sym == x'.sym) = true:=by simpa using h0
                have n1 : (y.lab.rule == x'.rule) = true:=by simpa using h1
                have n2 : (y.lab.dot == x'.dot) = true:=by simpa using h2
                have n3 : (y.lab.i == x'.i) = true:=by simpa using h3
                have n4 : (y.lab.j == x'.j) = false:=by simpa using h
                clear hyx h h0 h1 h2 h3
                go_wp2
                go_roundw
                case rel => exact ⟨i + 1,by omega,by go_num,by rw [hq.out],HB8⟩
                case measure => simp [intOf];omega
            · clear hyx
              go_wp2
              go_roundw
              case rel => exact ⟨i + 1,by omega,by go_num,by rw [hq.out],HB8⟩
              case measure => simp [intOf];omega
        · have hie : ¬ (i : Int) < (n : Int):=by omega
          have hb : Hid (hasN (F.take i) x' = b):=Lib.hid (by rw [HBB.out,show i = F.length by have:=HNF.out;omega,List.take_length])
          rw [hb.out]
          have HB8:=Aside0.mk (below_then HB7.out HB7.out.size HB.out)
          have hbb : (b == b) = true:=by simp
          go_wp2_with (go_at_call 33;refine (wakes25_c _).mono ?_;rintro e w9 ⟨rfl,hb9⟩)
          go_ret
          exact ⟨rfl,below_then HB8.out HB8.out.size hb9⟩
end Go.Proofs.Ytmkgcjhimajgiaa

