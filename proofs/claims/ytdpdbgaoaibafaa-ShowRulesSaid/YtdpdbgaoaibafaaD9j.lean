/- The law ShowRules,walked: it answers true (printed by mkD9.py). -/
import Derived.Test.YtdpdbgaoaibafaaD8j
set_option linter.unusedVariables false
set_option linter.unusedSimpArgs false
namespace Go.Proofs.Ytdpdbgaoaibafaa
open Go.RowKit Go.Proofs.YtdpdbgaoaibafaaW.PrintWords Go.Proofs.YtdpdbgaoaibafaaW.PrintLast

theorem ruleS_c (g : Gram) (A1 A2 A3 : Option Addr) (c1 c2 c3 : Nat) (i : Int) (w : World) (hg : RepG w g A1 A2 A3 c1 c2 c3) {s : ByteArray} (ho : ruleO g i = some s) :
    Calls Try.prog 20 #[.agg #[.slice A1 g.terms.length c1,.slice A2 g.names.length c2,.slice A3 g.rules.length c3],.int .i64 i] w fun e w' => e = .returned (.tuple #[.string s,.bool true]) ∧ Below w.heap.size w w':=rule_c g A1 A2 A3 c1 c2 c3 i w hg ho
theorem ruleN_c (g : Gram) (A1 A2 A3 : Option Addr) (c1 c2 c3 : Nat) (i : Int) (w : World) (hg : RepG w g A1 A2 A3 c1 c2 c3) (ho : ruleO g i = none) :
    Calls Try.prog 20 #[.agg #[.slice A1 g.terms.length c1,.slice A2 g.names.length c2,.slice A3 g.rules.length c3],.int .i64 i] w fun e w' => e = .returned (.tuple #[.string ⟨#[]⟩,.bool false]) ∧ Below w.heap.size w w':=rule_c g A1 A2 A3 c1 c2 c3 i w hg ho
set_option maxRecDepth 100000 in
set_option maxHeartbeats 16000000 in
theorem showRules_c (g : Gram) (A1 A2 A3 : Option Addr) (c1 c2 c3 : Nat) (w : World) (hg : RepG w g A1 A2 A3 c1 c2 c3) (hz : Sized g) :
    Calls Try.prog 5 #[.agg #[.slice A1 g.terms.length c1,.slice A2 g.names.length c2,.slice A3 g.rules.length c3]] w fun e w' => e = .returned (.bool true) ∧ Below w.heap.size w w':=by
  obtain ⟨v0,hv0⟩ : ∃ v0 : World,v0 = w.alloc (.cells #[.slice A1 g.terms.length c1,.slice A2 g.names.length c2,.slice A3 g.rules.length c3] 25 (0,0)):=⟨_,rfl⟩
  have HB0 : Aside0 (Below w.heap.size w v0):=⟨by rw [hv0];exact below_alloc (Below.refl _ _) _⟩
  have HP0 : Aside0 (v0.heap[w.heap.size]? = some (.cells #[.slice A1 g.terms.length c1,.slice A2 g.names.length c2,.slice A3 g.rules.length c3] 25 (0,0))):=⟨by rw [hv0];exact blk_new w _⟩
  have HG0:=Aside0.mk (hg.below_ HB0.out)
  have HZ:=Aside0.mk hz
  clear hg hz
  obtain ⟨b,hb⟩ : ∃ b,goodF g = b:=⟨_,rfl⟩
  have HGD:=Lib.hid hb
  obtain ⟨⟨s,x⟩,ho⟩ : ∃ o,textO g = o:=⟨_,rfl⟩
  have HO:=Lib.hid ho
  clear hb ho
  go_enter Try.func5,Try.ntmps5
  go_upto_region 1 with (fail)
  simp only [← hv0]
  clear hv0
  refine pl_start ?_
  refine pl_held (B:=v0.heap.size) (v:=v0) (Below.refl _ _) (fun hHeld => ?_)
  refine pp_ ?_ ?_ ?_ (y:=by have d0:=(blk_cell (blk_below HP0.out hHeld) 0).trans rfl;have d1:=(blk_cell (blk_below HP0.out hHeld) 1).trans rfl;have d2:=(blk_cell (blk_below HP0.out hHeld) 2).trans rfl;go_simp;rfl)
  refine goesCL_ (N:=(some 15)) Try.func15 (by kernel_rfl) rfl (by rfl) rfl rfl (largeZ_c g A1 A2 A3 c1 c2 c3 _ (HG0.out.below_ hHeld)) (by simp [Act.eval]) ?_
  rintro e x1_1 ⟨⟨lb,rfl,hs⟩,hb1_1⟩
  refine ⟨_,rfl,?_⟩
  simp only [Act.put,List.setIfInBounds_toArray,List.set_cons_zero,List.set_cons_succ]
  have HS:=Aside0.mk hs
  clear hs
  refine pl_held (B:=v0.heap.size) (v:=v0) (below_then hHeld hHeld.size hb1_1) (fun hHeld => ?_)
  refine pl_nil ?_
  have HX1:=Aside0.mk hHeld
  cases lb
  · have HS1:=Aside0.mk (HS.out rfl)
    have hr200:=HS1.out.small.rules
    have ht4:=HS1.out.small.terms
    have hn4:=HS1.out.small.names
    go_upto_region 3 with (fail)
    refine pl_start ?_
    refine pl_held (B:=v0.heap.size) (v:=v0) (HX1.out) (fun hHeld => ?_)
    refine pp_ ?_ ?_ ?_ (y:=by have d0:=(blk_cell (blk_below HP0.out hHeld) 0).trans rfl;have d1:=(blk_cell (blk_below HP0.out hHeld) 1).trans rfl;have d2:=(blk_cell (blk_below HP0.out hHeld) 2).trans rfl;go_simp;rfl)
    refine goesCL_ (N:=(some 19)) Try.func18 (by kernel_rfl) rfl (by rfl) rfl rfl (text_c g A1 A2 A3 c1 c2 c3 _ (HG0.out.below_ hHeld) HO.out) (by simp [Act.eval]) ?_
    rintro e x3_1 ⟨rfl,hb3_1⟩
    refine ⟨_,rfl,?_⟩
    simp only [Act.put,List.setIfInBounds_toArray,List.set_cons_zero,List.set_cons_succ]
    refine pl_held (B:=v0.heap.size) (v:=v0) (below_then hHeld hHeld.size hb3_1) (fun hHeld => ?_)
    refine pp_ ?_ ?_ ?_
    refine pp_ ?_ ?_ ?_
    refine pp_ ?_ ?_ ?_
    refine pp_ ?_ ?_ ?_
    refine pp_ ?_ ?_ ?_
    refine pl_nil ?_
    have HX3:=Aside0.mk hHeld
    clear hHeld hb1_1 hb3_1
    cases b
    · go_wp2
      go_loopw [6,5] (fun a t wr => ∃ k : Nat,k ≤ g.rules.length ∧ a = .int .i64 k ∧ (∃ S : ByteArray,t = .string S ∧ S.size ≤ 3 * k) ∧ Aside0 (Below v0.heap.size v0 wr)) (fun a _ _ => g.rules.length - (intOf a).toNat)
      case atStart => exact ⟨0,Nat.zero_le _,rfl,⟨_,rfl,Nat.le_refl _⟩,HX3⟩
      case round =>
        clear HX3
        obtain ⟨k,hk,rfl,⟨S,rfl,hS3⟩,HB⟩:=hrel
        rename World => wi
        by_cases hlt : k < g.rules.length
        · have hrr:=HS1.out.small.rights _ (List.getElem_mem hlt)
          have hro : ruleO g (k : Int) = none:=ruleO_none (.inl HGD.out)
          obtain ⟨ad,Ar,cr,eA,p0,p1,hrc,hri⟩:=at_rule HG0.out.rules k hlt
          obtain ⟨r,hr⟩ : ∃ r,r = g.rules[k]'hlt:=⟨_,rfl⟩
          rw [← hr] at hrr p0 p1 hrc hri
          obtain ⟨rl,rr⟩:=r
          dsimp only at hrr p0 p1 hrc hri
          subst eA
          have P0:=Aside0.mk p0
          have P1:=Aside0.mk p1
          have HRI:=Aside0.mk hri
          have HRO:=Lib.hid hro
          obtain ⟨nl,hnl⟩ : ∃ nl,nameD g rl = nl:=⟨_,rfl⟩
          obtain ⟨cl,hcl⟩ : ∃ cl,(nameF g rl).isSome = cl:=⟨_,rfl⟩
          have hns:=nameD_sz HS1.out rl
          rw [hnl] at hns
          have HNL:=Lib.hid hnl
          have HCL:=Lib.hid hcl
          clear hr hnl hcl p0 p1 hri hro
          have i1 : (k : Int) < (g.rules.length : Int):=by omega
          have i0 : (0 : Int) ≤ (k : Int):=by omega
          have dm : decide ((k : Int) < (g.rules.length : Int)) = true:=decide_eq_true i1
          go_upto_region 6 with (fail)
          refine pl_start ?_
          refine pl_held (B:=v0.heap.size) (v:=v0) (HB.out) (fun hHeld => ?_)
          refine pp_ ?_ ?_ ?_
          refine pp_ ?_ ?_ ?_
          refine pp_ ?_ ?_ ?_ (y:=by have d0:=(blk_cell (blk_below HP0.out hHeld) 0).trans rfl;have d1:=(blk_cell (blk_below HP0.out hHeld) 1).trans rfl;have d2:=(blk_cell (blk_below HP0.out hHeld) 2).trans rfl;go_simp;rfl)
          refine pp_ ?_ ?_ ?_
          refine pp_ ?_ ?_ ?_
          refine pl_nil ?_
          go_upto_region 8 with (fail)
          refine pl_start ?_
          refine pl_held (B:=v0.heap.size) (v:=v0) (HB.out) (fun hHeld => ?_)
          refine pp_ ?_ ?_ ?_ (y:=by have d0:=(blk_cell (blk_below HP0.out hHeld) 0).trans rfl;have d1:=(blk_cell (blk_below HP0.out hHeld) 1).trans rfl;have d2:=(blk_cell (blk_below HP0.out hHeld) 2).trans rfl;go_simp;rfl)
          refine pp_ ?_ ?_ ?_
          refine goesCL_ (N:=(some 32)) Try.func20 (by kernel_rfl) rfl (by rfl) rfl rfl (ruleN_c g A1 A2 (some ad) c1 c2 c3 (k : Int) _ (HG0.out.below_ hHeld) HRO.out) (by simp [Act.eval]) ?_
          rintro e x8_2 ⟨rfl,hb8_2⟩
          refine ⟨_,rfl,?_⟩
          simp only [Act.put,List.setIfInBounds_toArray,List.set_cons_zero,List.set_cons_succ]
          refine pl_held (B:=v0.heap.size) (v:=v0) (below_then hHeld hHeld.size hb8_2) (fun hHeld => ?_)
          refine pp_ ?_ ?_ ?_
          refine pp_ ?_ ?_ ?_
          refine pp_ ?_ ?_ ?_
          refine pp_ ?_ ?_ ?_
          refine pp_ ?_ ?_ ?_
          refine pl_nil ?_
          go_upto_region 9 with (fail)
          refine pl_start ?_
          refine pl_held (B:=v0.heap.size) (v:=v0) (hHeld) (fun hHeld => ?_)
          refine pp_ ?_ ?_ ?_
          refine pp_ ?_ ?_ ?_ (y:=by have d0:=(blk_cell (blk_below HP0.out hHeld) 0).trans rfl;have d1:=(blk_cell (blk_below HP0.out hHeld) 1).trans rfl;have d2:=(blk_cell (blk_below HP0.out hHeld) 2).trans rfl;go_simp;rfl)
          refine goesCL_ (N:=(some 37)) Try.func24 (by kernel_rfl) rfl (by rfl) rfl rfl (good1_v g A1 A2 (some ad) c1 c2 c3 _ (HG0.out.below_ hHeld) HZ.out HGD.out) (by simp [Act.eval]) ?_
          rintro e x9_2 ⟨rfl,hb9_2⟩
          refine ⟨_,rfl,?_⟩
          simp only [Act.put,List.setIfInBounds_toArray,List.set_cons_zero,List.set_cons_succ]
          refine pl_held (B:=v0.heap.size) (v:=v0) (below_then hHeld hHeld.size hb9_2) (fun hHeld => ?_)
          refine pp_ ?_ ?_ ?_
          refine pp_ ?_ ?_ ?_
          refine pp_ ?_ ?_ ?_
          refine pp_ ?_ ?_ ?_
          refine pp_ ?_ ?_ ?_
          refine pp_ ?_ ?_ ?_
          refine pp_ ?_ ?_ ?_
          refine pp_ ?_ ?_ ?_
          refine pp_ ?_ ?_ ?_
          refine pl_nil ?_
          have HX9:=Aside0.mk hHeld
          have HP9:=Aside0.mk (blk_below HP0.out hHeld)
          have P09:=Aside0.mk (cell_at hHeld P0.out)
          have P19:=Aside0.mk (cell_at hHeld P1.out)
          have HG9:=Aside0.mk (HG0.out.below_ hHeld)
          have HR9:=Aside0.mk (Kd.C_below HRI.out hHeld)
          clear hHeld hb8_2 hb9_2
          go_upto_region 11 with (fail)
          refine start_ (n:=13) (S:=fun w' => Below x9_2.heap.size x9_2 w') (ds:=[]) (lb 13 0x0) (by kernel_rfl) rfl (by kernel_rfl) (below_drew1 (Below.refl _ _)) (fun hHeld => ?_)
          refine pu_ ?_ ?_ 1 (some 49) (lb 13 0x2) ?_
          refine pu_ ?_ ?_ 3 (some 51) (lb 13 0xa) ?_
          refine ta_ ?_ ?_ 0 (some 48) (lb 13 0xb) hHeld ?_ (y:=by rintro w' hS;have d0:=(blk_cell (blk_below HP9.out hS) 0).trans rfl;have d1:=(blk_cell (blk_below HP9.out hS) 1).trans rfl;have d2:=(blk_cell (blk_below HP9.out hS) 2).trans rfl;have d3:=cell_at hS P09.out;go_simp;with_reducible rfl)
          refine ta_ ?_ ?_ 2 (some 50) (lb 13 0xf) hHeld ?_ (y:=by rintro w' hS;have d0:=(blk_cell (blk_below HP9.out hS) 0).trans rfl;have d1:=(blk_cell (blk_below HP9.out hS) 1).trans rfl;have d2:=(blk_cell (blk_below HP9.out hS) 2).trans rfl;have d3:=cell_at hS P09.out;go_simp;with_reducible rfl)
          refine pu_ ?_ ?_ 4 (some 52) (lb 13 0x1f) ?_
          refine pu_ ?_ ?_ 5 (some 53) (lb 13 0x3f) ?_
          refine ta_ ?_ ?_ 6 (some 54) (lb 13 0x7f) hHeld ?_ (y:=by rintro w' hS;have d0:=(blk_cell (blk_below HP9.out hS) 0).trans rfl;have d1:=(blk_cell (blk_below HP9.out hS) 1).trans rfl;have d2:=(blk_cell (blk_below HP9.out hS) 2).trans rfl;have d3:=cell_at hS P09.out;go_simp;with_reducible rfl)
          refine on_ 7 (some 55) (lb 13 0xff) (fun K hK => ?_)
          (refine goesC_ Try.func25 (by kernel_rfl) rfl (by rfl) rfl rfl (nameB_c g A1 A2 (some ad) c1 c2 c3 rl _ (HG9.out.below_ hHeld) (by omega) HNL.out HCL.out) (by simp [Act.eval]) ?_;rintro e w9 ⟨rfl,hb9⟩;refine ⟨_,rfl,?_⟩;have HQ9:=Aside0.mk (below_then hHeld hHeld.size hb9);clear hb9;refine hK.out _ _ HQ9.out (fun hHeld => ?_))
          clear hK K
          refine nm_ ?_ (some 55) ?_
          refine pu_ ?_ ?_ 8 (some 47) (lb 13 0x1ff) ?_
          refine pu_ ?_ ?_ 9 (some 56) (lb 13 0x3ff) ?_
          refine pu_ ?_ ?_ 10 (some 57) (lb 13 0x7ff) ?_
          refine pu_ ?_ ?_ 11 (some 9) (lb 13 0xfff) ?_
          refine pu_ ?_ ?_ 12 (some 10) (lb 13 0x1fff) ?_
          refine done_ (by kernel_rfl) ?_
          have HX11:=Aside0.mk hHeld
          clear hHeld HQ9
          rename World => wj
          go_upto_region 12 with (fail)
          refine pl_start ?_
          refine pl_held (B:=x9_2.heap.size) (v:=x9_2) (HX11.out) (fun hHeld => ?_)
          refine pp_ ?_ ?_ ?_
          refine pp_ ?_ ?_ ?_ (y:=by go_simp;refine if_neg ?_;omega)
          refine pp_ ?_ ?_ ?_
          refine pl_nil ?_
          go_wp2
          go_loopw [11,9] (fun a t wr => ∃ m : Nat,m ≤ rr.length ∧ a = .int .i64 m ∧ t = .string (rowS g (nl ++ ⟨#[32,61]⟩) (rr.take m)) ∧ Aside0 (Below x9_2.heap.size x9_2 wr)) (fun a _ _ => rr.length - (intOf a).toNat)
          case atStart => exact ⟨0,Nat.zero_le _,rfl,rfl,HX11⟩
          case round =>
            clear HX11
            obtain ⟨m,hm,rfl,rfl,HBm⟩:=hrel
            rename World => wm
            have hs1:=rowS_sz HS1.out (rr.take m) (nl ++ ⟨#[32,61]⟩)
            rw [size_app,List.length_take,show (⟨#[32,61]⟩ : ByteArray).size = 2 from rfl] at hs1
            by_cases hmt : m < rr.length
            · have hsn:=rowS_succ (g:=g) (acc:=nl ++ ⟨#[32,61]⟩) hmt
              obtain ⟨ax,eAx,hc⟩:=at_int HR9.out m hmt
              subst eAx
              obtain ⟨T,hT⟩ : ∃ T,rowS g (nl ++ ⟨#[32,61]⟩) (rr.take m) = T:=⟨_,rfl⟩
              obtain ⟨x,hx⟩ : ∃ x,x = rr[m]'hmt:=⟨_,rfl⟩
              rw [← hx] at hsn hc
              rw [hT] at hsn hs1 ⊢
              obtain ⟨sx,hsx⟩ : ∃ sx,symS g x = sx:=⟨_,rfl⟩
              rw [hsx] at hsn
              have HSN:=Lib.hid hsn
              have HC:=Aside0.mk hc
              have hs2:=symS_sz HS1.out x
              rw [hsx] at hs2
              have hs3 : (⟨#[32]⟩ ++ sx : ByteArray).size ≤ 4003:=by rw [size_app,show (⟨#[32]⟩ : ByteArray).size = 1 from rfl];omega
              have hs4 : T.size ≤ 20000000:=by omega
              obtain ⟨nx,hnx⟩ : ∃ nx,nameD g x = nx:=⟨_,rfl⟩
              obtain ⟨cx,hcx⟩ : ∃ cx,(nameF g x).isSome = cx:=⟨_,rfl⟩
              obtain ⟨tx,htx⟩ : ∃ tx,termF g x = tx:=⟨_,rfl⟩
              have hnz:=nameD_sz HS1.out x
              rw [hnx] at hnz
              have h39 : (⟨#[39]⟩ ++ nx : ByteArray).size ≤ 4001:=by rw [size_app,show (⟨#[39]⟩ : ByteArray).size = 1 from rfl];omega
              have hsxe : sx = if tx = true then ⟨#[39]⟩ ++ nx ++ ⟨#[39]⟩ else nx:=by rw [← hsx,← hnx,← htx];rfl
              have HSE:=Lib.hid hsxe
              have HNX:=Lib.hid hnx
              have HCX:=Lib.hid hcx
              have HTX:=Lib.hid htx
              have j0 : (0 : Int) ≤ (m : Int):=by omega
              have j1 : (m : Int) < (rr.length : Int):=by omega
              have dn : decide ((m : Int) < (rr.length : Int)) = true:=decide_eq_true j1
              clear hsx hx hT hs1 hsn hc hnx hcx htx hsxe
              go_upto_region 14 with (fail)
              refine pl_start ?_
              refine pl_held (B:=x9_2.heap.size) (v:=x9_2) (HBm.out) (fun hHeld => ?_)
              refine pp_ ?_ ?_ ?_
              refine pp_ ?_ ?_ ?_
              refine pp_ ?_ ?_ ?_ (y:=by have d0:=(blk_cell (blk_below HP9.out hHeld) 0).trans rfl;have d1:=(blk_cell (blk_below HP9.out hHeld) 1).trans rfl;have d2:=(blk_cell (blk_below HP9.out hHeld) 2).trans rfl;have d0:=cell_at hHeld P09.out;have d1:=cell_at hHeld P19.out;go_simp;rfl)
              refine pp_ ?_ ?_ ?_
              refine pp_ ?_ ?_ ?_
              refine pp_ ?_ ?_ ?_
              refine pp_ ?_ ?_ ?_ (y:=by have d0:=(blk_cell (blk_below HP9.out hHeld) 0).trans rfl;have d1:=(blk_cell (blk_below HP9.out hHeld) 1).trans rfl;have d2:=(blk_cell (blk_below HP9.out hHeld) 2).trans rfl;have d0:=cell_at hHeld P09.out;have d1:=cell_at hHeld P19.out;go_simp;rfl)
              refine pp_ ?_ ?_ ?_
              refine pp_ ?_ ?_ ?_
              refine pl_nil ?_
              clear hHeld
              have HPm:=Aside0.mk (blk_below HP9.out HBm.out)
              have P0m:=Aside0.mk (cell_at HBm.out P09.out)
              have P1m:=Aside0.mk (cell_at HBm.out P19.out)
              have HCm:=Aside0.mk (cell_at HBm.out HC.out)
              have HGm:=Aside0.mk (HG9.out.below_ HBm.out)
              go_upto_region 16 with (fail)
              refine start_ (n:=16) (S:=fun w' => Below wm.heap.size wm w') (ds:=[]) (lb 16 0x0) (by kernel_rfl) rfl (by kernel_rfl) (below_drew1 (Below.refl _ _)) (fun hHeld => ?_)
              refine pu_ ?_ ?_ 1 (some 73) (lb 16 0x2) ?_
              refine pu_ ?_ ?_ 3 (some 75) (lb 16 0xa) ?_
              refine pu_ ?_ ?_ 7 (some 79) (lb 16 0x8a) ?_
              refine ta_ ?_ ?_ 0 (some 72) (lb 16 0x8b) hHeld ?_ (y:=by rintro w' hS;have d0:=(blk_cell (blk_below HPm.out hS) 0).trans rfl;have d1:=(blk_cell (blk_below HPm.out hS) 1).trans rfl;have d2:=(blk_cell (blk_below HPm.out hS) 2).trans rfl;have d3:=cell_at hS P0m.out;have d4:=cell_at hS P1m.out;have d5:=cell_at hS HCm.out;go_simp;with_reducible rfl)
              refine ta_ ?_ ?_ 2 (some 74) (lb 16 0x8f) hHeld ?_ (y:=by rintro w' hS;have d0:=(blk_cell (blk_below HPm.out hS) 0).trans rfl;have d1:=(blk_cell (blk_below HPm.out hS) 1).trans rfl;have d2:=(blk_cell (blk_below HPm.out hS) 2).trans rfl;have d3:=cell_at hS P0m.out;have d4:=cell_at hS P1m.out;have d5:=cell_at hS HCm.out;go_simp;with_reducible rfl)
              refine pu_ ?_ ?_ 4 (some 76) (lb 16 0x9f) ?_
              refine pu_ ?_ ?_ 5 (some 77) (lb 16 0xbf) ?_
              refine ta_ ?_ ?_ 6 (some 78) (lb 16 0xff) hHeld ?_ (y:=by rintro w' hS;have d0:=(blk_cell (blk_below HPm.out hS) 0).trans rfl;have d1:=(blk_cell (blk_below HPm.out hS) 1).trans rfl;have d2:=(blk_cell (blk_below HPm.out hS) 2).trans rfl;have d3:=cell_at hS P0m.out;have d4:=cell_at hS P1m.out;have d5:=cell_at hS HCm.out;go_simp;with_reducible rfl)
              refine pu_ ?_ ?_ 8 (some 80) (lb 16 0x1ff) ?_
              refine ta_ ?_ ?_ 9 (some 81) (lb 16 0x3ff) hHeld ?_ (y:=by rintro w' hS;have d0:=(blk_cell (blk_below HPm.out hS) 0).trans rfl;have d1:=(blk_cell (blk_below HPm.out hS) 1).trans rfl;have d2:=(blk_cell (blk_below HPm.out hS) 2).trans rfl;have d3:=cell_at hS P0m.out;have d4:=cell_at hS P1m.out;have d5:=cell_at hS HCm.out;go_simp;with_reducible rfl)
              refine on_ 10 (some 82) (lb 16 0x7ff) (fun K hK => ?_)
              (refine goesC_ Try.func25 (by kernel_rfl) rfl (by rfl) rfl rfl (nameB_c g A1 A2 (some ad) c1 c2 c3 x _ (HGm.out.below_ hHeld) (by omega) HNX.out HCX.out) (by simp [Act.eval]) ?_;rintro e w9 ⟨rfl,hb9⟩;refine ⟨_,rfl,?_⟩;have HQ9:=Aside0.mk (below_then hHeld hHeld.size hb9);clear hb9;refine hK.out _ _ HQ9.out (fun hHeld => ?_))
              clear hK K
              refine nm_ ?_ (some 82) ?_
              refine pu_ ?_ ?_ 11 (some 71) (lb 16 0xfff) ?_
              refine pu_ ?_ ?_ 12 (some 83) (lb 16 0x1fff) ?_
              refine pu_ ?_ ?_ 13 (some 84) (lb 16 0x3fff) ?_
              refine pu_ ?_ ?_ 14 (some 12) (lb 16 0x7fff) ?_
              refine pu_ ?_ ?_ 15 (some 13) (lb 16 0xffff) ?_
              refine done_ (by kernel_rfl) ?_
              have HX16:=Aside0.mk hHeld
              clear hHeld HQ9
              rename World => wn
              have HPn:=Aside0.mk (blk_below HPm.out HX16.out)
              have P0n:=Aside0.mk (cell_at HX16.out P0m.out)
              have P1n:=Aside0.mk (cell_at HX16.out P1m.out)
              have HCn:=Aside0.mk (cell_at HX16.out HCm.out)
              go_upto_region 17 with (fail)
              refine start_ (n:=11) (S:=fun w' => Below wn.heap.size wn w') (ds:=[]) (lb 11 0x0) (by kernel_rfl) rfl (by kernel_rfl) (below_drew1 (Below.refl _ _)) (fun hHeld => ?_)
              refine pu_ ?_ ?_ 1 (some 86) (lb 11 0x2) ?_
              refine pu_ ?_ ?_ 3 (some 88) (lb 11 0xa) ?_
              refine pu_ ?_ ?_ 7 (some 92) (lb 11 0x8a) ?_
              refine ta_ ?_ ?_ 0 (some 85) (lb 11 0x8b) hHeld ?_ (y:=by rintro w' hS;have d0:=(blk_cell (blk_below HPn.out hS) 0).trans rfl;have d1:=(blk_cell (blk_below HPn.out hS) 1).trans rfl;have d2:=(blk_cell (blk_below HPn.out hS) 2).trans rfl;have d3:=cell_at hS P0n.out;have d4:=cell_at hS P1n.out;have d5:=cell_at hS HCn.out;go_simp;with_reducible rfl)
              refine ta_ ?_ ?_ 2 (some 87) (lb 11 0x8f) hHeld ?_ (y:=by rintro w' hS;have d0:=(blk_cell (blk_below HPn.out hS) 0).trans rfl;have d1:=(blk_cell (blk_below HPn.out hS) 1).trans rfl;have d2:=(blk_cell (blk_below HPn.out hS) 2).trans rfl;have d3:=cell_at hS P0n.out;have d4:=cell_at hS P1n.out;have d5:=cell_at hS HCn.out;go_simp;with_reducible rfl)
              refine pu_ ?_ ?_ 4 (some 89) (lb 11 0x9f) ?_
              refine pu_ ?_ ?_ 5 (some 90) (lb 11 0xbf) ?_
              refine ta_ ?_ ?_ 6 (some 91) (lb 11 0xff) hHeld ?_ (y:=by rintro w' hS;have d0:=(blk_cell (blk_below HPn.out hS) 0).trans rfl;have d1:=(blk_cell (blk_below HPn.out hS) 1).trans rfl;have d2:=(blk_cell (blk_below HPn.out hS) 2).trans rfl;have d3:=cell_at hS P0n.out;have d4:=cell_at hS P1n.out;have d5:=cell_at hS HCn.out;go_simp;with_reducible rfl)
              refine pu_ ?_ ?_ 8 (some 93) (lb 11 0x1ff) ?_
              refine ta_ ?_ ?_ 9 (some 94) (lb 11 0x3ff) hHeld ?_ (y:=by rintro w' hS;have d0:=(blk_cell (blk_below HPn.out hS) 0).trans rfl;have d1:=(blk_cell (blk_below HPn.out hS) 1).trans rfl;have d2:=(blk_cell (blk_below HPn.out hS) 2).trans rfl;have d3:=cell_at hS P0n.out;have d4:=cell_at hS P1n.out;have d5:=cell_at hS HCn.out;go_simp;with_reducible rfl)
              refine on_ 10 (some 95) (lb 11 0x7ff) (fun K hK => ?_)
              (refine goesC_ Try.func26 (by kernel_rfl) rfl (by rfl) rfl rfl (term_v g A1 A2 (some ad) c1 c2 c3 x _ HTX.out) (by simp [Act.eval]) ?_;rintro e w9 ⟨rfl,hb9⟩;refine ⟨_,rfl,?_⟩;have HQ9:=Aside0.mk (below_then hHeld hHeld.size hb9);clear hb9;refine hK.out _ _ HQ9.out (fun hHeld => ?_))
              clear hK K
              refine nm_ ?_ (some 95) ?_
              refine done_ (by kernel_rfl) ?_
              have HX17:=Aside0.mk (below_then HBm.out HBm.out.size (below_then HX16.out HX16.out.size hHeld))
              clear hHeld HQ9
              rename World => wo
              cases tx
              · have hy:=HSE.out
                simp only [Bool.false_eq_true,if_false] at hy
                subst hy
                go_upto_region 19 with (fail)
                refine pl_start ?_
                refine pp_ ?_ ?_ ?_
                refine pp_ ?_ ?_ ?_
                refine pp_ ?_ ?_ ?_ (y:=by go_simp;refine if_neg ?_;omega)
                refine pp_ ?_ ?_ ?_ (y:=by go_simp;refine if_neg ?_;omega)
                refine pp_ ?_ ?_ ?_
                refine pl_nil ?_
                go_wp2
                go_roundw
                case rel => exact ⟨m + 1,by omega,by go_num,by rw [HSN.out],HX17⟩
                case measure => simp [intOf];omega
              · have hy:=HSE.out
                simp only [if_true] at hy
                have hq : (⟨#[32]⟩ ++ (⟨#[39]⟩ ++ nx ++ ⟨#[39]⟩) : ByteArray).size ≤ 4003:=by rw [← hy];exact hs3
                have hq2 : (⟨#[39]⟩ ++ nx ++ ⟨#[39]⟩ : ByteArray).size ≤ 4002:=by rw [← hy];exact hs2
                have HY:=Lib.hid hy
                clear hy
                go_upto_region 18 with (fail)
                refine pl_start ?_
                refine pp_ ?_ ?_ ?_
                refine pp_ ?_ ?_ ?_ (y:=by go_simp;refine if_neg ?_;omega)
                refine pp_ ?_ ?_ ?_ (y:=by go_simp;refine if_neg ?_;omega)
                refine pp_ ?_ ?_ ?_
                refine pl_nil ?_
                go_upto_region 19 with (fail)
                refine pl_start ?_
                refine pp_ ?_ ?_ ?_
                refine pp_ ?_ ?_ ?_
                refine pp_ ?_ ?_ ?_ (y:=by go_simp;refine if_neg ?_;omega)
                refine pp_ ?_ ?_ ?_ (y:=by go_simp;refine if_neg ?_;omega)
                refine pp_ ?_ ?_ ?_
                refine pl_nil ?_
                go_wp2
                go_roundw
                case rel => exact ⟨m + 1,by omega,by go_num,by rw [HSN.out,HY.out],HX17⟩
                case measure => simp [intOf];omega
            · have dn : decide ((m : Int) < (rr.length : Int)) = false:=decide_eq_false (by omega)
              have hE : rr.take m = rr:=List.take_of_length_le (by omega)
              rw [hE] at hs1 ⊢
              clear hE
              clear hs1
              go_upto_region 14 with (fail)
              refine pl_start ?_
              refine pl_held (B:=x9_2.heap.size) (v:=x9_2) (HBm.out) (fun hHeld => ?_)
              refine pp_ ?_ ?_ ?_
              refine pp_ ?_ ?_ ?_
              refine pp_ ?_ ?_ ?_ (y:=by have d0:=(blk_cell (blk_below HP9.out hHeld) 0).trans rfl;have d1:=(blk_cell (blk_below HP9.out hHeld) 1).trans rfl;have d2:=(blk_cell (blk_below HP9.out hHeld) 2).trans rfl;have d0:=cell_at hHeld P09.out;have d1:=cell_at hHeld P19.out;go_simp;rfl)
              refine pp_ ?_ ?_ ?_
              refine pp_ ?_ ?_ ?_
              refine pp_ ?_ ?_ ?_
              refine pp_ ?_ ?_ ?_ (y:=by have d0:=(blk_cell (blk_below HP9.out hHeld) 0).trans rfl;have d1:=(blk_cell (blk_below HP9.out hHeld) 1).trans rfl;have d2:=(blk_cell (blk_below HP9.out hHeld) 2).trans rfl;have d0:=cell_at hHeld P09.out;have d1:=cell_at hHeld P19.out;go_simp;rfl)
              refine pp_ ?_ ?_ ?_
              refine pp_ ?_ ?_ ?_
              refine pl_nil ?_
              have HXm:=Aside0.mk (below_then HX9.out HX9.out.size hHeld)
              clear hHeld
              go_upto_region 20 with (fail)
              refine pl_start ?_
              refine pp_ ?_ ?_ ?_
              refine pp_ ?_ ?_ ?_
              refine pf_ ?_ ?_
              refine pf_ ?_ ?_
              refine pf_ ?_ ?_
              refine pp_ ?_ ?_ ?_
              refine pl_nil ?_
              go_upto_region 22 with (fail)
              have h3 : (⟨#[]⟩ ++ ⟨#[32,59,10]⟩ : ByteArray).size = 3:=rfl
              refine pl_start ?_
              refine pp_ ?_ ?_ ?_
              refine pp_ ?_ ?_ ?_
              refine pp_ (.string (⟨#[]⟩ ++ ⟨#[32,59,10]⟩)) ?_ ?_ (y:=by go_simp)
              refine pp_ (.string (S ++ (⟨#[]⟩ ++ ⟨#[32,59,10]⟩))) ?_ ?_ (y:=by go_simp;omega)
              refine pp_ ?_ ?_ ?_
              refine pl_nil ?_
              go_wp2
              go_roundw
              case rel => exact ⟨k + 1,by omega,by go_num,⟨_,rfl,by rw [size_app,h3];omega⟩,HXm⟩
              case measure => simp [intOf];omega
        · have dm : decide ((k : Int) < (g.rules.length : Int)) = false:=decide_eq_false (by omega)
          go_upto_region 6 with (fail)
          refine pl_start ?_
          refine pl_held (B:=v0.heap.size) (v:=v0) (HB.out) (fun hHeld => ?_)
          refine pp_ ?_ ?_ ?_
          refine pp_ ?_ ?_ ?_
          refine pp_ ?_ ?_ ?_ (y:=by have d0:=(blk_cell (blk_below HP0.out hHeld) 0).trans rfl;have d1:=(blk_cell (blk_below HP0.out hHeld) 1).trans rfl;have d2:=(blk_cell (blk_below HP0.out hHeld) 2).trans rfl;go_simp;rfl)
          refine pp_ ?_ ?_ ?_
          refine pp_ ?_ ?_ ?_
          refine pl_nil ?_
          go_upto_region 23 with (fail)
          refine pl_start ?_
          refine pl_held (B:=v0.heap.size) (v:=v0) (HB.out) (fun hHeld => ?_)
          refine pp_ ?_ ?_ ?_ (y:=by have d0:=(blk_cell (blk_below HP0.out hHeld) 0).trans rfl;have d1:=(blk_cell (blk_below HP0.out hHeld) 1).trans rfl;have d2:=(blk_cell (blk_below HP0.out hHeld) 2).trans rfl;go_simp;rfl)
          refine goesCL_ (N:=(some 114)) Try.func24 (by kernel_rfl) rfl (by rfl) rfl rfl (good1_v g A1 A2 A3 c1 c2 c3 _ (HG0.out.below_ hHeld) HZ.out HGD.out) (by simp [Act.eval]) ?_
          rintro e x23_1 ⟨rfl,hb23_1⟩
          refine ⟨_,rfl,?_⟩
          simp only [Act.put,List.setIfInBounds_toArray,List.set_cons_zero,List.set_cons_succ]
          refine pl_held (B:=v0.heap.size) (v:=v0) (below_then hHeld hHeld.size hb23_1) (fun hHeld => ?_)
          refine pp_ ?_ ?_ ?_
          refine pl_nil ?_
          have ho:=HO.out
          rw [textO,HGD.out,if_neg (by decide)] at ho
          injection ho with e1 e2
          subst e1 e2
          go_upto_region 24 with (fail)
          refine pl_start ?_
          refine pl_held (B:=v0.heap.size) (v:=v0) (hHeld) (fun hHeld => ?_)
          refine pp_ ?_ ?_ ?_
          refine pp_ ?_ ?_ ?_
          refine pp_ ?_ ?_ ?_
          refine pp_ ?_ ?_ ?_
          refine pp_ ?_ ?_ ?_
          refine pp_ ?_ ?_ ?_
          refine pp_ ?_ ?_ ?_
          refine goesCL_ (N:=(some 123)) Try.func16 (by kernel_rfl) rfl (by rfl) rfl rfl (wakes04_c _) (by simp [Act.eval]) ?_
          rintro e x24_7 ⟨rfl,hb24_7⟩
          refine ⟨_,rfl,?_⟩
          simp only [Act.put,List.setIfInBounds_toArray,List.set_cons_zero,List.set_cons_succ]
          refine pl_held (B:=v0.heap.size) (v:=v0) (below_then hHeld hHeld.size hb24_7) (fun hHeld => ?_)
          refine pp_ ?_ ?_ ?_
          refine pp_ ?_ ?_ ?_
          refine pl_nil ?_
          go_wp2
          go_ret
          exact ⟨ret_bool rfl,below_then HB0.out HB0.out.size hHeld⟩
    · obtain ⟨q1,q2,q3,q4⟩:=goodF_small HGD.out
      go_wp2
      go_loopw [6,5] (fun a t wr => ∃ k : Nat,k ≤ g.rules.length ∧ a = .int .i64 k ∧ t = .string (textS g ⟨#[]⟩ (g.rules.take k)) ∧ Aside0 (Below v0.heap.size v0 wr)) (fun a _ _ => g.rules.length - (intOf a).toNat)
      case atStart => exact ⟨0,Nat.zero_le _,rfl,rfl,HX3⟩
      case round =>
        clear HX3
        obtain ⟨k,hk,rfl,rfl,HB⟩:=hrel
        rename World => wi
        by_cases hlt : k < g.rules.length
        · have hrr:=HS1.out.small.rights _ (List.getElem_mem hlt)
          have hsc:=textS_succ (g:=g) (acc:=⟨#[]⟩) hlt
          have hsz:=textS_size HGD.out (g.rules.take k) (fun r hr => (good_left HGD.out (List.mem_of_mem_take hr)).2.1) ⟨#[]⟩
          have hro:=ruleO_some HGD.out hlt
          obtain ⟨S,hS⟩ : ∃ S,textS g ⟨#[]⟩ (g.rules.take k) = S:=⟨_,rfl⟩
          rw [hS] at hsc
          rw [hS,List.length_take,show (⟨#[]⟩ : ByteArray).size = 0 from rfl] at hsz
          rw [hS]
          have hS3 : S.size ≤ 20000:=by omega
          clear hS hsz
          obtain ⟨ad,Ar,cr,eA,p0,p1,hrc,hri⟩:=at_rule HG0.out.rules k hlt
          obtain ⟨r,hr⟩ : ∃ r,r = g.rules[k]'hlt:=⟨_,rfl⟩
          rw [← hr] at hrr p0 p1 hrc hri hsc hro
          obtain ⟨rl,rr⟩:=r
          dsimp only at hrr p0 p1 hrc hri
          subst eA
          have P0:=Aside0.mk p0
          have P1:=Aside0.mk p1
          have HRI:=Aside0.mk hri
          obtain ⟨ln,hln⟩ : ∃ ln,lineF g ⟨rl,rr⟩ = ln:=⟨_,rfl⟩
          rw [hln] at hsc hro
          have HSC:=Lib.hid hsc
          clear hsc
          have HRO:=Lib.hid hro
          obtain ⟨nl,hnl⟩ : ∃ nl,nameD g rl = nl:=⟨_,rfl⟩
          obtain ⟨cl,hcl⟩ : ∃ cl,(nameF g rl).isSome = cl:=⟨_,rfl⟩
          have hns:=nameD_sz HS1.out rl
          rw [hnl] at hns
          have HNL:=Lib.hid hnl
          have HCL:=Lib.hid hcl
          have hli : ln = rowS g (nl ++ ⟨#[32,61]⟩) rr:=by rw [← hln];unfold lineF;rw [hnl]
          have HLI:=Lib.hid hli
          clear hli hln
          clear hr hnl hcl p0 p1 hri hro
          have i1 : (k : Int) < (g.rules.length : Int):=by omega
          have i0 : (0 : Int) ≤ (k : Int):=by omega
          have dm : decide ((k : Int) < (g.rules.length : Int)) = true:=decide_eq_true i1
          go_upto_region 6 with (fail)
          refine pl_start ?_
          refine pl_held (B:=v0.heap.size) (v:=v0) (HB.out) (fun hHeld => ?_)
          refine pp_ ?_ ?_ ?_
          refine pp_ ?_ ?_ ?_
          refine pp_ ?_ ?_ ?_ (y:=by have d0:=(blk_cell (blk_below HP0.out hHeld) 0).trans rfl;have d1:=(blk_cell (blk_below HP0.out hHeld) 1).trans rfl;have d2:=(blk_cell (blk_below HP0.out hHeld) 2).trans rfl;go_simp;rfl)
          refine pp_ ?_ ?_ ?_
          refine pp_ ?_ ?_ ?_
          refine pl_nil ?_
          go_upto_region 8 with (fail)
          refine pl_start ?_
          refine pl_held (B:=v0.heap.size) (v:=v0) (HB.out) (fun hHeld => ?_)
          refine pp_ ?_ ?_ ?_ (y:=by have d0:=(blk_cell (blk_below HP0.out hHeld) 0).trans rfl;have d1:=(blk_cell (blk_below HP0.out hHeld) 1).trans rfl;have d2:=(blk_cell (blk_below HP0.out hHeld) 2).trans rfl;go_simp;rfl)
          refine pp_ ?_ ?_ ?_
          refine goesCL_ (N:=(some 32)) Try.func20 (by kernel_rfl) rfl (by rfl) rfl rfl (ruleS_c g A1 A2 (some ad) c1 c2 c3 (k : Int) _ (HG0.out.below_ hHeld) HRO.out) (by simp [Act.eval]) ?_
          rintro e x8_2 ⟨rfl,hb8_2⟩
          refine ⟨_,rfl,?_⟩
          simp only [Act.put,List.setIfInBounds_toArray,List.set_cons_zero,List.set_cons_succ]
          refine pl_held (B:=v0.heap.size) (v:=v0) (below_then hHeld hHeld.size hb8_2) (fun hHeld => ?_)
          refine pp_ ?_ ?_ ?_
          refine pp_ ?_ ?_ ?_
          refine pp_ ?_ ?_ ?_
          refine pp_ ?_ ?_ ?_
          refine pp_ ?_ ?_ ?_
          refine pl_nil ?_
          go_upto_region 9 with (fail)
          refine pl_start ?_
          refine pl_held (B:=v0.heap.size) (v:=v0) (hHeld) (fun hHeld => ?_)
          refine pp_ ?_ ?_ ?_
          refine pp_ ?_ ?_ ?_ (y:=by have d0:=(blk_cell (blk_below HP0.out hHeld) 0).trans rfl;have d1:=(blk_cell (blk_below HP0.out hHeld) 1).trans rfl;have d2:=(blk_cell (blk_below HP0.out hHeld) 2).trans rfl;go_simp;rfl)
          refine goesCL_ (N:=(some 37)) Try.func24 (by kernel_rfl) rfl (by rfl) rfl rfl (good1_v g A1 A2 (some ad) c1 c2 c3 _ (HG0.out.below_ hHeld) HZ.out HGD.out) (by simp [Act.eval]) ?_
          rintro e x9_2 ⟨rfl,hb9_2⟩
          refine ⟨_,rfl,?_⟩
          simp only [Act.put,List.setIfInBounds_toArray,List.set_cons_zero,List.set_cons_succ]
          refine pl_held (B:=v0.heap.size) (v:=v0) (below_then hHeld hHeld.size hb9_2) (fun hHeld => ?_)
          refine pp_ ?_ ?_ ?_
          refine pp_ ?_ ?_ ?_
          refine pp_ ?_ ?_ ?_
          refine pp_ ?_ ?_ ?_
          refine pp_ ?_ ?_ ?_
          refine pf_ ?_ ?_
          refine pf_ ?_ ?_
          refine pp_ ?_ ?_ ?_
          refine pp_ ?_ ?_ ?_
          refine pl_nil ?_
          have HX9:=Aside0.mk hHeld
          have HP9:=Aside0.mk (blk_below HP0.out hHeld)
          have P09:=Aside0.mk (cell_at hHeld P0.out)
          have P19:=Aside0.mk (cell_at hHeld P1.out)
          have HG9:=Aside0.mk (HG0.out.below_ hHeld)
          have HR9:=Aside0.mk (Kd.C_below HRI.out hHeld)
          clear hHeld hb8_2 hb9_2
          go_upto_region 11 with (fail)
          refine start_ (n:=13) (S:=fun w' => Below x9_2.heap.size x9_2 w') (ds:=[]) (lb 13 0x0) (by kernel_rfl) rfl (by kernel_rfl) (below_drew1 (Below.refl _ _)) (fun hHeld => ?_)
          refine pu_ ?_ ?_ 1 (some 49) (lb 13 0x2) ?_
          refine pu_ ?_ ?_ 3 (some 51) (lb 13 0xa) ?_
          refine ta_ ?_ ?_ 0 (some 48) (lb 13 0xb) hHeld ?_ (y:=by rintro w' hS;have d0:=(blk_cell (blk_below HP9.out hS) 0).trans rfl;have d1:=(blk_cell (blk_below HP9.out hS) 1).trans rfl;have d2:=(blk_cell (blk_below HP9.out hS) 2).trans rfl;have d3:=cell_at hS P09.out;go_simp;with_reducible rfl)
          refine ta_ ?_ ?_ 2 (some 50) (lb 13 0xf) hHeld ?_ (y:=by rintro w' hS;have d0:=(blk_cell (blk_below HP9.out hS) 0).trans rfl;have d1:=(blk_cell (blk_below HP9.out hS) 1).trans rfl;have d2:=(blk_cell (blk_below HP9.out hS) 2).trans rfl;have d3:=cell_at hS P09.out;go_simp;with_reducible rfl)
          refine pu_ ?_ ?_ 4 (some 52) (lb 13 0x1f) ?_
          refine pu_ ?_ ?_ 5 (some 53) (lb 13 0x3f) ?_
          refine ta_ ?_ ?_ 6 (some 54) (lb 13 0x7f) hHeld ?_ (y:=by rintro w' hS;have d0:=(blk_cell (blk_below HP9.out hS) 0).trans rfl;have d1:=(blk_cell (blk_below HP9.out hS) 1).trans rfl;have d2:=(blk_cell (blk_below HP9.out hS) 2).trans rfl;have d3:=cell_at hS P09.out;go_simp;with_reducible rfl)
          refine on_ 7 (some 55) (lb 13 0xff) (fun K hK => ?_)
          (refine goesC_ Try.func25 (by kernel_rfl) rfl (by rfl) rfl rfl (nameB_c g A1 A2 (some ad) c1 c2 c3 rl _ (HG9.out.below_ hHeld) (by omega) HNL.out HCL.out) (by simp [Act.eval]) ?_;rintro e w9 ⟨rfl,hb9⟩;refine ⟨_,rfl,?_⟩;have HQ9:=Aside0.mk (below_then hHeld hHeld.size hb9);clear hb9;refine hK.out _ _ HQ9.out (fun hHeld => ?_))
          clear hK K
          refine nm_ ?_ (some 55) ?_
          refine pu_ ?_ ?_ 8 (some 47) (lb 13 0x1ff) ?_
          refine pu_ ?_ ?_ 9 (some 56) (lb 13 0x3ff) ?_
          refine pu_ ?_ ?_ 10 (some 57) (lb 13 0x7ff) ?_
          refine pu_ ?_ ?_ 11 (some 9) (lb 13 0xfff) ?_
          refine pu_ ?_ ?_ 12 (some 10) (lb 13 0x1fff) ?_
          refine done_ (by kernel_rfl) ?_
          have HX11:=Aside0.mk hHeld
          clear hHeld HQ9
          rename World => wj
          go_upto_region 12 with (fail)
          refine pl_start ?_
          refine pl_held (B:=x9_2.heap.size) (v:=x9_2) (HX11.out) (fun hHeld => ?_)
          refine pp_ ?_ ?_ ?_
          refine pp_ ?_ ?_ ?_ (y:=by go_simp;refine if_neg ?_;omega)
          refine pp_ ?_ ?_ ?_
          refine pl_nil ?_
          go_wp2
          go_loopw [11,9] (fun a t wr => ∃ m : Nat,m ≤ rr.length ∧ a = .int .i64 m ∧ t = .string (rowS g (nl ++ ⟨#[32,61]⟩) (rr.take m)) ∧ Aside0 (Below x9_2.heap.size x9_2 wr)) (fun a _ _ => rr.length - (intOf a).toNat)
          case atStart => exact ⟨0,Nat.zero_le _,rfl,rfl,HX11⟩
          case round =>
            clear HX11
            obtain ⟨m,hm,rfl,rfl,HBm⟩:=hrel
            rename World => wm
            have hs1:=rowS_sz HS1.out (rr.take m) (nl ++ ⟨#[32,61]⟩)
            rw [size_app,List.length_take,show (⟨#[32,61]⟩ : ByteArray).size = 2 from rfl] at hs1
            by_cases hmt : m < rr.length
            · have hsn:=rowS_succ (g:=g) (acc:=nl ++ ⟨#[32,61]⟩) hmt
              obtain ⟨ax,eAx,hc⟩:=at_int HR9.out m hmt
              subst eAx
              obtain ⟨T,hT⟩ : ∃ T,rowS g (nl ++ ⟨#[32,61]⟩) (rr.take m) = T:=⟨_,rfl⟩
              obtain ⟨x,hx⟩ : ∃ x,x = rr[m]'hmt:=⟨_,rfl⟩
              rw [← hx] at hsn hc
              rw [hT] at hsn hs1 ⊢
              obtain ⟨sx,hsx⟩ : ∃ sx,symS g x = sx:=⟨_,rfl⟩
              rw [hsx] at hsn
              have HSN:=Lib.hid hsn
              have HC:=Aside0.mk hc
              have hs2:=symS_sz HS1.out x
              rw [hsx] at hs2
              have hs3 : (⟨#[32]⟩ ++ sx : ByteArray).size ≤ 4003:=by rw [size_app,show (⟨#[32]⟩ : ByteArray).size = 1 from rfl];omega
              have hs4 : T.size ≤ 20000000:=by omega
              obtain ⟨nx,hnx⟩ : ∃ nx,nameD g x = nx:=⟨_,rfl⟩
              obtain ⟨cx,hcx⟩ : ∃ cx,(nameF g x).isSome = cx:=⟨_,rfl⟩
              obtain ⟨tx,htx⟩ : ∃ tx,termF g x = tx:=⟨_,rfl⟩
              have hnz:=nameD_sz HS1.out x
              rw [hnx] at hnz
              have h39 : (⟨#[39]⟩ ++ nx : ByteArray).size ≤ 4001:=by rw [size_app,show (⟨#[39]⟩ : ByteArray).size = 1 from rfl];omega
              have hsxe : sx = if tx = true then ⟨#[39]⟩ ++ nx ++ ⟨#[39]⟩ else nx:=by rw [← hsx,← hnx,← htx];rfl
              have HSE:=Lib.hid hsxe
              have HNX:=Lib.hid hnx
              have HCX:=Lib.hid hcx
              have HTX:=Lib.hid htx
              have j0 : (0 : Int) ≤ (m : Int):=by omega
              have j1 : (m : Int) < (rr.length : Int):=by omega
              have dn : decide ((m : Int) < (rr.length : Int)) = true:=decide_eq_true j1
              clear hsx hx hT hs1 hsn hc hnx hcx htx hsxe
              go_upto_region 14 with (fail)
              refine pl_start ?_
              refine pl_held (B:=x9_2.heap.size) (v:=x9_2) (HBm.out) (fun hHeld => ?_)
              refine pp_ ?_ ?_ ?_
              refine pp_ ?_ ?_ ?_
              refine pp_ ?_ ?_ ?_ (y:=by have d0:=(blk_cell (blk_below HP9.out hHeld) 0).trans rfl;have d1:=(blk_cell (blk_below HP9.out hHeld) 1).trans rfl;have d2:=(blk_cell (blk_below HP9.out hHeld) 2).trans rfl;have d0:=cell_at hHeld P09.out;have d1:=cell_at hHeld P19.out;go_simp;rfl)
              refine pp_ ?_ ?_ ?_
              refine pp_ ?_ ?_ ?_
              refine pp_ ?_ ?_ ?_
              refine pp_ ?_ ?_ ?_ (y:=by have d0:=(blk_cell (blk_below HP9.out hHeld) 0).trans rfl;have d1:=(blk_cell (blk_below HP9.out hHeld) 1).trans rfl;have d2:=(blk_cell (blk_below HP9.out hHeld) 2).trans rfl;have d0:=cell_at hHeld P09.out;have d1:=cell_at hHeld P19.out;go_simp;rfl)
              refine pp_ ?_ ?_ ?_
              refine pp_ ?_ ?_ ?_
              refine pl_nil ?_
              clear hHeld
              have HPm:=Aside0.mk (blk_below HP9.out HBm.out)
              have P0m:=Aside0.mk (cell_at HBm.out P09.out)
              have P1m:=Aside0.mk (cell_at HBm.out P19.out)
              have HCm:=Aside0.mk (cell_at HBm.out HC.out)
              have HGm:=Aside0.mk (HG9.out.below_ HBm.out)
              go_upto_region 16 with (fail)
              refine start_ (n:=16) (S:=fun w' => Below wm.heap.size wm w') (ds:=[]) (lb 16 0x0) (by kernel_rfl) rfl (by kernel_rfl) (below_drew1 (Below.refl _ _)) (fun hHeld => ?_)
              refine pu_ ?_ ?_ 1 (some 73) (lb 16 0x2) ?_
              refine pu_ ?_ ?_ 3 (some 75) (lb 16 0xa) ?_
              refine pu_ ?_ ?_ 7 (some 79) (lb 16 0x8a) ?_
              refine ta_ ?_ ?_ 0 (some 72) (lb 16 0x8b) hHeld ?_ (y:=by rintro w' hS;have d0:=(blk_cell (blk_below HPm.out hS) 0).trans rfl;have d1:=(blk_cell (blk_below HPm.out hS) 1).trans rfl;have d2:=(blk_cell (blk_below HPm.out hS) 2).trans rfl;have d3:=cell_at hS P0m.out;have d4:=cell_at hS P1m.out;have d5:=cell_at hS HCm.out;go_simp;with_reducible rfl)
              refine ta_ ?_ ?_ 2 (some 74) (lb 16 0x8f) hHeld ?_ (y:=by rintro w' hS;have d0:=(blk_cell (blk_below HPm.out hS) 0).trans rfl;have d1:=(blk_cell (blk_below HPm.out hS) 1).trans rfl;have d2:=(blk_cell (blk_below HPm.out hS) 2).trans rfl;have d3:=cell_at hS P0m.out;have d4:=cell_at hS P1m.out;have d5:=cell_at hS HCm.out;go_simp;with_reducible rfl)
              refine pu_ ?_ ?_ 4 (some 76) (lb 16 0x9f) ?_
              refine pu_ ?_ ?_ 5 (some 77) (lb 16 0xbf) ?_
              refine ta_ ?_ ?_ 6 (some 78) (lb 16 0xff) hHeld ?_ (y:=by rintro w' hS;have d0:=(blk_cell (blk_below HPm.out hS) 0).trans rfl;have d1:=(blk_cell (blk_below HPm.out hS) 1).trans rfl;have d2:=(blk_cell (blk_below HPm.out hS) 2).trans rfl;have d3:=cell_at hS P0m.out;have d4:=cell_at hS P1m.out;have d5:=cell_at hS HCm.out;go_simp;with_reducible rfl)
              refine pu_ ?_ ?_ 8 (some 80) (lb 16 0x1ff) ?_
              refine ta_ ?_ ?_ 9 (some 81) (lb 16 0x3ff) hHeld ?_ (y:=by rintro w' hS;have d0:=(blk_cell (blk_below HPm.out hS) 0).trans rfl;have d1:=(blk_cell (blk_below HPm.out hS) 1).trans rfl;have d2:=(blk_cell (blk_below HPm.out hS) 2).trans rfl;have d3:=cell_at hS P0m.out;have d4:=cell_at hS P1m.out;have d5:=cell_at hS HCm.out;go_simp;with_reducible rfl)
              refine on_ 10 (some 82) (lb 16 0x7ff) (fun K hK => ?_)
              (refine goesC_ Try.func25 (by kernel_rfl) rfl (by rfl) rfl rfl (nameB_c g A1 A2 (some ad) c1 c2 c3 x _ (HGm.out.below_ hHeld) (by omega) HNX.out HCX.out) (by simp [Act.eval]) ?_;rintro e w9 ⟨rfl,hb9⟩;refine ⟨_,rfl,?_⟩;have HQ9:=Aside0.mk (below_then hHeld hHeld.size hb9);clear hb9;refine hK.out _ _ HQ9.out (fun hHeld => ?_))
              clear hK K
              refine nm_ ?_ (some 82) ?_
              refine pu_ ?_ ?_ 11 (some 71) (lb 16 0xfff) ?_
              refine pu_ ?_ ?_ 12 (some 83) (lb 16 0x1fff) ?_
              refine pu_ ?_ ?_ 13 (some 84) (lb 16 0x3fff) ?_
              refine pu_ ?_ ?_ 14 (some 12) (lb 16 0x7fff) ?_
              refine pu_ ?_ ?_ 15 (some 13) (lb 16 0xffff) ?_
              refine done_ (by kernel_rfl) ?_
              have HX16:=Aside0.mk hHeld
              clear hHeld HQ9
              rename World => wn
              have HPn:=Aside0.mk (blk_below HPm.out HX16.out)
              have P0n:=Aside0.mk (cell_at HX16.out P0m.out)
              have P1n:=Aside0.mk (cell_at HX16.out P1m.out)
              have HCn:=Aside0.mk (cell_at HX16.out HCm.out)
              go_upto_region 17 with (fail)
              refine start_ (n:=11) (S:=fun w' => Below wn.heap.size wn w') (ds:=[]) (lb 11 0x0) (by kernel_rfl) rfl (by kernel_rfl) (below_drew1 (Below.refl _ _)) (fun hHeld => ?_)
              refine pu_ ?_ ?_ 1 (some 86) (lb 11 0x2) ?_
              refine pu_ ?_ ?_ 3 (some 88) (lb 11 0xa) ?_
              refine pu_ ?_ ?_ 7 (some 92) (lb 11 0x8a) ?_
              refine ta_ ?_ ?_ 0 (some 85) (lb 11 0x8b) hHeld ?_ (y:=by rintro w' hS;have d0:=(blk_cell (blk_below HPn.out hS) 0).trans rfl;have d1:=(blk_cell (blk_below HPn.out hS) 1).trans rfl;have d2:=(blk_cell (blk_below HPn.out hS) 2).trans rfl;have d3:=cell_at hS P0n.out;have d4:=cell_at hS P1n.out;have d5:=cell_at hS HCn.out;go_simp;with_reducible rfl)
              refine ta_ ?_ ?_ 2 (some 87) (lb 11 0x8f) hHeld ?_ (y:=by rintro w' hS;have d0:=(blk_cell (blk_below HPn.out hS) 0).trans rfl;have d1:=(blk_cell (blk_below HPn.out hS) 1).trans rfl;have d2:=(blk_cell (blk_below HPn.out hS) 2).trans rfl;have d3:=cell_at hS P0n.out;have d4:=cell_at hS P1n.out;have d5:=cell_at hS HCn.out;go_simp;with_reducible rfl)
              refine pu_ ?_ ?_ 4 (some 89) (lb 11 0x9f) ?_
              refine pu_ ?_ ?_ 5 (some 90) (lb 11 0xbf) ?_
              refine ta_ ?_ ?_ 6 (some 91) (lb 11 0xff) hHeld ?_ (y:=by rintro w' hS;have d0:=(blk_cell (blk_below HPn.out hS) 0).trans rfl;have d1:=(blk_cell (blk_below HPn.out hS) 1).trans rfl;have d2:=(blk_cell (blk_below HPn.out hS) 2).trans rfl;have d3:=cell_at hS P0n.out;have d4:=cell_at hS P1n.out;have d5:=cell_at hS HCn.out;go_simp;with_reducible rfl)
              refine pu_ ?_ ?_ 8 (some 93) (lb 11 0x1ff) ?_
              refine ta_ ?_ ?_ 9 (some 94) (lb 11 0x3ff) hHeld ?_ (y:=by rintro w' hS;have d0:=(blk_cell (blk_below HPn.out hS) 0).trans rfl;have d1:=(blk_cell (blk_below HPn.out hS) 1).trans rfl;have d2:=(blk_cell (blk_below HPn.out hS) 2).trans rfl;have d3:=cell_at hS P0n.out;have d4:=cell_at hS P1n.out;have d5:=cell_at hS HCn.out;go_simp;with_reducible rfl)
              refine on_ 10 (some 95) (lb 11 0x7ff) (fun K hK => ?_)
              (refine goesC_ Try.func26 (by kernel_rfl) rfl (by rfl) rfl rfl (term_v g A1 A2 (some ad) c1 c2 c3 x _ HTX.out) (by simp [Act.eval]) ?_;rintro e w9 ⟨rfl,hb9⟩;refine ⟨_,rfl,?_⟩;have HQ9:=Aside0.mk (below_then hHeld hHeld.size hb9);clear hb9;refine hK.out _ _ HQ9.out (fun hHeld => ?_))
              clear hK K
              refine nm_ ?_ (some 95) ?_
              refine done_ (by kernel_rfl) ?_
              have HX17:=Aside0.mk (below_then HBm.out HBm.out.size (below_then HX16.out HX16.out.size hHeld))
              clear hHeld HQ9
              rename World => wo
              cases tx
              · have hy:=HSE.out
                simp only [Bool.false_eq_true,if_false] at hy
                subst hy
                go_upto_region 19 with (fail)
                refine pl_start ?_
                refine pp_ ?_ ?_ ?_
                refine pp_ ?_ ?_ ?_
                refine pp_ ?_ ?_ ?_ (y:=by go_simp;refine if_neg ?_;omega)
                refine pp_ ?_ ?_ ?_ (y:=by go_simp;refine if_neg ?_;omega)
                refine pp_ ?_ ?_ ?_
                refine pl_nil ?_
                go_wp2
                go_roundw
                case rel => exact ⟨m + 1,by omega,by go_num,by rw [HSN.out],HX17⟩
                case measure => simp [intOf];omega
              · have hy:=HSE.out
                simp only [if_true] at hy
                have hq : (⟨#[32]⟩ ++ (⟨#[39]⟩ ++ nx ++ ⟨#[39]⟩) : ByteArray).size ≤ 4003:=by rw [← hy];exact hs3
                have hq2 : (⟨#[39]⟩ ++ nx ++ ⟨#[39]⟩ : ByteArray).size ≤ 4002:=by rw [← hy];exact hs2
                have HY:=Lib.hid hy
                clear hy
                go_upto_region 18 with (fail)
                refine pl_start ?_
                refine pp_ ?_ ?_ ?_
                refine pp_ ?_ ?_ ?_ (y:=by go_simp;refine if_neg ?_;omega)
                refine pp_ ?_ ?_ ?_ (y:=by go_simp;refine if_neg ?_;omega)
                refine pp_ ?_ ?_ ?_
                refine pl_nil ?_
                go_upto_region 19 with (fail)
                refine pl_start ?_
                refine pp_ ?_ ?_ ?_
                refine pp_ ?_ ?_ ?_
                refine pp_ ?_ ?_ ?_ (y:=by go_simp;refine if_neg ?_;omega)
                refine pp_ ?_ ?_ ?_ (y:=by go_simp;refine if_neg ?_;omega)
                refine pp_ ?_ ?_ ?_
                refine pl_nil ?_
                go_wp2
                go_roundw
                case rel => exact ⟨m + 1,by omega,by go_num,by rw [HSN.out,HY.out],HX17⟩
                case measure => simp [intOf];omega
            · have dn : decide ((m : Int) < (rr.length : Int)) = false:=decide_eq_false (by omega)
              have hE : rr.take m = rr:=List.take_of_length_le (by omega)
              rw [hE] at hs1 ⊢
              clear hE
              rw [← HLI.out] at hs1 ⊢
              have hl3 : (ln ++ ⟨#[32,59,10]⟩ : ByteArray).size ≤ 20000000:=by rw [size_app,show (⟨#[32,59,10]⟩ : ByteArray).size = 3 from rfl];omega
              go_upto_region 14 with (fail)
              refine pl_start ?_
              refine pl_held (B:=x9_2.heap.size) (v:=x9_2) (HBm.out) (fun hHeld => ?_)
              refine pp_ ?_ ?_ ?_
              refine pp_ ?_ ?_ ?_
              refine pp_ ?_ ?_ ?_ (y:=by have d0:=(blk_cell (blk_below HP9.out hHeld) 0).trans rfl;have d1:=(blk_cell (blk_below HP9.out hHeld) 1).trans rfl;have d2:=(blk_cell (blk_below HP9.out hHeld) 2).trans rfl;have d0:=cell_at hHeld P09.out;have d1:=cell_at hHeld P19.out;go_simp;rfl)
              refine pp_ ?_ ?_ ?_
              refine pp_ ?_ ?_ ?_
              refine pp_ ?_ ?_ ?_
              refine pp_ ?_ ?_ ?_ (y:=by have d0:=(blk_cell (blk_below HP9.out hHeld) 0).trans rfl;have d1:=(blk_cell (blk_below HP9.out hHeld) 1).trans rfl;have d2:=(blk_cell (blk_below HP9.out hHeld) 2).trans rfl;have d0:=cell_at hHeld P09.out;have d1:=cell_at hHeld P19.out;go_simp;rfl)
              refine pp_ ?_ ?_ ?_
              refine pp_ ?_ ?_ ?_
              refine pl_nil ?_
              have HXm:=Aside0.mk (below_then HX9.out HX9.out.size hHeld)
              clear hHeld
              go_upto_region 20 with (fail)
              refine pl_start ?_
              refine pp_ ?_ ?_ ?_
              refine pp_ ?_ ?_ ?_
              refine pp_ ?_ ?_ ?_
              refine pp_ ?_ ?_ ?_
              refine pp_ (.bool false) ?_ ?_ (y:=by go_simp)
              refine pp_ ?_ ?_ ?_
              refine pl_nil ?_
              go_upto_region 22 with (fail)
              refine pl_start ?_
              refine pp_ ?_ ?_ ?_
              refine pp_ ?_ ?_ ?_
              refine pp_ ?_ ?_ ?_ (y:=by go_simp;refine if_neg ?_;omega)
              refine pp_ ?_ ?_ ?_ (y:=by go_simp;refine if_neg ?_;omega)
              refine pp_ ?_ ?_ ?_
              refine pl_nil ?_
              go_wp2
              go_roundw
              case rel => exact ⟨k + 1,by omega,by go_num,by rw [HSC.out],HXm⟩
              case measure => simp [intOf];omega
        · have dm : decide ((k : Int) < (g.rules.length : Int)) = false:=decide_eq_false (by omega)
          have hE : g.rules.take k = g.rules:=List.take_of_length_le (by omega)
          have hT : textS g ⟨#[]⟩ g.rules = textF g:=rfl
          rw [hE,hT]
          clear hE hT
          have ho:=HO.out
          rw [textO,HGD.out,if_pos rfl] at ho
          obtain ⟨S,hS⟩ : ∃ S,textF g = S:=⟨_,rfl⟩
          rw [hS] at ho ⊢
          clear hS
          have HOO:=Lib.hid ho
          clear ho
          go_upto_region 6 with (fail)
          refine pl_start ?_
          refine pl_held (B:=v0.heap.size) (v:=v0) (HB.out) (fun hHeld => ?_)
          refine pp_ ?_ ?_ ?_
          refine pp_ ?_ ?_ ?_
          refine pp_ ?_ ?_ ?_ (y:=by have d0:=(blk_cell (blk_below HP0.out hHeld) 0).trans rfl;have d1:=(blk_cell (blk_below HP0.out hHeld) 1).trans rfl;have d2:=(blk_cell (blk_below HP0.out hHeld) 2).trans rfl;go_simp;rfl)
          refine pp_ ?_ ?_ ?_
          refine pp_ ?_ ?_ ?_
          refine pl_nil ?_
          go_upto_region 23 with (fail)
          refine pl_start ?_
          refine pl_held (B:=v0.heap.size) (v:=v0) (HB.out) (fun hHeld => ?_)
          refine pp_ ?_ ?_ ?_ (y:=by have d0:=(blk_cell (blk_below HP0.out hHeld) 0).trans rfl;have d1:=(blk_cell (blk_below HP0.out hHeld) 1).trans rfl;have d2:=(blk_cell (blk_below HP0.out hHeld) 2).trans rfl;go_simp;rfl)
          refine goesCL_ (N:=(some 114)) Try.func24 (by kernel_rfl) rfl (by rfl) rfl rfl (good1_v g A1 A2 A3 c1 c2 c3 _ (HG0.out.below_ hHeld) HZ.out HGD.out) (by simp [Act.eval]) ?_
          rintro e x23_1 ⟨rfl,hb23_1⟩
          refine ⟨_,rfl,?_⟩
          simp only [Act.put,List.setIfInBounds_toArray,List.set_cons_zero,List.set_cons_succ]
          refine pl_held (B:=v0.heap.size) (v:=v0) (below_then hHeld hHeld.size hb23_1) (fun hHeld => ?_)
          refine pp_ ?_ ?_ ?_
          refine pl_nil ?_
          by_cases hbig : 2000 < S.size
          · have ho:=HOO.out
            rw [if_pos hbig] at ho
            injection ho with e1 e2
            subst e1 e2
            have db : decide ((2000 : Int) < (S.size : Int)) = true:=decide_eq_true (by omega)
            go_upto_region 26 with (fail)
            refine pl_start ?_
            refine pl_held (B:=v0.heap.size) (v:=v0) (hHeld) (fun hHeld => ?_)
            refine pp_ ?_ ?_ ?_
            refine pp_ ?_ ?_ ?_
            refine pp_ ?_ ?_ ?_
            refine pp_ ?_ ?_ ?_
            refine pp_ ?_ ?_ ?_
            refine pp_ ?_ ?_ ?_
            refine pp_ ?_ ?_ ?_
            refine goesCL_ (N:=(some 135)) Try.func16 (by kernel_rfl) rfl (by rfl) rfl rfl (wakes04_c _) (by simp [Act.eval]) ?_
            rintro e x26_7 ⟨rfl,hb26_7⟩
            refine ⟨_,rfl,?_⟩
            simp only [Act.put,List.setIfInBounds_toArray,List.set_cons_zero,List.set_cons_succ]
            refine pl_held (B:=v0.heap.size) (v:=v0) (below_then hHeld hHeld.size hb26_7) (fun hHeld => ?_)
            refine pp_ ?_ ?_ ?_
            refine pp_ ?_ ?_ ?_
            refine pl_nil ?_
            go_wp2
            go_ret
            exact ⟨ret_bool rfl,below_then HB0.out HB0.out.size hHeld⟩
          · have ho:=HOO.out
            rw [if_neg hbig] at ho
            injection ho with e1 e2
            subst e1 e2
            have db : decide ((2000 : Int) < (S.size : Int)) = false:=decide_eq_false (by omega)
            go_upto_region 27 with (fail)
            refine pl_start ?_
            refine pl_held (B:=v0.heap.size) (v:=v0) (hHeld) (fun hHeld => ?_)
            refine pp_ ?_ ?_ ?_
            refine pp_ ?_ ?_ ?_
            refine pp_ ?_ ?_ ?_
            refine pp_ ?_ ?_ ?_
            refine pp_ ?_ ?_ ?_
            refine pp_ (.bool true) ?_ ?_ (y:=by go_simp)
            refine pp_ ?_ ?_ ?_
            refine pp_ ?_ ?_ ?_
            refine goesCL_ (N:=(some 145)) Try.func16 (by kernel_rfl) rfl (by rfl) rfl rfl (wakes04_c _) (by simp [Act.eval]) ?_
            rintro e x27_8 ⟨rfl,hb27_8⟩
            refine ⟨_,rfl,?_⟩
            simp only [Act.put,List.setIfInBounds_toArray,List.set_cons_zero,List.set_cons_succ]
            refine pl_held (B:=v0.heap.size) (v:=v0) (below_then hHeld hHeld.size hb27_8) (fun hHeld => ?_)
            refine pp_ ?_ ?_ ?_
            refine pp_ ?_ ?_ ?_
            refine pl_nil ?_
            go_wp2
            go_ret
            exact ⟨ret_bool rfl,below_then HB0.out HB0.out.size hHeld⟩
  · go_upto_region 2 with (fail)
    refine pl_start ?_
    refine pl_held (B:=v0.heap.size) (v:=v0) (HX1.out) (fun hHeld => ?_)
    refine goesCL_ (N:=(some 16)) Try.func16 (by kernel_rfl) rfl (by rfl) rfl rfl (wakes04_c _) (by simp [Act.eval]) ?_
    rintro e x2_0 ⟨rfl,hb2_0⟩
    refine ⟨_,rfl,?_⟩
    simp only [Act.put,List.setIfInBounds_toArray,List.set_cons_zero,List.set_cons_succ]
    refine pl_held (B:=v0.heap.size) (v:=v0) (below_then hHeld hHeld.size hb2_0) (fun hHeld => ?_)
    refine pp_ ?_ ?_ ?_
    refine pl_nil ?_
    go_wp2
    go_ret
    exact ⟨ret_bool rfl,below_then HB0.out HB0.out.size hHeld⟩
end Go.Proofs.Ytdpdbgaoaibafaa
