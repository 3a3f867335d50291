/- Contracts of functions of the program, and plain laws (texts Y2, X3, E3, S0, F1, F3, F6), joined: each theorem says what it proves. -/
import Derived.Test.YtmkgcjhimajgiaaFD
import Derived.Test.YtmkgcjhimajgiaaFC
import Derived.Test.YtmkgcjhimajgiaaFB
import Derived.Test.YtmkgcjhimajgiaaFA
import Derived.Deep.Slices
import Derived.Lib.SmallJoins
import Derived.ProofKit
import Derived.OpenShut
import Derived.ShutString
import Derived.ChangeOld
set_option linter.unusedVariables false
set_option linter.unusedSimpArgs false
namespace Go.Proofs.Ytmkgcjhimajgiaa
open Go.RowKit Go.Proofs.YtmkgcjhimajgiaaW.PrintWords Go.Proofs.YtmkgcjhimajgiaaW.PrintLast

/-- A grammar of the call's own. -/
structure OwnG (W : World) (base : Nat) (g : Gram) (v1 v2 v3 : Value) : Prop where
  terms : kStr.R 9 W base (fun k => True ∧ some k ≠ v2.ownBlock) v1 g.terms
  names : kStr.R 9 W base (fun k => True ∧ some k ≠ v1.ownBlock) v2 g.names
  rules : kRule.R 46 W base (fun _ => True) v3 g.rules

/-- While its rules are made. -/
structure OwSt (w W : World) (b : Nat) (g : Gram) (A1 A2 A3 : Option Addr) (c1 c2 c3 : Nat) (v1 v2 v3 : Value) (k : Nat) : Prop where
  below : Below w.heap.size w W
  p : W.heap[w.heap.size]? = some (.cells #[.slice A1 g.terms.length c1,.slice A2 g.names.length c2,.slice A3 g.rules.length c3] 25 (0,0))
  r : W.heap[w.heap.size + 1]? = some (.cells #[.slice none 0 0,.slice none 0 0,.slice none 0 0] 25 (0,0))
  h : W.heap[b]? = some (.cells #[v1,v2,v3] 25 (0,0))
  hb : w.heap.size + 1 < b
  R1 : kStr.R 9 W w.heap.size (fun k => True ∧ some k ≠ v2.ownBlock) v1 g.terms
  R2 : kStr.R 9 W w.heap.size (fun k => True ∧ some k ≠ v1.ownBlock) v2 g.names
  R3 : kRule.R 46 W w.heap.size (fun _ => True) v3 (g.rules.take k)
section
variable {w W W1 : World} {b k : Nat} {g : Gram} {A1 A2 A3 : Option Addr} {c1 c2 c3 : Nat} {v1 v2 v3 : Value}
end
/-- What a round reads. -/
structure OS (w : World) (b : Nat) (g : Gram) (A1 A2 A3 : Option Addr) (c1 c2 c3 : Nat) (v1 v2 v3 : Value) (ad : Addr) (k : Nat) (x : Rule) (R : Option Addr) (cr : Nat) (W : World) : Prop where
  below : Below w.heap.size w W
  p : W.heap[w.heap.size]? = some (.cells #[.slice A1 g.terms.length c1,.slice A2 g.names.length c2,.slice A3 g.rules.length c3] 25 (0,0))
  h : W.heap[b]? = some (.cells #[v1,v2,v3] 25 (0,0))
  x1 : W.cell? (ad.add (k * 2)) = some (.int .i64 x.left)
  x2 : W.cell? ⟨(ad.add (k * 2)).block,(ad.add (k * 2)).off + 1,none⟩ = some (.slice R x.right.length cr)
end Go.Proofs.Ytmkgcjhimajgiaa


set_option linter.unusedVariables false
set_option linter.unusedSimpArgs false
namespace Go.Proofs.Ytmkgcjhimajgiaa
open Go.RowKit Go.Proofs.YtmkgcjhimajgiaaW.PrintWords Go.Proofs.YtmkgcjhimajgiaaW.PrintLast
section
variable {ops : Array Oper} {rest : List Oper} {oi : Oper} {a : Act} {Q : Exit → Act → World → Prop} {w0 W : World} {N : Option Tmp} {s x : Operand} {A : Option Addr} {c : Nat}
end
end Go.Proofs.Ytmkgcjhimajgiaa


set_option linter.unusedVariables false
set_option linter.unusedSimpArgs false
namespace Go.Proofs.Ytmkgcjhimajgiaa
open Go.RowKit Go.Proofs.YtmkgcjhimajgiaaW.PrintWords

structure GSmall (g : Gram) : Prop where
  terms : g.terms.length ≤ 4000
  names : g.names.length ≤ 4000
  rules : g.rules.length ≤ 200
  rights : ∀ r ∈ g.rules,r.right.length ≤ 4000

def LargeEnd (g : Gram) (e : Ending) : Prop:=∃ b,e = .returned (.bool b) ∧ (b = false → GSmall g)
set_option maxRecDepth 100000 in
set_option maxHeartbeats 2000000 in
theorem large_c (g : Gram) (A1 A2 A3 : Option Addr) (c1 c2 c3 : Nat) (w : World) (hg : RepG w g A1 A2 A3 c1 c2 c3) :
    Calls Try.prog 42 #[.agg #[.slice A1 g.terms.length c1,.slice A2 g.names.length c2,.slice A3 g.rules.length c3]] w fun e w' => LargeEnd g e ∧ Below w.heap.size w w':=by
  have hm1:=C_max hg.terms
  have hm2:=C_max hg.names
  have hm3:=C_max hg.rules
  have HG:=Aside0.mk hg
  have HP:=Aside0.mk (blk_new w (.cells #[.slice A1 g.terms.length c1,.slice A2 g.names.length c2,.slice A3 g.rules.length c3] 25 (0,0)))
  have HB:=Aside0.mk ((Below.refl w.heap.size w).alloc (Nat.le_refl _) (.cells #[.slice A1 g.terms.length c1,.slice A2 g.names.length c2,.slice A3 g.rules.length c3] 25 (0,0)))
  clear hg
  go_enter Try.func42,Try.ntmps42
  go_wp2
  go_loopw [4,3] (fun i nv wr => ∃ (k : Nat) (n : Int),k ≤ g.terms.length ∧ i = .int .i64 k ∧ nv = .int .i64 n ∧ (k : Int) ≤ n ∧ n ≤ 8001 ∧ Aside0 (wr.heap[w.heap.size]? = some (.cells #[.slice A1 g.terms.length c1,.slice A2 g.names.length c2,.slice A3 g.rules.length c3] 25 (0,0))) ∧ Aside0 (Below w.heap.size w wr)) (fun i _ _ => g.terms.length - (intOf i).toNat)
  case atStart => exact ⟨0,0,Nat.zero_le _,rfl,rfl,by omega,by omega,HP,HB⟩
  case round =>
    clear HP HB
    obtain ⟨k,n,hk,rfl,rfl,hkn,hn,HP,HB⟩:=hrel
    have a1:=blk_cell HP.out 0
    have a2:=blk_cell HP.out 1
    have a3:=blk_cell HP.out 2
    simp only [List.getElem?_toArray,List.getElem?_cons_zero,List.getElem?_cons_succ] at a1 a2 a3
    by_cases hlt : k < g.terms.length
    · by_cases h4 : n ≤ 4000
      · have i1 : (0 : Int) ≤ (k : Int):=by omega
        have i2 : (k : Int) < (g.terms.length : Int):=by omega
        obtain ⟨ad,ead,hx⟩:=at_str (Kd.C_below HG.out.terms HB.out) k hlt
        cases ead
        go_wp2
        go_roundw
        case rel =>
          refine ⟨k + 1,_,by omega,by go_num,rfl,?_,?_,HP,HB⟩
          · split <;> omega
          · split <;> omega
        case measure => simp [intOf];omega
      · go_wp2
        have HE : Aside0 (4000 < n ∨ (g.terms.length : Int) ≤ n):=⟨by omega⟩
        obtain ⟨wo,hwo⟩ : ∃ wo : World,wo = wr:=⟨_,rfl⟩
        subst hwo
        obtain ⟨n0,hn0⟩ : ∃ n0 : Int,n0 = n:=⟨_,rfl⟩
        have hz0 : 0 ≤ n0:=by omega
        have hz1 : n0 ≤ 8001:=by omega
        rw [← hn0] at HE
        rw [← hn0]
        clear hkn hn hn0 hlt hk a1 a2 a3 h4
        go_loopw [5,3] (fun i nv wr => ∃ (k : Nat) (n : Int),k ≤ g.names.length ∧ i = .int .i64 k ∧ nv = .int .i64 n ∧ (k : Int) ≤ n ∧ n ≤ 8001 ∧ Aside0 (4000 < n ∨ (g.terms.length : Int) ≤ n) ∧ Aside0 (wr.heap[w.heap.size]? = some (.cells #[.slice A1 g.terms.length c1,.slice A2 g.names.length c2,.slice A3 g.rules.length c3] 25 (0,0))) ∧ Aside0 (Below w.heap.size w wr)) (fun i _ _ => g.names.length - (intOf i).toNat)
        case atStart => exact ⟨0,n0,Nat.zero_le _,rfl,rfl,by omega,by omega,HE,HP,HB⟩
        case round =>
          clear HP HB
          obtain ⟨k,n,hk,rfl,rfl,hkn,hn,HE,HP,HB⟩:=hrel
          have a1:=blk_cell HP.out 0
          have a2:=blk_cell HP.out 1
          have a3:=blk_cell HP.out 2
          simp only [List.getElem?_toArray,List.getElem?_cons_zero,List.getElem?_cons_succ] at a1 a2 a3
          by_cases hlt : k < g.names.length
          · by_cases h4 : n ≤ 4000
            · have i1 : (0 : Int) ≤ (k : Int):=by omega
              have i2 : (k : Int) < (g.names.length : Int):=by omega
              obtain ⟨ad,ead,hx⟩:=at_str (Kd.C_below HG.out.names HB.out) k hlt
              cases ead
              go_wp2
              go_roundw
              case rel =>
                refine ⟨k + 1,_,by omega,by go_num,rfl,?_,?_,⟨?_⟩,HP,HB⟩
                · split <;> omega
                · split <;> omega
                · have:=HE.out;split <;> omega
              case measure => simp [intOf];omega
            · go_wp2
              have HE2 : Aside0 (4000 < n ∨ ((g.terms.length : Int) ≤ n ∧ (g.names.length : Int) ≤ n)):=⟨by have:=HE.out;omega⟩
              obtain ⟨wo,hwo⟩ : ∃ wo : World,wo = wr:=⟨_,rfl⟩
              subst hwo
              obtain ⟨n0,hn0⟩ : ∃ n0 : Int,n0 = n:=⟨_,rfl⟩
              have hz0 : 0 ≤ n0:=by omega
              have hz1 : n0 ≤ 8001:=by omega
              have hE3:=HE2.out
              rw [← hn0] at hE3
              rw [← hn0]
              clear hkn hn hn0 hlt hk a1 a2 a3 h4 HE HE2
              go_loopw [6,3] (fun i nv wr => ∃ (k : Nat) (n : Int),k ≤ g.rules.length ∧ i = .int .i64 k ∧ nv = .int .i64 n ∧ (k : Int) ≤ n ∧ n ≤ 8001 ∧ Aside0 ((4000 < n ∨ ((g.terms.length : Int) ≤ n ∧ (g.names.length : Int) ≤ n)) ∧ ∀ j (hj : j < g.rules.length),j < k → (g.rules[j]'hj).right.length ≤ 4000 ∨ 4000 < n) ∧ Aside0 (wr.heap[w.heap.size]? = some (.cells #[.slice A1 g.terms.length c1,.slice A2 g.names.length c2,.slice A3 g.rules.length c3] 25 (0,0))) ∧ Aside0 (Below w.heap.size w wr)) (fun i _ _ => g.rules.length - (intOf i).toNat)
              case atStart => exact ⟨0,n0,Nat.zero_le _,rfl,rfl,by omega,by omega,⟨by omega,fun j hj h => by omega⟩,HP,HB⟩
              case round =>
                clear HP HB
                obtain ⟨k,n,hk,rfl,rfl,hkn,hn,HE,HP,HB⟩:=hrel
                have a1:=blk_cell HP.out 0
                have a2:=blk_cell HP.out 1
                have a3:=blk_cell HP.out 2
                simp only [List.getElem?_toArray,List.getElem?_cons_zero,List.getElem?_cons_succ] at a1 a2 a3
                by_cases hlt : k < g.rules.length
                · by_cases h4 : n ≤ 4000
                  · have i1 : (0 : Int) ≤ (k : Int):=by omega
                    have i2 : (k : Int) < (g.rules.length : Int):=by omega
                    obtain ⟨ad,B1,d1,ead,_,hx,hd1,_⟩:=at_rule (Kd.C_below HG.out.rules HB.out) k hlt
                    cases ead
                    go_wp2
                    go_roundw
                    case rel =>
                      refine ⟨k + 1,_,by omega,by go_num,rfl,?_,?_,⟨?_,fun j hj hjk => ?_⟩,HP,HB⟩
                      · split <;> omega
                      · split <;> omega
                      · have:=HE.out.1;split <;> omega
                      · rcases Nat.lt_or_ge j k with h | h
                        · have:=HE.out.2 j hj h;split <;> omega
                        · obtain rfl : j = k:=by omega
                          split <;> omega
                    case measure => simp [intOf];omega
                  · go_wp2
                    go_ret
                    exact ⟨⟨true,ret_bool (by first | rfl | (simp;omega)),fun h => by cases h⟩,HB.out⟩
                · by_cases h4 : n ≤ 4000
                  · by_cases h200 : g.rules.length ≤ 200
                    · go_wp2
                      go_ret
                      refine ⟨⟨false,ret_bool (by first | rfl | (simp;omega)),fun _ => ⟨?_,?_,h200,fun r hr => ?_⟩⟩,HB.out⟩
                      · have:=HE.out.1;omega
                      · have:=HE.out.1;omega
                      · obtain ⟨j,hj,rfl⟩:=List.getElem_of_mem hr
                        have:=HE.out.2 j hj (by omega)
                        omega
                    · go_wp2
                      go_ret
                      exact ⟨⟨true,ret_bool (by first | rfl | (simp;omega)),fun h => by cases h⟩,HB.out⟩
                  · go_wp2
                    go_ret
                    exact ⟨⟨true,ret_bool (by first | rfl | (simp;omega)),fun h => by cases h⟩,HB.out⟩
          · go_wp2
            have HE2 : Aside0 (4000 < n ∨ ((g.terms.length : Int) ≤ n ∧ (g.names.length : Int) ≤ n)):=⟨by have:=HE.out;omega⟩
            obtain ⟨wo,hwo⟩ : ∃ wo : World,wo = wr:=⟨_,rfl⟩
            subst hwo
            obtain ⟨n0,hn0⟩ : ∃ n0 : Int,n0 = n:=⟨_,rfl⟩
            have hz0 : 0 ≤ n0:=by omega
            have hz1 : n0 ≤ 8001:=by omega
            have hE3:=HE2.out
            rw [← hn0] at hE3
            rw [← hn0]
            clear hkn hn hn0 hlt hk a1 a2 a3 HE HE2
            go_loopw [6,3] (fun i nv wr => ∃ (k : Nat) (n : Int),k ≤ g.rules.length ∧ i = .int .i64 k ∧ nv = .int .i64 n ∧ (k : Int) ≤ n ∧ n ≤ 8001 ∧ Aside0 ((4000 < n ∨ ((g.terms.length : Int) ≤ n ∧ (g.names.length : Int) ≤ n)) ∧ ∀ j (hj : j < g.rules.length),j < k → (g.rules[j]'hj).right.length ≤ 4000 ∨ 4000 < n) ∧ Aside0 (wr.heap[w.heap.size]? = some (.cells #[.slice A1 g.terms.length c1,.slice A2 g.names.length c2,.slice A3 g.rules.length c3] 25 (0,0))) ∧ Aside0 (Below w.heap.size w wr)) (fun i _ _ => g.rules.length - (intOf i).toNat)
            case atStart => exact ⟨0,n0,Nat.zero_le _,rfl,rfl,by omega,by omega,⟨by omega,fun j hj h => by omega⟩,HP,HB⟩
            case round =>
              clear HP HB
              obtain ⟨k,n,hk,rfl,rfl,hkn,hn,HE,HP,HB⟩:=hrel
              have a1:=blk_cell HP.out 0
              have a2:=blk_cell HP.out 1
              have a3:=blk_cell HP.out 2
              simp only [List.getElem?_toArray,List.getElem?_cons_zero,List.getElem?_cons_succ] at a1 a2 a3
              by_cases hlt : k < g.rules.length
              · by_cases h4 : n ≤ 4000
                · have i1 : (0 : Int) ≤ (k : Int):=by omega
                  have i2 : (k : Int) < (g.rules.length : Int):=by omega
                  obtain ⟨ad,B1,d1,ead,_,hx,hd1,_⟩:=at_rule (Kd.C_below HG.out.rules HB.out) k hlt
                  cases ead
                  go_wp2
                  go_roundw
                  case rel =>
                    refine ⟨k + 1,_,by omega,by go_num,rfl,?_,?_,⟨?_,fun j hj hjk => ?_⟩,HP,HB⟩
                    · split <;> omega
                    · split <;> omega
                    · have:=HE.out.1;split <;> omega
                    · rcases Nat.lt_or_ge j k with h | h
                      · have:=HE.out.2 j hj h;split <;> omega
                      · obtain rfl : j = k:=by omega
                        split <;> omega
                  case measure => simp [intOf];omega
                · go_wp2
                  go_ret
                  exact ⟨⟨true,ret_bool (by first | rfl | (simp;omega)),fun h => by cases h⟩,HB.out⟩
              · by_cases h4 : n ≤ 4000
                · by_cases h200 : g.rules.length ≤ 200
                  · go_wp2
                    go_ret
                    refine ⟨⟨false,ret_bool (by first | rfl | (simp;omega)),fun _ => ⟨?_,?_,h200,fun r hr => ?_⟩⟩,HB.out⟩
                    · have:=HE.out.1;omega
                    · have:=HE.out.1;omega
                    · obtain ⟨j,hj,rfl⟩:=List.getElem_of_mem hr
                      have:=HE.out.2 j hj (by omega)
                      omega
                  · go_wp2
                    go_ret
                    exact ⟨⟨true,ret_bool (by first | rfl | (simp;omega)),fun h => by cases h⟩,HB.out⟩
                · go_wp2
                  go_ret
                  exact ⟨⟨true,ret_bool (by first | rfl | (simp;omega)),fun h => by cases h⟩,HB.out⟩
    · go_wp2
      have HE : Aside0 (4000 < n ∨ (g.terms.length : Int) ≤ n):=⟨by omega⟩
      obtain ⟨wo,hwo⟩ : ∃ wo : World,wo = wr:=⟨_,rfl⟩
      subst hwo
      obtain ⟨n0,hn0⟩ : ∃ n0 : Int,n0 = n:=⟨_,rfl⟩
      have hz0 : 0 ≤ n0:=by omega
      have hz1 : n0 ≤ 8001:=by omega
      rw [← hn0] at HE
      rw [← hn0]
      clear hkn hn hn0 hlt hk a1 a2 a3
      go_loopw [5,3] (fun i nv wr => ∃ (k : Nat) (n : Int),k ≤ g.names.length ∧ i = .int .i64 k ∧ nv = .int .i64 n ∧ (k : Int) ≤ n ∧ n ≤ 8001 ∧ Aside0 (4000 < n ∨ (g.terms.length : Int) ≤ n) ∧ Aside0 (wr.heap[w.heap.size]? = some (.cells #[.slice A1 g.terms.length c1,.slice A2 g.names.length c2,.slice A3 g.rules.length c3] 25 (0,0))) ∧ Aside0 (Below w.heap.size w wr)) (fun i _ _ => g.names.length - (intOf i).toNat)
      case atStart => exact ⟨0,n0,Nat.zero_le _,rfl,rfl,by omega,by omega,HE,HP,HB⟩
      case round =>
        clear HP HB
        obtain ⟨k,n,hk,rfl,rfl,hkn,hn,HE,HP,HB⟩:=hrel
        have a1:=blk_cell HP.out 0
        have a2:=blk_cell HP.out 1
        have a3:=blk_cell HP.out 2
        simp only [List.getElem?_toArray,List.getElem?_cons_zero,List.getElem?_cons_succ] at a1 a2 a3
        by_cases hlt : k < g.names.length
        · by_cases h4 : n ≤ 4000
          · have i1 : (0 : Int) ≤ (k : Int):=by omega
            have i2 : (k : Int) < (g.names.length : Int):=by omega
            obtain ⟨ad,ead,hx⟩:=at_str (Kd.C_below HG.out.names HB.out) k hlt
            cases ead
            go_wp2
            go_roundw
            case rel =>
              refine ⟨k + 1,_,by omega,by go_num,rfl,?_,?_,⟨?_⟩,HP,HB⟩
              · split <;> omega
              · split <;> omega
              · have:=HE.out;split <;> omega
            case measure => simp [intOf];omega
          · go_wp2
            have HE2 : Aside0 (4000 < n ∨ ((g.terms.length : Int) ≤ n ∧ (g.names.length : Int) ≤ n)):=⟨by have:=HE.out;omega⟩
            obtain ⟨wo,hwo⟩ : ∃ wo : World,wo = wr:=⟨_,rfl⟩
            subst hwo
            obtain ⟨n0,hn0⟩ : ∃ n0 : Int,n0 = n:=⟨_,rfl⟩
            have hz0 : 0 ≤ n0:=by omega
            have hz1 : n0 ≤ 8001:=by omega
            have hE3:=HE2.out
            rw [← hn0] at hE3
            rw [← hn0]
            clear hkn hn hn0 hlt hk a1 a2 a3 h4 HE HE2
            go_loopw [6,3] (fun i nv wr => ∃ (k : Nat) (n : Int),k ≤ g.rules.length ∧ i = .int .i64 k ∧ nv = .int .i64 n ∧ (k : Int) ≤ n ∧ n ≤ 8001 ∧ Aside0 ((4000 < n ∨ ((g.terms.length : Int) ≤ n ∧ (g.names.length : Int) ≤ n)) ∧ ∀ j (hj : j < g.rules.length),j < k → (g.rules[j]'hj).right.length ≤ 4000 ∨ 4000 < n) ∧ Aside0 (wr.heap[w.heap.size]? = some (.cells #[.slice A1 g.terms.length c1,.slice A2 g.names.length c2,.slice A3 g.rules.length c3] 25 (0,0))) ∧ Aside0 (Below w.heap.size w wr)) (fun i _ _ => g.rules.length - (intOf i).toNat)
            case atStart => exact ⟨0,n0,Nat.zero_le _,rfl,rfl,by omega,by omega,⟨by omega,fun j hj h => by omega⟩,HP,HB⟩
            case round =>
              clear HP HB
              obtain ⟨k,n,hk,rfl,rfl,hkn,hn,HE,HP,HB⟩:=hrel
              have a1:=blk_cell HP.out 0
              have a2:=blk_cell HP.out 1
              have a3:=blk_cell HP.out 2
              simp only [List.getElem?_toArray,List.getElem?_cons_zero,List.getElem?_cons_succ] at a1 a2 a3
              by_cases hlt : k < g.rules.length
              · by_cases h4 : n ≤ 4000
                · have i1 : (0 : Int) ≤ (k : Int):=by omega
                  have i2 : (k : Int) < (g.rules.length : Int):=by omega
                  obtain ⟨ad,B1,d1,ead,_,hx,hd1,_⟩:=at_rule (Kd.C_below HG.out.rules HB.out) k hlt
                  cases ead
                  go_wp2
                  go_roundw
                  case rel =>
                    refine ⟨k + 1,_,by omega,by go_num,rfl,?_,?_,⟨?_,fun j hj hjk => ?_⟩,HP,HB⟩
                    · split <;> omega
                    · split <;> omega
                    · have:=HE.out.1;split <;> omega
                    · rcases Nat.lt_or_ge j k with h | h
                      · have:=HE.out.2 j hj h;split <;> omega
                      · obtain rfl : j = k:=by omega
                        split <;> omega
                  case measure => simp [intOf];omega
                · go_wp2
                  go_ret
                  exact ⟨⟨true,ret_bool (by first | rfl | (simp;omega)),fun h => by cases h⟩,HB.out⟩
              · by_cases h4 : n ≤ 4000
                · by_cases h200 : g.rules.length ≤ 200
                  · go_wp2
                    go_ret
                    refine ⟨⟨false,ret_bool (by first | rfl | (simp;omega)),fun _ => ⟨?_,?_,h200,fun r hr => ?_⟩⟩,HB.out⟩
                    · have:=HE.out.1;omega
                    · have:=HE.out.1;omega
                    · obtain ⟨j,hj,rfl⟩:=List.getElem_of_mem hr
                      have:=HE.out.2 j hj (by omega)
                      omega
                  · go_wp2
                    go_ret
                    exact ⟨⟨true,ret_bool (by first | rfl | (simp;omega)),fun h => by cases h⟩,HB.out⟩
                · go_wp2
                  go_ret
                  exact ⟨⟨true,ret_bool (by first | rfl | (simp;omega)),fun h => by cases h⟩,HB.out⟩
        · go_wp2
          have HE2 : Aside0 (4000 < n ∨ ((g.terms.length : Int) ≤ n ∧ (g.names.length : Int) ≤ n)):=⟨by have:=HE.out;omega⟩
          obtain ⟨wo,hwo⟩ : ∃ wo : World,wo = wr:=⟨_,rfl⟩
          subst hwo
          obtain ⟨n0,hn0⟩ : ∃ n0 : Int,n0 = n:=⟨_,rfl⟩
          have hz0 : 0 ≤ n0:=by omega
          have hz1 : n0 ≤ 8001:=by omega
          have hE3:=HE2.out
          rw [← hn0] at hE3
          rw [← hn0]
          clear hkn hn hn0 hlt hk a1 a2 a3 HE HE2
          go_loopw [6,3] (fun i nv wr => ∃ (k : Nat) (n : Int),k ≤ g.rules.length ∧ i = .int .i64 k ∧ nv = .int .i64 n ∧ (k : Int) ≤ n ∧ n ≤ 8001 ∧ Aside0 ((4000 < n ∨ ((g.terms.length : Int) ≤ n ∧ (g.names.length : Int) ≤ n)) ∧ ∀ j (hj : j < g.rules.length),j < k → (g.rules[j]'hj).right.length ≤ 4000 ∨ 4000 < n) ∧ Aside0 (wr.heap[w.heap.size]? = some (.cells #[.slice A1 g.terms.length c1,.slice A2 g.names.length c2,.slice A3 g.rules.length c3] 25 (0,0))) ∧ Aside0 (Below w.heap.size w wr)) (fun i _ _ => g.rules.length - (intOf i).toNat)
          case atStart => exact ⟨0,n0,Nat.zero_le _,rfl,rfl,by omega,by omega,⟨by omega,fun j hj h => by omega⟩,HP,HB⟩
          case round =>
            clear HP HB
            obtain ⟨k,n,hk,rfl,rfl,hkn,hn,HE,HP,HB⟩:=hrel
            have a1:=blk_cell HP.out 0
            have a2:=blk_cell HP.out 1
            have a3:=blk_cell HP.out 2
            simp only [List.getElem?_toArray,List.getElem?_cons_zero,List.getElem?_cons_succ] at a1 a2 a3
            by_cases hlt : k < g.rules.length
            · by_cases h4 : n ≤ 4000
              · have i1 : (0 : Int) ≤ (k : Int):=by omega
                have i2 : (k : Int) < (g.rules.length : Int):=by omega
                obtain ⟨ad,B1,d1,ead,_,hx,hd1,_⟩:=at_rule (Kd.C_below HG.out.rules HB.out) k hlt
                cases ead
                go_wp2
                go_roundw
                case rel =>
                  refine ⟨k + 1,_,by omega,by go_num,rfl,?_,?_,⟨?_,fun j hj hjk => ?_⟩,HP,HB⟩
                  · split <;> omega
                  · split <;> omega
                  · have:=HE.out.1;split <;> omega
                  · rcases Nat.lt_or_ge j k with h | h
                    · have:=HE.out.2 j hj h;split <;> omega
                    · obtain rfl : j = k:=by omega
                      split <;> omega
                case measure => simp [intOf];omega
              · go_wp2
                go_ret
                exact ⟨⟨true,ret_bool (by first | rfl | (simp;omega)),fun h => by cases h⟩,HB.out⟩
            · by_cases h4 : n ≤ 4000
              · by_cases h200 : g.rules.length ≤ 200
                · go_wp2
                  go_ret
                  refine ⟨⟨false,ret_bool (by first | rfl | (simp;omega)),fun _ => ⟨?_,?_,h200,fun r hr => ?_⟩⟩,HB.out⟩
                  · have:=HE.out.1;omega
                  · have:=HE.out.1;omega
                  · obtain ⟨j,hj,rfl⟩:=List.getElem_of_mem hr
                    have:=HE.out.2 j hj (by omega)
                    omega
                · go_wp2
                  go_ret
                  exact ⟨⟨true,ret_bool (by first | rfl | (simp;omega)),fun h => by cases h⟩,HB.out⟩
              · go_wp2
                go_ret
                exact ⟨⟨true,ret_bool (by first | rfl | (simp;omega)),fun h => by cases h⟩,HB.out⟩
end Go.Proofs.Ytmkgcjhimajgiaa


set_option linter.unusedVariables false
set_option linter.unusedSimpArgs false
namespace Go.Proofs.Ytmkgcjhimajgiaa
open Go.RowKit Go.Proofs.YtmkgcjhimajgiaaW.PrintWords Go.Proofs.YtmkgcjhimajgiaaW.PrintLast

/-- Rules whose right sides may have come in (in w0) or been made. -/
def kRuleM (w0 : World) : Kd Rule:=Kd.iso (Kd.pair kInt (Kd.mix 3 kInt kInt w0)) (fun x : Rule => (x.left,x.right))
abbrev kBool : Kd Bool:=Kd.bool
end Go.Proofs.Ytmkgcjhimajgiaa


set_option linter.unusedVariables false
set_option linter.unusedSimpArgs false
namespace Go.Proofs.Ytmkgcjhimajgiaa
open Go.RowKit Go.Proofs.YtmkgcjhimajgiaaW.PrintWords Go.Deep

section
variable {H : Type} {enc : TypeId × Value → H} {w : World} {base : Nat} {spare : Nat → Bool} {held : Bool} {fuel : Nat}
set_option maxRecDepth 100000 in
theorem C_open {α : Type} [Inhabited α] {d : Kd α} {t e : TypeId} {v : Value} {x : DataW H × List MemPlace} (ht : Try.prog.underlying t = some (.slice e)) (hsz : Try.prog.cellsOf e = d.sz)
    (elem : ∀ n cs y,DataW.trod enc Try.prog w base spare held n e cs = some y → ∃ x,d.K w x cs) (h : DataW.trod enc Try.prog w base spare held fuel t [v] = some x) :
    ∃ A n c xs,v = .slice A n c ∧ n = xs.length ∧ n ≤ c ∧ d.C w A n xs:=by
  rcases open_slice ht h with ⟨hcs,_⟩ | ⟨a,len,cap,m,n,D,Pl,hcs,_,hl,hcap,hm,_,hx⟩
  · injection hcs with hcs _
    exact ⟨none,0,0,[],hcs,rfl,Nat.le_refl _,rfl,by omega,fun h => by omega⟩
  · injection hcs with hcs _
    have hlm : len ≤ m:=by rw [hm];split <;> omega
    obtain ⟨X,hX⟩:=choose_lt (α:=α) (n:=len) (p:=fun i x => ∃ cs,w.cells? base (a.add (i * Try.prog.cellsOf e)) (Try.prog.cellsOf e) = some cs ∧ d.K w x cs) (fun i hi => by
      obtain ⟨cs,h1,h2⟩:=hx i (by omega)
      obtain ⟨x,h3⟩:=elem _ _ _ h2
      exact ⟨x,cs,h1,h3⟩)
    have hmax : len ≤ 9223372036854775807:=by simp only [maxLen] at hcap;omega
    refine ⟨some a,len,cap,(List.range len).map X,hcs,by simp,hl,by simp,hmax,fun _ => ⟨a,rfl,fun j p hj => ?_⟩⟩
    have hjl : j < len:=by
      have:=(List.getElem?_eq_some_iff.1 hj).1
      simpa using this
    have hp : p = X j:=by
      rw [List.getElem?_map,List.getElem?_range hjl] at hj
      injection hj with hj
      exact hj.symm
    subst hp
    obtain ⟨cs,h1,h2⟩:=hX j hjl
    rw [hsz] at h1
    obtain ⟨_,hlen,hc⟩:=World.cells?_some h1
    refine ⟨cs,hlen,h2,fun i u hu => ?_⟩
    have hi : i < d.sz:=by rw [← hlen];exact (List.getElem?_eq_some_iff.1 hu).1
    rw [← Addr.add_add,hc i hi]
    exact hu
theorem ints_open {v : Value} {x : DataW H × List MemPlace} (h : DataW.trod enc Try.prog w base spare held fuel 26 [v] = some x) : ∃ A n c xs,v = .slice A n c ∧ n = xs.length ∧ n ≤ c ∧ kInt.C w A n xs :=
  C_open Try.underlying26 (by kernel_rfl) (fun n cs y hy => by
    obtain ⟨s,rfl,_⟩:=DataW.trod_int Try.underlying3 hy
    exact ⟨s,rfl⟩) h
set_option maxRecDepth 100000 in
theorem rules_open {v : Value} {x : DataW H × List MemPlace} (h : DataW.trod enc Try.prog w base spare held fuel 23 [v] = some x) : ∃ A n c xs,v = .slice A n c ∧ n = xs.length ∧ n ≤ c ∧ kRule.C w A n xs :=
  letI : Inhabited Rule:=⟨⟨0,[]⟩⟩
  C_open Try.underlying23 (by kernel_rfl) (fun n cs y hy => by
    obtain ⟨y0,y1,m,_,hl,h0,h1⟩:=Go.ChangeShapes.trod_struct2 Try.underlying46 hy
    have hl2 : cs.length = 2:=hl.trans (by kernel_rfl)
    match cs,hl2 with
    | [u0,u1],_ =>
      have h0' : DataW.trod enc Try.prog w base spare held m 3 [u0] = some y0:=h0
      have h1' : DataW.trod enc Try.prog w base spare held m 26 [u1] = some y1:=h1
      obtain ⟨z,hz,_⟩:=DataW.trod_int Try.underlying3 h0'
      injection hz with hz _
      subst hz
      obtain ⟨A,k,c,xs,rfl,rfl,hc,hC⟩:=ints_open h1'
      exact ⟨⟨z,xs⟩,[.int .i64 z],[.slice A xs.length c],rfl,rfl,⟨A,c,rfl,hc,hC⟩⟩) h
end
end Go.Proofs.Ytmkgcjhimajgiaa


set_option linter.unusedVariables false
set_option linter.unusedSimpArgs false
namespace Go.Proofs.Ytmkgcjhimajgiaa
open Go.RowKit Go.Proofs.YtmkgcjhimajgiaaW.PrintWords Go.Deep

section
variable {H : Type} {enc : TypeId × Value → H} {w : World} {base : Nat} {spare : Nat → Bool} {held : Bool} {fuel : Nat}
set_option maxRecDepth 100000 in
theorem C_openP {α : Type} [Inhabited α] {d : Kd α} (P : α → Prop) {t e : TypeId} {v : Value} {x : DataW H × List MemPlace} (ht : Try.prog.underlying t = some (.slice e)) (hsz : Try.prog.cellsOf e = d.sz)
    (elem : ∀ n cs y,DataW.trod enc Try.prog w base spare held n e cs = some y → ∃ x,d.K w x cs ∧ P x) (h : DataW.trod enc Try.prog w base spare held fuel t [v] = some x) :
    ∃ A n c xs,v = .slice A n c ∧ n = xs.length ∧ n ≤ c ∧ d.C w A n xs ∧ ∀ x ∈ xs,P x:=by
  rcases open_slice ht h with ⟨hcs,_⟩ | ⟨a,len,cap,m,n,D,Pl,hcs,_,hl,hcap,hm,_,hx⟩
  · injection hcs with hcs _
    exact ⟨none,0,0,[],hcs,rfl,Nat.le_refl _,⟨rfl,by omega,fun h => by omega⟩,fun x hx => by cases hx⟩
  · injection hcs with hcs _
    have hlm : len ≤ m:=by rw [hm];split <;> omega
    obtain ⟨X,hX⟩:=choose_lt (α:=α) (n:=len) (p:=fun i x => (∃ cs,w.cells? base (a.add (i * Try.prog.cellsOf e)) (Try.prog.cellsOf e) = some cs ∧ d.K w x cs) ∧ P x) (fun i hi => by
      obtain ⟨cs,h1,h2⟩:=hx i (by omega)
      obtain ⟨x,h3,h4⟩:=elem _ _ _ h2
      exact ⟨x,⟨cs,h1,h3⟩,h4⟩)
    have hmax : len ≤ 9223372036854775807:=by simp only [maxLen] at hcap;omega
    refine ⟨some a,len,cap,(List.range len).map X,hcs,by simp,hl,⟨by simp,hmax,fun _ => ⟨a,rfl,fun j p hj => ?_⟩⟩,fun x hx => ?_⟩
    · have hjl : j < len:=by
        have:=(List.getElem?_eq_some_iff.1 hj).1
        simpa using this
      have hp : p = X j:=by
        rw [List.getElem?_map,List.getElem?_range hjl] at hj
        injection hj with hj
        exact hj.symm
      subst hp
      obtain ⟨⟨cs,h1,h2⟩,_⟩:=hX j hjl
      rw [hsz] at h1
      obtain ⟨_,hlen,hc⟩:=World.cells?_some h1
      refine ⟨cs,hlen,h2,fun i u hu => ?_⟩
      have hi : i < d.sz:=by rw [← hlen];exact (List.getElem?_eq_some_iff.1 hu).1
      rw [← Addr.add_add,hc i hi]
      exact hu
    · obtain ⟨j,hj,rfl⟩:=List.mem_map.1 hx
      exact (hX j (List.mem_range.1 hj)).2
theorem strs_openS {v : Value} {x : DataW H × List MemPlace} (h : DataW.trod enc Try.prog w base spare held fuel 22 [v] = some x) : ∃ A n c xs,v = .slice A n c ∧ n = xs.length ∧ n ≤ c ∧ kStr.C w A n xs ∧ ∀ s ∈ xs,s.size ≤ maxLen :=
  C_openP (fun s : ByteArray => s.size ≤ maxLen) Try.underlying22 (by kernel_rfl) (fun n cs y hy => by
    obtain ⟨s,rfl,_,hs⟩:=DataW.trod_string Try.underlying9 hy
    exact ⟨s,rfl,hs⟩) h
set_option maxRecDepth 100000 in
theorem gram_openS {v : Value} {dd : DataW H} {p : List MemPlace} {r : Reach} {b0 : Nat} (hv : Value.okWide Try.prog w r b0 25 v) (h : DataW.Trod enc Try.prog w base spare held 25 v dd p) :
    ∃ g A1 A2 A3 c1 c2 c3,v = .agg #[.slice A1 g.terms.length c1,.slice A2 g.names.length c2,.slice A3 g.rules.length c3] ∧ RepG w g A1 A2 A3 c1 c2 c3 ∧ Sized g:=by
  obtain ⟨v0,v1,v2,y0,y1,y2,n,rfl,_,_,h0,h1,h2⟩:=Go.Joins.open_agg3 Try.underlying25 (by kernel_rfl) (by kernel_rfl) hv h
  obtain ⟨A1,n1,c1,ts,rfl,rfl,hc1,hC1,hz1⟩:=strs_openS h0
  obtain ⟨A2,n2,c2,ns,rfl,rfl,hc2,hC2,hz2⟩:=strs_openS h1
  obtain ⟨A3,n3,c3,rs,rfl,rfl,hc3,hC3⟩:=rules_open h2
  exact ⟨⟨ts,ns,rs⟩,A1,A2,A3,c1,c2,c3,rfl,⟨hC1,hC2,hC3,hc1,hc2,hc3⟩,⟨hz2,hz1⟩⟩
end
end Go.Proofs.Ytmkgcjhimajgiaa


set_option linter.unusedVariables false
set_option linter.unusedSimpArgs false
namespace Go.Proofs.Ytmkgcjhimajgiaa
open Go.RowKit Go.Proofs.YtmkgcjhimajgiaaW.PrintWords Go.Deep
section
variable {H : Type} {enc : TypeId × Value → H} {w : World} {base : Nat} {spare : Nat → Bool} {held : Bool} {fuel : Nat}
theorem ints_openS {v : Value} {x : DataW H × List MemPlace} (h : DataW.trod enc Try.prog w base spare held fuel 26 [v] = some x) : ∃ A n c xs,v = .slice A n c ∧ n = xs.length ∧ n ≤ c ∧ kInt.C w A n xs ∧ ∀ y ∈ xs,-9223372036854775808 ≤ y ∧ y ≤ 9223372036854775807 :=
  C_openP (d:=kInt) (fun y : Int => -9223372036854775808 ≤ y ∧ y ≤ 9223372036854775807) Try.underlying26 (by kernel_rfl) (fun n cs y hy => by
    obtain ⟨s,rfl,_,hs⟩:=DataW.trod_int Try.underlying3 hy
    exact ⟨s,rfl,bounds_i64 hs⟩) h
end
end Go.Proofs.Ytmkgcjhimajgiaa

