/- keep.LargeGrammar again,with the texts' sizes (printed by mkE7.py out of E3.t). -/
import Derived.Test.YtdpdbgaoaibafaaJE
set_option linter.unusedVariables false
set_option linter.unusedSimpArgs false
namespace Go.Proofs.Ytdpdbgaoaibafaa
open Go.RowKit Go.Proofs.YtdpdbgaoaibafaaW.PrintWords

def TS (l : List ByteArray) (k : Nat) (n : Int) : Prop:=∀ s ∈ l.take k,4000 < n ∨ (s.size : Int) ≤ 4000
theorem TS.zero (l : List ByteArray) (n : Int) : TS l 0 n:=fun s hs => by simp at hs
theorem TS.mono {l : List ByteArray} {k : Nat} {n n' : Int} (h : TS l k n) (hn : n ≤ n') : TS l k n':=fun s hs => (h s hs).imp (fun h => by omega) id
theorem TS.succ {l : List ByteArray} {k : Nat} {n n' : Int} (h : TS l k n) (hk : k < l.length) (hn : n ≤ n') (hs : 4000 < n' ∨ ((l[k]'hk).size : Int) ≤ 4000) : TS l (k + 1) n':=by
  intro s hm
  rw [List.take_succ_eq_append_getElem hk,List.mem_append,List.mem_singleton] at hm
  rcases hm with hm | rfl
  · exact h.mono hn s hm
  · exact hs
theorem TS.done {l : List ByteArray} {k : Nat} {n : Int} (h : TS l k n) (hk : 4000 < n ∨ l.length ≤ k) : TS l l.length n:=by
  rcases hk with hk | hk
  · exact fun s _ => .inl hk
  · intro s hs
    rw [List.take_of_length_le (Nat.le_refl _)] at hs
    exact h s (by rwa [List.take_of_length_le hk])
theorem TS.all {l : List ByteArray} {n : Int} (h : TS l l.length n) (hn : n ≤ 4000) : ∀ s ∈ l,s.size ≤ 4000:=by
  intro s hs
  rcases h s (by rwa [List.take_of_length_le (Nat.le_refl _)]) with h | h <;> omega
structure GSmallZ (g : Gram) : Prop where
  small : GSmall g
  terms : ∀ s ∈ g.terms,s.size ≤ 4000
  names : ∀ s ∈ g.names,s.size ≤ 4000
def LargeZ (g : Gram) (e : Ending) : Prop:=∃ b,e = .returned (.bool b) ∧ (b = false → GSmallZ g)
set_option maxRecDepth 100000 in
set_option maxHeartbeats 2000000 in
theorem largeZ_c (g : Gram) (A1 A2 A3 : Option Addr) (c1 c2 c3 : Nat) (w : World) (hg : RepG w g A1 A2 A3 c1 c2 c3) :
    Calls Try.prog 15 #[.agg #[.slice A1 g.terms.length c1,.slice A2 g.names.length c2,.slice A3 g.rules.length c3]] w fun e w' => LargeZ g e ∧ Below w.heap.size w w':=by
  have hm1:=C_max hg.terms
  have hm2:=C_max hg.names
  have hm3:=C_max hg.rules
  have HG:=Aside0.mk hg
  have HP:=Aside0.mk (blk_new w (.cells #[.slice A1 g.terms.length c1,.slice A2 g.names.length c2,.slice A3 g.rules.length c3] 25 (0,0)))
  have HB:=Aside0.mk ((Below.refl w.heap.size w).alloc (Nat.le_refl _) (.cells #[.slice A1 g.terms.length c1,.slice A2 g.names.length c2,.slice A3 g.rules.length c3] 25 (0,0)))
  clear hg
  go_enter Try.func15,Try.ntmps15
  go_wp2
  go_loopw [4,3] (fun i nv wr => ∃ (k : Nat) (n : Int),k ≤ g.terms.length ∧ i = .int .i64 k ∧ nv = .int .i64 n ∧ (k : Int) ≤ n ∧ n ≤ 8001 ∧ Aside0 (TS g.terms k n) ∧ Aside0 (wr.heap[w.heap.size]? = some (.cells #[.slice A1 g.terms.length c1,.slice A2 g.names.length c2,.slice A3 g.rules.length c3] 25 (0,0))) ∧ Aside0 (Below w.heap.size w wr)) (fun i _ _ => g.terms.length - (intOf i).toNat)
  case atStart => exact ⟨0,0,Nat.zero_le _,rfl,rfl,by omega,by omega,⟨TS.zero _ _⟩,HP,HB⟩
  case round =>
    clear HP HB
    obtain ⟨k,n,hk,rfl,rfl,hkn,hn,HT,HP,HB⟩:=hrel
    have a1:=blk_cell HP.out 0
    have a2:=blk_cell HP.out 1
    have a3:=blk_cell HP.out 2
    simp only [List.getElem?_toArray,List.getElem?_cons_zero,List.getElem?_cons_succ] at a1 a2 a3
    by_cases hlt : k < g.terms.length
    · by_cases h4 : n ≤ 4000
      · have i1 : (0 : Int) ≤ (k : Int):=by omega
        have i2 : (k : Int) < (g.terms.length : Int):=by omega
        obtain ⟨ad,ead,hx⟩:=at_str (Kd.C_below HG.out.terms HB.out) k hlt
        cases ead
        go_wp2
        go_roundw
        case rel =>
          refine ⟨k + 1,_,by omega,by go_num,rfl,?_,?_,⟨?_⟩,HP,HB⟩
          · split <;> omega
          · split <;> omega
          · exact HT.out.succ hlt (by split <;> omega) (by split <;> omega)
        case measure => simp [intOf];omega
      · go_wp2
        have HT:=Aside0.mk (HT.out.done (by omega))
        have HE : Aside0 (4000 < n ∨ (g.terms.length : Int) ≤ n):=⟨by omega⟩
        obtain ⟨wo,hwo⟩ : ∃ wo : World,wo = wr:=⟨_,rfl⟩
        subst hwo
        obtain ⟨n0,hn0⟩ : ∃ n0 : Int,n0 = n:=⟨_,rfl⟩
        have hz0 : 0 ≤ n0:=by omega
        have hz1 : n0 ≤ 8001:=by omega
        rw [← hn0] at HE HT
        rw [← hn0]
        clear hkn hn hn0 hlt hk a1 a2 a3 h4
        go_loopw [5,3] (fun i nv wr => ∃ (k : Nat) (n : Int),k ≤ g.names.length ∧ i = .int .i64 k ∧ nv = .int .i64 n ∧ (k : Int) ≤ n ∧ n ≤ 8001 ∧ Aside0 (4000 < n ∨ (g.terms.length : Int) ≤ n) ∧ Aside0 (TS g.terms g.terms.length n) ∧ Aside0 (TS g.names k n) ∧ Aside0 (wr.heap[w.heap.size]? = some (.cells #[.slice A1 g.terms.length c1,.slice A2 g.names.length c2,.slice A3 g.rules.length c3] 25 (0,0))) ∧ Aside0 (Below w.heap.size w wr)) (fun i _ _ => g.names.length - (intOf i).toNat)
        case atStart => exact ⟨0,n0,Nat.zero_le _,rfl,rfl,by omega,by omega,HE,HT,⟨TS.zero _ _⟩,HP,HB⟩
        case round =>
          clear HP HB
          obtain ⟨k,n,hk,rfl,rfl,hkn,hn,HE,HT,HN,HP,HB⟩:=hrel
          have a1:=blk_cell HP.out 0
          have a2:=blk_cell HP.out 1
          have a3:=blk_cell HP.out 2
          simp only [List.getElem?_toArray,List.getElem?_cons_zero,List.getElem?_cons_succ] at a1 a2 a3
          by_cases hlt : k < g.names.length
          · by_cases h4 : n ≤ 4000
            · have i1 : (0 : Int) ≤ (k : Int):=by omega
              have i2 : (k : Int) < (g.names.length : Int):=by omega
              obtain ⟨ad,ead,hx⟩:=at_str (Kd.C_below HG.out.names HB.out) k hlt
              cases ead
              go_wp2
              go_roundw
              case rel =>
                refine ⟨k + 1,_,by omega,by go_num,rfl,?_,?_,⟨?_⟩,⟨?_⟩,⟨?_⟩,HP,HB⟩
                · split <;> omega
                · split <;> omega
                · have:=HE.out;split <;> omega
                · exact HT.out.mono (by split <;> omega)
                · exact HN.out.succ hlt (by split <;> omega) (by split <;> omega)
              case measure => simp [intOf];omega
            · go_wp2
              have HN:=Aside0.mk (HN.out.done (by omega))
              have HE2 : Aside0 (4000 < n ∨ ((g.terms.length : Int) ≤ n ∧ (g.names.length : Int) ≤ n)):=⟨by have:=HE.out;omega⟩
              obtain ⟨wo,hwo⟩ : ∃ wo : World,wo = wr:=⟨_,rfl⟩
              subst hwo
              obtain ⟨n0,hn0⟩ : ∃ n0 : Int,n0 = n:=⟨_,rfl⟩
              have hz0 : 0 ≤ n0:=by omega
              have hz1 : n0 ≤ 8001:=by omega
              have hE3:=HE2.out
              rw [← hn0] at hE3 HT HN
              rw [← hn0]
              clear hkn hn hn0 hlt hk a1 a2 a3 h4 HE HE2
              go_loopw [6,3] (fun i nv wr => ∃ (k : Nat) (n : Int),k ≤ g.rules.length ∧ i = .int .i64 k ∧ nv = .int .i64 n ∧ (k : Int) ≤ n ∧ n ≤ 8001 ∧ Aside0 ((4000 < n ∨ ((g.terms.length : Int) ≤ n ∧ (g.names.length : Int) ≤ n)) ∧ ∀ j (hj : j < g.rules.length),j < k → (g.rules[j]'hj).right.length ≤ 4000 ∨ 4000 < n) ∧ Aside0 (TS g.terms g.terms.length n) ∧ Aside0 (TS g.names g.names.length n) ∧ Aside0 (wr.heap[w.heap.size]? = some (.cells #[.slice A1 g.terms.length c1,.slice A2 g.names.length c2,.slice A3 g.rules.length c3] 25 (0,0))) ∧ Aside0 (Below w.heap.size w wr)) (fun i _ _ => g.rules.length - (intOf i).toNat)
              case atStart => exact ⟨0,n0,Nat.zero_le _,rfl,rfl,by omega,by omega,⟨by omega,fun j hj h => by omega⟩,HT,HN,HP,HB⟩
              case round =>
                clear HP HB
                obtain ⟨k,n,hk,rfl,rfl,hkn,hn,HE,HT,HN,HP,HB⟩:=hrel
                have a1:=blk_cell HP.out 0
                have a2:=blk_cell HP.out 1
                have a3:=blk_cell HP.out 2
                simp only [List.getElem?_toArray,List.getElem?_cons_zero,List.getElem?_cons_succ] at a1 a2 a3
                by_cases hlt : k < g.rules.length
                · by_cases h4 : n ≤ 4000
                  · have i1 : (0 : Int) ≤ (k : Int):=by omega
                    have i2 : (k : Int) < (g.rules.length : Int):=by omega
                    obtain ⟨ad,B1,d1,ead,_,hx,hd1,_⟩:=at_rule (Kd.C_below HG.out.rules HB.out) k hlt
                    cases ead
                    go_wp2
                    go_roundw
                    case rel =>
                      refine ⟨k + 1,_,by omega,by go_num,rfl,?_,?_,⟨?_,fun j hj hjk => ?_⟩,⟨?_⟩,⟨?_⟩,HP,HB⟩
                      · split <;> omega
                      · split <;> omega
                      · have:=HE.out.1;split <;> omega
                      · rcases Nat.lt_or_ge j k with h | h
                        · have:=HE.out.2 j hj h;split <;> omega
                        · obtain rfl : j = k:=by omega
                          split <;> omega
                      · exact HT.out.mono (by split <;> omega)
                      · exact HN.out.mono (by split <;> omega)
                    case measure => simp [intOf];omega
                  · go_wp2
                    go_ret
                    exact ⟨⟨true,ret_bool (by first | rfl | (simp;omega)),fun h => by cases h⟩,HB.out⟩
                · by_cases h4 : n ≤ 4000
                  · by_cases h200 : g.rules.length ≤ 200
                    · go_wp2
                      go_ret
                      refine ⟨⟨false,ret_bool (by first | rfl | (simp;omega)),fun _ => ⟨⟨?_,?_,h200,fun r hr => ?_⟩,HT.out.all (by omega),HN.out.all (by omega)⟩⟩,HB.out⟩
                      · have:=HE.out.1;omega
                      · have:=HE.out.1;omega
                      · obtain ⟨j,hj,rfl⟩:=List.getElem_of_mem hr
                        have:=HE.out.2 j hj (by omega)
                        omega
                    · go_wp2
                      go_ret
                      exact ⟨⟨true,ret_bool (by first | rfl | (simp;omega)),fun h => by cases h⟩,HB.out⟩
                  · go_wp2
                    go_ret
                    exact ⟨⟨true,ret_bool (by first | rfl | (simp;omega)),fun h => by cases h⟩,HB.out⟩
          · go_wp2
            have HN:=Aside0.mk (HN.out.done (by omega))
            have HE2 : Aside0 (4000 < n ∨ ((g.terms.length : Int) ≤ n ∧ (g.names.length : Int) ≤ n)):=⟨by have:=HE.out;omega⟩
            obtain ⟨wo,hwo⟩ : ∃ wo : World,wo = wr:=⟨_,rfl⟩
            subst hwo
            obtain ⟨n0,hn0⟩ : ∃ n0 : Int,n0 = n:=⟨_,rfl⟩
            have hz0 : 0 ≤ n0:=by omega
            have hz1 : n0 ≤ 8001:=by omega
            have hE3:=HE2.out
            rw [← hn0] at hE3 HT HN
            rw [← hn0]
            clear hkn hn hn0 hlt hk a1 a2 a3 HE HE2
            go_loopw [6,3] (fun i nv wr => ∃ (k : Nat) (n : Int),k ≤ g.rules.length ∧ i = .int .i64 k ∧ nv = .int .i64 n ∧ (k : Int) ≤ n ∧ n ≤ 8001 ∧ Aside0 ((4000 < n ∨ ((g.terms.length : Int) ≤ n ∧ (g.names.length : Int) ≤ n)) ∧ ∀ j (hj : j < g.rules.length),j < k → (g.rules[j]'hj).right.length ≤ 4000 ∨ 4000 < n) ∧ Aside0 (TS g.terms g.terms.length n) ∧ Aside0 (TS g.names g.names.length n) ∧ Aside0 (wr.heap[w.heap.size]? = some (.cells #[.slice A1 g.terms.length c1,.slice A2 g.names.length c2,.slice A3 g.rules.length c3] 25 (0,0))) ∧ Aside0 (Below w.heap.size w wr)) (fun i _ _ => g.rules.length - (intOf i).toNat)
            case atStart => exact ⟨0,n0,Nat.zero_le _,rfl,rfl,by omega,by omega,⟨by omega,fun j hj h => by omega⟩,HT,HN,HP,HB⟩
            case round =>
              clear HP HB
              obtain ⟨k,n,hk,rfl,rfl,hkn,hn,HE,HT,HN,HP,HB⟩:=hrel
              have a1:=blk_cell HP.out 0
              have a2:=blk_cell HP.out 1
              have a3:=blk_cell HP.out 2
              simp only [List.getElem?_toArray,List.getElem?_cons_zero,List.getElem?_cons_succ] at a1 a2 a3
              by_cases hlt : k < g.rules.length
              · by_cases h4 : n ≤ 4000
                · have i1 : (0 : Int) ≤ (k : Int):=by omega
                  have i2 : (k : Int) < (g.rules.length : Int):=by omega
                  obtain ⟨ad,B1,d1,ead,_,hx,hd1,_⟩:=at_rule (Kd.C_below HG.out.rules HB.out) k hlt
                  cases ead
                  go_wp2
                  go_roundw
                  case rel =>
                    refine ⟨k + 1,_,by omega,by go_num,rfl,?_,?_,⟨?_,fun j hj hjk => ?_⟩,⟨?_⟩,⟨?_⟩,HP,HB⟩
                    · split <;> omega
                    · split <;> omega
                    · have:=HE.out.1;split <;> omega
                    · rcases Nat.lt_or_ge j k with h | h
                      · have:=HE.out.2 j hj h;split <;> omega
                      · obtain rfl : j = k:=by omega
                        split <;> omega
                    · exact HT.out.mono (by split <;> omega)
                    · exact HN.out.mono (by split <;> omega)
                  case measure => simp [intOf];omega
                · go_wp2
                  go_ret
                  exact ⟨⟨true,ret_bool (by first | rfl | (simp;omega)),fun h => by cases h⟩,HB.out⟩
              · by_cases h4 : n ≤ 4000
                · by_cases h200 : g.rules.length ≤ 200
                  · go_wp2
                    go_ret
                    refine ⟨⟨false,ret_bool (by first | rfl | (simp;omega)),fun _ => ⟨⟨?_,?_,h200,fun r hr => ?_⟩,HT.out.all (by omega),HN.out.all (by omega)⟩⟩,HB.out⟩
                    · have:=HE.out.1;omega
                    · have:=HE.out.1;omega
                    · obtain ⟨j,hj,rfl⟩:=List.getElem_of_mem hr
                      have:=HE.out.2 j hj (by omega)
                      omega
                  · go_wp2
                    go_ret
                    exact ⟨⟨true,ret_bool (by first | rfl | (simp;omega)),fun h => by cases h⟩,HB.out⟩
                · go_wp2
                  go_ret
                  exact ⟨⟨true,ret_bool (by first | rfl | (simp;omega)),fun h => by cases h⟩,HB.out⟩
    · go_wp2
      have HT:=Aside0.mk (HT.out.done (by omega))
      have HE : Aside0 (4000 < n ∨ (g.terms.length : Int) ≤ n):=⟨by omega⟩
      obtain ⟨wo,hwo⟩ : ∃ wo : World,wo = wr:=⟨_,rfl⟩
      subst hwo
      obtain ⟨n0,hn0⟩ : ∃ n0 : Int,n0 = n:=⟨_,rfl⟩
      have hz0 : 0 ≤ n0:=by omega
      have hz1 : n0 ≤ 8001:=by omega
      rw [← hn0] at HE HT
      rw [← hn0]
      clear hkn hn hn0 hlt hk a1 a2 a3
      go_loopw [5,3] (fun i nv wr => ∃ (k : Nat) (n : Int),k ≤ g.names.length ∧ i = .int .i64 k ∧ nv = .int .i64 n ∧ (k : Int) ≤ n ∧ n ≤ 8001 ∧ Aside0 (4000 < n ∨ (g.terms.length : Int) ≤ n) ∧ Aside0 (TS g.terms g.terms.length n) ∧ Aside0 (TS g.names k n) ∧ Aside0 (wr.heap[w.heap.size]? = some (.cells #[.slice A1 g.terms.length c1,.slice A2 g.names.length c2,.slice A3 g.rules.length c3] 25 (0,0))) ∧ Aside0 (Below w.heap.size w wr)) (fun i _ _ => g.names.length - (intOf i).toNat)
      case atStart => exact ⟨0,n0,Nat.zero_le _,rfl,rfl,by omega,by omega,HE,HT,⟨TS.zero _ _⟩,HP,HB⟩
      case round =>
        clear HP HB
        obtain ⟨k,n,hk,rfl,rfl,hkn,hn,HE,HT,HN,HP,HB⟩:=hrel
        have a1:=blk_cell HP.out 0
        have a2:=blk_cell HP.out 1
        have a3:=blk_cell HP.out 2
        simp only [List.getElem?_toArray,List.getElem?_cons_zero,List.getElem?_cons_succ] at a1 a2 a3
        by_cases hlt : k < g.names.length
        · by_cases h4 : n ≤ 4000
          · have i1 : (0 : Int) ≤ (k : Int):=by omega
            have i2 : (k : Int) < (g.names.length : Int):=by omega
            obtain ⟨ad,ead,hx⟩:=at_str (Kd.C_below HG.out.names HB.out) k hlt
            cases ead
            go_wp2
            go_roundw
            case rel =>
              refine ⟨k + 1,_,by omega,by go_num,rfl,?_,?_,⟨?_⟩,⟨?_⟩,⟨?_⟩,HP,HB⟩
              · split <;> omega
              · split <;> omega
              · have:=HE.out;split <;> omega
              · exact HT.out.mono (by split <;> omega)
              · exact HN.out.succ hlt (by split <;> omega) (by split <;> omega)
            case measure => simp [intOf];omega
          · go_wp2
            have HN:=Aside0.mk (HN.out.done (by omega))
            have HE2 : Aside0 (4000 < n ∨ ((g.terms.length : Int) ≤ n ∧ (g.names.length : Int) ≤ n)):=⟨by have:=HE.out;omega⟩
            obtain ⟨wo,hwo⟩ : ∃ wo : World,wo = wr:=⟨_,rfl⟩
            subst hwo
            obtain ⟨n0,hn0⟩ : ∃ n0 : Int,n0 = n:=⟨_,rfl⟩
            have hz0 : 0 ≤ n0:=by omega
            have hz1 : n0 ≤ 8001:=by omega
            have hE3:=HE2.out
            rw [← hn0] at hE3 HT HN
            rw [← hn0]
            clear hkn hn hn0 hlt hk a1 a2 a3 h4 HE HE2
            go_loopw [6,3] (fun i nv wr => ∃ (k : Nat) (n : Int),k ≤ g.rules.length ∧ i = .int .i64 k ∧ nv = .int .i64 n ∧ (k : Int) ≤ n ∧ n ≤ 8001 ∧ Aside0 ((4000 < n ∨ ((g.terms.length : Int) ≤ n ∧ (g.names.length : Int) ≤ n)) ∧ ∀ j (hj : j < g.rules.length),j < k → (g.rules[j]'hj).right.length ≤ 4000 ∨ 4000 < n) ∧ Aside0 (TS g.terms g.terms.length n) ∧ Aside0 (TS g.names g.names.length n) ∧ Aside0 (wr.heap[w.heap.size]? = some (.cells #[.slice A1 g.terms.length c1,.slice A2 g.names.length c2,.slice A3 g.rules.length c3] 25 (0,0))) ∧ Aside0 (Below w.heap.size w wr)) (fun i _ _ => g.rules.length - (intOf i).toNat)
            case atStart => exact ⟨0,n0,Nat.zero_le _,rfl,rfl,by omega,by omega,⟨by omega,fun j hj h => by omega⟩,HT,HN,HP,HB⟩
            case round =>
              clear HP HB
              obtain ⟨k,n,hk,rfl,rfl,hkn,hn,HE,HT,HN,HP,HB⟩:=hrel
              have a1:=blk_cell HP.out 0
              have a2:=blk_cell HP.out 1
              have a3:=blk_cell HP.out 2
              simp only [List.getElem?_toArray,List.getElem?_cons_zero,List.getElem?_cons_succ] at a1 a2 a3
              by_cases hlt : k < g.rules.length
              · by_cases h4 : n ≤ 4000
                · have i1 : (0 : Int) ≤ (k : Int):=by omega
                  have i2 : (k : Int) < (g.rules.length : Int):=by omega
                  obtain ⟨ad,B1,d1,ead,_,hx,hd1,_⟩:=at_rule (Kd.C_below HG.out.rules HB.out) k hlt
                  cases ead
                  go_wp2
                  go_roundw
                  case rel =>
                    refine ⟨k + 1,_,by omega,by go_num,rfl,?_,?_,⟨?_,fun j hj hjk => ?_⟩,⟨?_⟩,⟨?_⟩,HP,HB⟩
                    · split <;> omega
                    · split <;> omega
                    · have:=HE.out.1;split <;> omega
                    · rcases Nat.lt_or_ge j k with h | h
                      · have:=HE.out.2 j hj h;split <;> omega
                      · obtain rfl : j = k:=by omega
                        split <;> omega
                    · exact HT.out.mono (by split <;> omega)
                    · exact HN.out.mono (by split <;> omega)
                  case measure => simp [intOf];omega
                · go_wp2
                  go_ret
                  exact ⟨⟨true,ret_bool (by first | rfl | (simp;omega)),fun h => by cases h⟩,HB.out⟩
              · by_cases h4 : n ≤ 4000
                · by_cases h200 : g.rules.length ≤ 200
                  · go_wp2
                    go_ret
                    refine ⟨⟨false,ret_bool (by first | rfl | (simp;omega)),fun _ => ⟨⟨?_,?_,h200,fun r hr => ?_⟩,HT.out.all (by omega),HN.out.all (by omega)⟩⟩,HB.out⟩
                    · have:=HE.out.1;omega
                    · have:=HE.out.1;omega
                    · obtain ⟨j,hj,rfl⟩:=List.getElem_of_mem hr
                      have:=HE.out.2 j hj (by omega)
                      omega
                  · go_wp2
                    go_ret
                    exact ⟨⟨true,ret_bool (by first | rfl | (simp;omega)),fun h => by cases h⟩,HB.out⟩
                · go_wp2
                  go_ret
                  exact ⟨⟨true,ret_bool (by first | rfl | (simp;omega)),fun h => by cases h⟩,HB.out⟩
        · go_wp2
          have HN:=Aside0.mk (HN.out.done (by omega))
          have HE2 : Aside0 (4000 < n ∨ ((g.terms.length : Int) ≤ n ∧ (g.names.length : Int) ≤ n)):=⟨by have:=HE.out;omega⟩
          obtain ⟨wo,hwo⟩ : ∃ wo : World,wo = wr:=⟨_,rfl⟩
          subst hwo
          obtain ⟨n0,hn0⟩ : ∃ n0 : Int,n0 = n:=⟨_,rfl⟩
          have hz0 : 0 ≤ n0:=by omega
          have hz1 : n0 ≤ 8001:=by omega
          have hE3:=HE2.out
          rw [← hn0] at hE3 HT HN
          rw [← hn0]
          clear hkn hn hn0 hlt hk a1 a2 a3 HE HE2
          go_loopw [6,3] (fun i nv wr => ∃ (k : Nat) (n : Int),k ≤ g.rules.length ∧ i = .int .i64 k ∧ nv = .int .i64 n ∧ (k : Int) ≤ n ∧ n ≤ 8001 ∧ Aside0 ((4000 < n ∨ ((g.terms.length : Int) ≤ n ∧ (g.names.length : Int) ≤ n)) ∧ ∀ j (hj : j < g.rules.length),j < k → (g.rules[j]'hj).right.length ≤ 4000 ∨ 4000 < n) ∧ Aside0 (TS g.terms g.terms.length n) ∧ Aside0 (TS g.names g.names.length n) ∧ Aside0 (wr.heap[w.heap.size]? = some (.cells #[.slice A1 g.terms.length c1,.slice A2 g.names.length c2,.slice A3 g.rules.length c3] 25 (0,0))) ∧ Aside0 (Below w.heap.size w wr)) (fun i _ _ => g.rules.length - (intOf i).toNat)
          case atStart => exact ⟨0,n0,Nat.zero_le _,rfl,rfl,by omega,by omega,⟨by omega,fun j hj h => by omega⟩,HT,HN,HP,HB⟩
          case round =>
            clear HP HB
            obtain ⟨k,n,hk,rfl,rfl,hkn,hn,HE,HT,HN,HP,HB⟩:=hrel
            have a1:=blk_cell HP.out 0
            have a2:=blk_cell HP.out 1
            have a3:=blk_cell HP.out 2
            simp only [List.getElem?_toArray,List.getElem?_cons_zero,List.getElem?_cons_succ] at a1 a2 a3
            by_cases hlt : k < g.rules.length
            · by_cases h4 : n ≤ 4000
              · have i1 : (0 : Int) ≤ (k : Int):=by omega
                have i2 : (k : Int) < (g.rules.length : Int):=by omega
                obtain ⟨ad,B1,d1,ead,_,hx,hd1,_⟩:=at_rule (Kd.C_below HG.out.rules HB.out) k hlt
                cases ead
                go_wp2
                go_roundw
                case rel =>
                  refine ⟨k + 1,_,by omega,by go_num,rfl,?_,?_,⟨?_,fun j hj hjk => ?_⟩,⟨?_⟩,⟨?_⟩,HP,HB⟩
                  · split <;> omega
                  · split <;> omega
                  · have:=HE.out.1;split <;> omega
                  · rcases Nat.lt_or_ge j k with h | h
                    · have:=HE.out.2 j hj h;split <;> omega
                    · obtain rfl : j = k:=by omega
                      split <;> omega
                  · exact HT.out.mono (by split <;> omega)
                  · exact HN.out.mono (by split <;> omega)
                case measure => simp [intOf];omega
              · go_wp2
                go_ret
                exact ⟨⟨true,ret_bool (by first | rfl | (simp;omega)),fun h => by cases h⟩,HB.out⟩
            · by_cases h4 : n ≤ 4000
              · by_cases h200 : g.rules.length ≤ 200
                · go_wp2
                  go_ret
                  refine ⟨⟨false,ret_bool (by first | rfl | (simp;omega)),fun _ => ⟨⟨?_,?_,h200,fun r hr => ?_⟩,HT.out.all (by omega),HN.out.all (by omega)⟩⟩,HB.out⟩
                  · have:=HE.out.1;omega
                  · have:=HE.out.1;omega
                  · obtain ⟨j,hj,rfl⟩:=List.getElem_of_mem hr
                    have:=HE.out.2 j hj (by omega)
                    omega
                · go_wp2
                  go_ret
                  exact ⟨⟨true,ret_bool (by first | rfl | (simp;omega)),fun h => by cases h⟩,HB.out⟩
              · go_wp2
                go_ret
                exact ⟨⟨true,ret_bool (by first | rfl | (simp;omega)),fun h => by cases h⟩,HB.out⟩
end Go.Proofs.Ytdpdbgaoaibafaa
