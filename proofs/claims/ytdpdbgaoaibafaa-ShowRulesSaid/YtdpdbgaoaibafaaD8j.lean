/- The law ShowRules,walked: it answers true. -/
import Derived.Test.YtdpdbgaoaibafaaJQ
import Derived.Test.YtdpdbgaoaibafaaE7j
import Derived.Test.YtdpdbgaoaibafaaJN
set_option linter.unusedVariables false
set_option linter.unusedSimpArgs false
namespace Go.Proofs.Ytdpdbgaoaibafaa
open Go.RowKit Go.Proofs.YtdpdbgaoaibafaaW.PrintWords Go.Proofs.YtdpdbgaoaibafaaW.PrintLast

set_option maxRecDepth 100000 in
set_option maxHeartbeats 2000000 in
theorem nameU_c (g : Gram) (A1 A2 A3 : Option Addr) (c1 c2 c3 : Nat) (sym : Int) (w : World) (hg : RepG w g A1 A2 A3 c1 c2 c3) (hsz : g.terms.length + g.names.length ≤ 4000000000000000) :
    Calls Try.prog 25 #[.agg #[.slice A1 g.terms.length c1,.slice A2 g.names.length c2,.slice A3 g.rules.length c3],.int .i64 sym] w fun e w' => NameEnd (nameF g sym) e ∧ Below w.heap.size w w':=by
  have HB:=Aside0.mk ((Below.refl w.heap.size w).alloc (Nat.le_refl _) (.cells #[.slice A1 g.terms.length c1,.slice A2 g.names.length c2,.slice A3 g.rules.length c3] 25 (0,0)))
  have HG:=Aside0.mk hg
  clear hg
  by_cases h1 : sym < 0
  · have HE : Aside0 (nameF g sym = none):=⟨by unfold nameF;rw [if_pos h1]⟩
    go_enter Try.func25,Try.ntmps25
    go_wp2
    go_ret2
    exact ⟨name_none HE.out,HB.out⟩
  · obtain ⟨k,rfl⟩:=Int.eq_ofNat_of_zero_le (by omega : 0 ≤ sym)
    by_cases h2 : k < g.terms.length + g.names.length
    · by_cases h3 : k < g.terms.length
      · obtain ⟨ad,ead,hx⟩:=at_str (Kd.C_below HG.out.terms HB.out) k h3
        cases ead
        have HE : Aside0 (nameF g (k : Int) = some (g.terms[k]'h3)):=⟨by unfold nameF;rw [if_neg h1,if_pos (by omega),Int.toNat_natCast,List.getElem?_eq_getElem h3]⟩
        go_enter Try.func25,Try.ntmps25
        go_wp2
        go_ret2
        exact ⟨name_some HE.out rfl,HB.out⟩
      · obtain ⟨m,rfl⟩ : ∃ m,k = m + g.terms.length:=⟨k - g.terms.length,by omega⟩
        have h4 : m < g.names.length:=by omega
        obtain ⟨ad,ead,hx⟩:=at_str (Kd.C_below HG.out.names HB.out) m h4
        cases ead
        have e1 : IntKind.i64.wrap ((↑(m + g.terms.length) : Int) - (g.terms.length : Int)) = (m : Int):=by rw [IntWalk.i64_in _ (by omega)];omega
        have HE : Aside0 (nameF g ((m + g.terms.length : Nat) : Int) = some (g.names[m]'h4)):=⟨by unfold nameF;rw [if_neg h1,if_neg (by omega),Int.toNat_natCast,Nat.add_sub_cancel,List.getElem?_eq_getElem h4]⟩
        go_enter Try.func25,Try.ntmps25
        go_wp2
        go_ret2
        exact ⟨name_some HE.out rfl,HB.out⟩
    · have HE : Aside0 (nameF g (k : Int) = none):=⟨by unfold nameF;rw [if_neg h1,if_neg (by omega),Int.toNat_natCast,List.getElem?_eq_none (by omega)]⟩
      go_enter Try.func25,Try.ntmps25
      go_wp2
      go_ret2
      exact ⟨name_none HE.out,HB.out⟩

theorem nameB_c (g : Gram) (A1 A2 A3 : Option Addr) (c1 c2 c3 : Nat) (sym : Int) (w : World) (hg : RepG w g A1 A2 A3 c1 c2 c3) (hsz : g.terms.length + g.names.length ≤ 4000000000000000) {s : ByteArray} {c : Bool} (hs : nameD g sym = s) (hc : (nameF g sym).isSome = c) :
    Calls Try.prog 25 #[.agg #[.slice A1 g.terms.length c1,.slice A2 g.names.length c2,.slice A3 g.rules.length c3],.int .i64 sym] w fun e w' => e = .returned (.tuple #[.string s,.bool c]) ∧ Below w.heap.size w w':=by
  have:=nameU_c g A1 A2 A3 c1 c2 c3 sym w hg hsz
  subst hs hc
  unfold nameD
  cases h : nameF g sym with
  | none => rw [h] at this;exact this
  | some x => rw [h] at this;exact this
theorem nameD_sz {g : Gram} (h : GSmallZ g) (x : Int) : (nameD g x).size ≤ 4000:=by
  unfold nameD nameF
  split
  · exact Nat.zero_le _
  · split
    · cases hh : g.terms[x.toNat]? with
      | none => exact Nat.zero_le _
      | some s => exact h.terms s (List.mem_of_getElem? hh)
    · cases hh : g.names[x.toNat - g.terms.length]? with
      | none => exact Nat.zero_le _
      | some s => exact h.names s (List.mem_of_getElem? hh)
theorem symS_sz {g : Gram} (h : GSmallZ g) (x : Int) : (symS g x).size ≤ 4002:=by
  have h1:=nameD_sz h x
  unfold symS
  split
  · rw [size_app,size_app,show (⟨#[39]⟩ : ByteArray).size = 1 from rfl];omega
  · omega
theorem rowS_sz {g : Gram} (h : GSmallZ g) (l : List Int) (acc : ByteArray) : (rowS g acc l).size ≤ acc.size + 4003 * l.length:=by
  induction l generalizing acc with
  | nil => exact Nat.le_refl _
  | cons x l ih =>
    have h1:=ih (acc ++ (⟨#[32]⟩ ++ symS g x))
    have h2:=symS_sz h x
    rw [size_app,size_app] at h1
    have h3 : (⟨#[32]⟩ : ByteArray).size = 1:=rfl
    rw [List.length_cons]
    show (rowS g (acc ++ (⟨#[32]⟩ ++ symS g x)) l).size ≤ _
    omega
end Go.Proofs.Ytdpdbgaoaibafaa
