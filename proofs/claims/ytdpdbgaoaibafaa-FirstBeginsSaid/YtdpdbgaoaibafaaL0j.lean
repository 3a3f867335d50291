/- What laws with one rule more share;a list of lists while another block is written. -/
import Derived.Test.YtdpdbgaoaibafaaJM
import Derived.Test.YtdpdbgaoaibafaaX5j
set_option linter.unusedVariables false
set_option linter.unusedSimpArgs false
namespace Go.Proofs.Ytdpdbgaoaibafaa
open Go.RowKit Go.Proofs.YtdpdbgaoaibafaaW.PrintWords Go.Proofs.YtdpdbgaoaibafaaW.PrintLast

abbrev kU8m : Kd Int:=Kd.int .u8
def modM (n : Int) (l : List Int) : List Int:=l.map (· % n)
theorem modM_take {n : Int} {l : List Int} {k : Nat} (h : k < l.length) : modM n (l.take (k + 1)) = modM n (l.take k) ++ [(l[k]'h) % n]:=by
  rw [modM,List.take_succ_eq_append_getElem h,List.map_append];rfl
theorem modM_len (n : Int) (l : List Int) : (modM n l).length = l.length:=by simp [modM]
theorem good1_3m (ts ns : List ByteArray) (rs : List Rule) (A1 A2 A3 : Option Addr) (c1 c2 c3 : Nat) (w : World) (hg : RepG w ⟨ts,ns,rs⟩ A1 A2 A3 c1 c2 c3) (hz : Sized ⟨ts,ns,rs⟩) {v : Bool} (hv : goodF ⟨ts,ns,rs⟩ = v) :
    Calls Try.prog 24 #[.agg #[.slice A1 ts.length c1,.slice A2 ns.length c2,.slice A3 rs.length c3]] w fun e w' => e = .returned (.bool v) ∧ Below w.heap.size w w':=good1_v ⟨ts,ns,rs⟩ A1 A2 A3 c1 c2 c3 w hg hz hv
theorem modM_in {n : Nat} (hn : 1 ≤ n) (l : List Int) : ∀ y ∈ modM (n : Int) l,0 ≤ y ∧ y < (n : Int):=by
  intro y hy
  obtain ⟨x,_,rfl⟩:=List.mem_map.1 hy
  exact ⟨Int.emod_nonneg x (by omega),Int.emod_lt_of_pos x (by omega)⟩
theorem sets_3 (ts ns : List ByteArray) (rs : List Rule) (A1 A2 A3 : Option Addr) (c1 c2 c3 : Nat) (w : World) (hg : RepG w ⟨ts,ns,rs⟩ A1 A2 A3 c1 c2 c3) (hgd : goodF ⟨ts,ns,rs⟩ = true) {n : Nat} (hn : nsym ⟨ts,ns,rs⟩ = n) :
    Calls Try.prog 31 #[.agg #[.slice A1 ts.length c1,.slice A2 ns.length c2,.slice A3 rs.length c3]] w fun e w' => SetsEnd w (setsF ⟨ts,ns,rs⟩) e w' ∧ Below w.heap.size w w':=sets_yes ⟨ts,ns,rs⟩ A1 A2 A3 c1 c2 c3 w hg hgd hn
theorem ll_far {W W' : World} {base b n c : Nat} {ok : Nat → Prop} {ad : Addr} {A1 : Option Addr} {c1 : Nat} {xs : List (List Int)} {x : List Bool} (h : kLL.R 46 W base ok (.slice (some ad) n c) xs) (hb : BB W b x) {i : Nat} (hi : i < xs.length) (hc : W.cell? (ad.add i) = some (.slice A1 xs[i].length c1)) (hu : Upd W W' b) :
    kInt.C W' A1 xs[i].length xs[i]:=by
  have hr:=R_upd h (by decide) hb hu
  obtain ⟨ad',A1',c1',e,h1,_,h3⟩:=at_row (Kd.R_reads' hr).2.2 i hi
  cases e
  obtain ⟨g',c',e,_,_,cells,hg⟩:=Kd.R_form h (by omega)
  injection e with e _ _
  injection e with e
  subst e
  have hne : g' ≠ b:=blk_ne hg hb (by decide)
  rw [add0_] at h1 hc
  have h2:=hu.cell hc (by exact hne)
  rw [h1] at h2
  injection h2 with h2
  injection h2 with h2 _ _
  rw [← h2]
  exact h3
theorem setsF_at {g : Gram} {k : Nat} (h : k < (setsF g).length) : (setsF g)[k]'h = membF (rowT (firstF g) (k : Int)):=by
  rw [setsF_len] at h
  rw [rowT_at (by rw [(firstF_sh g).1];exact h)]
  simp [setsF]
end Go.Proofs.Ytdpdbgaoaibafaa
