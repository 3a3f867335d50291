/- Contracts of functions of the program, and plain laws (texts U1, U2, U3, U4, U5, U6, U7, P12, V0), joined: each theorem says what it proves. -/
import Derived.Test.YtmkgcjhimajgiaaFB
import Derived.Conc.SmallLaws
import Derived.Test.YtmkgcjhimajgiaaFC
import Derived.Test.YtmkgcjhimajgiaaFA
import Derived.Test.YtmkgcjhimajgiaaFD
import Derived.Deep.Cut
import Derived.Test.YtmkgcjhimajgiaaFE
set_option linter.unusedVariables false
set_option linter.unusedSimpArgs false
namespace Go.Proofs.Ytmkgcjhimajgiaa
open Go.RowKit Go.Proofs.YtmkgcjhimajgiaaW.PrintWords

def BB (W : World) (b : Nat) (m : List Bool) : Prop:=W.heap[b]? = some (.cells (m.map Value.bool).toArray 4 (0,0))
section
variable {W W1 : World} {b : Nat} {m : List Bool}
theorem BB.cell (h : BB W b m) {i : Nat} (hi : i < m.length) : W.cell? ⟨b,i,none⟩ = some (.bool m[i]):=by
  refine (blk_cell h i).trans ?_
  simp [hi]
theorem BB.cell' (h : BB W b m) {i : Nat} {v : Bool} (hi : i < m.length) (hv : getB m (i : Int) = v) : W.cell? ⟨b,i,none⟩ = some (.bool v):=by
  rw [h.cell hi,← getB_at hi,hv]
theorem BB.set (h : BB W b m) (i : Nat) (v : Bool) : BB (W.setCell ⟨b,i,none⟩ (.bool v)) b (m.set i v):=by
  have:=blk_set h i (.bool v)
  unfold BB
  rw [this]
  simp [List.setIfInBounds_toArray,List.map_set]
theorem BB.fz (h : BB W b m) (i : Nat) : W.frozen? ⟨b,i,none⟩ = false:=blk_frozen h i
theorem BB.below (h : BB W b m) (hb : Below W.heap.size W W1) : BB W1 b m:=blk_below h hb
theorem BB.alloc (h : BB W b m) (o : Obj) : BB (W.alloc o) b m:=blk_alloc h o
theorem BB.new (W : World) (n : Nat) : BB (W.alloc (.cells (madeCells #[.bool false] n) 4)) W.heap.size (List.replicate n false):=by
  refine (blk_new W _).trans ?_
  rw [show madeCells #[.bool false] n = ((List.replicate n false).map Value.bool).toArray from ?_]
  refine Array.ext (by simp [madeCells]) (fun i h1 h2 => ?_)
  simp [madeCells,Nat.mod_one]
end

end Go.Proofs.Ytmkgcjhimajgiaa


set_option linter.unusedVariables false
set_option linter.unusedSimpArgs false
namespace Go.Proofs.Ytmkgcjhimajgiaa
open Go.RowKit Go.Proofs.YtmkgcjhimajgiaaW.PrintWords Go.Conc

def nsym (g : Gram) : Nat:=g.terms.length + g.names.length
def hornN (g : Gram) : Horn:=g.rules.map fun r => (r.right,r.left)
def noneI : Int → Prop:=fun _ => False
def nullF (g : Gram) : List Bool:=iter (roundF (hornN g)) (nsym g) (List.replicate (nsym g) false)
theorem goodF_mem {g : Gram} (h : goodF g = true) : ∀ r ∈ g.rules,(g.terms.length : Int) ≤ r.left ∧ r.left < (nsym g : Int) ∧ r.right.length ≤ 8 ∧ ∀ s ∈ r.right,0 ≤ s ∧ s < (nsym g : Int):=by
  unfold goodF ruledF at h
  simp only [Bool.and_eq_true] at h
  intro r hr
  have:=rulF_mem h.1.1.2.2 r hr
  exact ⟨by omega,by unfold nsym;omega,this.2.2.1,fun s hs => by have:=this.2.2.2 s hs;unfold nsym;omega⟩
theorem goodF_small {g : Gram} (h : goodF g = true) : g.terms.length ≤ 40 ∧ 1 ≤ g.names.length ∧ g.names.length ≤ 40 ∧ g.rules.length ≤ 60:=by
  unfold goodF ruledF at h
  simp only [Bool.and_eq_true,decide_eq_true_eq] at h
  have h1:=small_names h.1.1.1.1
  have h2:=small_terms h.1.1.1.2
  omega
def CH (W : World) (c cap k r : Nat) : Prop:=∃ buf s,W.heap[c]? = some (.chan cap buf false s r false) ∧ buf.size = k
def rcvd (W : World) (c : Nat) : Nat:=match W.heap[c]? with | some (.chan _ _ _ _ r _) => r | _ => 0
theorem heap_below {W W1 : World} {c : Nat} {o : Obj} (h : W.heap[c]? = some o) (hb : Below W.heap.size W W1) : W1.heap[c]? = some o:=by
  have hc : c < W.heap.size:=(Array.getElem?_eq_some_iff.1 h).1
  rw [hb.block c hc];exact h
theorem chan_far {W : World} {c c' cap : Nat} {buf : Array Value} {cl tm : Bool} {s r : Nat} {o : Obj} (h : W.heap[c']? = some o) (hc : c ≠ c') : (W.setChan c cap buf cl s r tm).heap[c']? = some o:=by
  rw [← h]
  simp [World.setChan,Array.getElem?_setIfInBounds_ne hc]
theorem blk_snd (w : World) (o o' : Obj) : ((w.alloc o).alloc o').heap[w.heap.size + 1]? = some o':=by
  have h:=blk_new (w.alloc o) o'
  rw [show (w.alloc o).heap.size = w.heap.size + 1 by simp] at h
  exact h
theorem mk_chan (n : Nat) (h : n ≤ 1000000) : ∀ W : World,(Instr.makeChan 114 (.int .i64 (n : Int))).run Try.prog W = .ok (.chan (some W.heap.size)) (W.alloc (.chan n #[] false 0 0 false)):=by
  intro W
  have h0 : (Try.prog.info? 3).map (·.bytes) = some 8:=by kernel_rfl
  obtain ⟨i,hi,hb⟩:=Option.map_eq_some_iff.1 h0
  exact run_makeChan (P:=Try.prog) (w:=W) Try.underlying114 hi .i64 n (by omega) (by rw [hb];omega)
end Go.Proofs.Ytmkgcjhimajgiaa


set_option linter.unusedVariables false
set_option linter.unusedSimpArgs false
namespace Go.Proofs.Ytmkgcjhimajgiaa
open Go.RowKit Go.Proofs.YtmkgcjhimajgiaaW.PrintWords Go.Conc

def OfNEnd (w : World) (m : List Bool) (e : Ending) (w' : World) : Prop:=∃ b,e = .returned (.slice (some ⟨b,0,none⟩) m.length m.length) ∧ BB w' b m ∧ w.heap.size ≤ b
/-- The state of nullable.Of: what is set,what lies in the channel,what was taken. -/
structure NS (w W : World) (b n : Nat) (g : Gram) (A1 A2 A3 : Option Addr) (c1 c2 c3 : Nat) (m : List Bool) (k r : Nat) : Prop where
  bb : BB W b m
  ch : CH W (b + 1) n k r
  box : W.heap[w.heap.size]? = some (.cells #[.slice A1 g.terms.length c1,.slice A2 g.names.length c2,.slice A3 g.rules.length c3] 25 (0,0))
  below : Below w.heap.size w W
  size : w.heap.size < b
  len : m.length = n
  cnt : k + r = cnt m
  sound : Sound (hornN g) noneI m
def NOut (w : World) (b n : Nat) (g : Gram) (A1 A2 A3 : Option Addr) (c1 c2 c3 : Nat) (a : Act) (W : World) : Prop :=
  ∃ u0 u5 u6 u7 u8 u9 u10 u11 u12 u13 u14 u15 u16 u17 u18 u19 u20 u21 u22 u23 u24 u25 u26 u27 u28 u29 u30 u31 u32 u33 u34 u35 u36 u37 u38 u39 u40 u41 u42 u43 u44 u45 u46 u47 u48 u49 u50 u51 u52 m k r,a = { tmps:=(List.toArray (u0 :: .pointer (some ⟨w.heap.size,0,none⟩) :: .slice none 0 0 :: .slice (some ⟨b,0,none⟩) n n :: .chan (some (b + 1)) :: u5 :: u6 :: u7 :: u8 :: u9 :: u10 :: u11 :: u12 :: u13 :: u14 :: u15 :: u16 :: u17 :: u18 :: u19 :: u20 :: u21 :: u22 :: u23 :: u24 :: u25 :: u26 :: u27 :: u28 :: u29 :: u30 :: u31 :: u32 :: u33 :: u34 :: u35 :: u36 :: u37 :: u38 :: u39 :: u40 :: u41 :: u42 :: u43 :: u44 :: u45 :: u46 :: u47 :: u48 :: u49 :: u50 :: u51 :: u52 :: [])),defers:=[] } ∧ NS w W b n g A1 A2 A3 c1 c2 c3 m k r
def NIn (w : World) (b n : Nat) (g : Gram) (A1 A2 A3 : Option Addr) (c1 c2 c3 : Nat) (m : List Bool) (r : Nat) (a : Act) (W : World) : Prop :=
  ∃ (u0 u5 u6 u7 u8 u9 u10 u11 u12 u13 u14 u15 u16 u17 u18 u19 u20 u21 u25 u26 u27 u28 u29 u30 u31 u32 u33 u34 u35 u36 u37 u38 u39 u40 u41 u42 u43 u44 u45 u46 u47 u48 u49 u50 u51 u52 : Value) (j k' : Nat),a = { tmps:=(List.toArray (u0 :: .pointer (some ⟨w.heap.size,0,none⟩) :: .slice none 0 0 :: .slice (some ⟨b,0,none⟩) n n :: .chan (some (b + 1)) :: u5 :: u6 :: u7 :: u8 :: u9 :: u10 :: u11 :: u12 :: u13 :: u14 :: u15 :: u16 :: u17 :: u18 :: u19 :: u20 :: u21 :: .slice A3 g.rules.length c3 :: .int .i64 g.rules.length :: .int .i64 j :: u25 :: u26 :: u27 :: u28 :: u29 :: u30 :: u31 :: u32 :: u33 :: u34 :: u35 :: u36 :: u37 :: u38 :: u39 :: u40 :: u41 :: u42 :: u43 :: u44 :: u45 :: u46 :: u47 :: u48 :: u49 :: u50 :: u51 :: u52 :: [])),defers:=[] } ∧ j ≤ g.rules.length ∧ NS w W b n g A1 A2 A3 c1 c2 c3 (roundF ((hornN g).take j) m) k' r
end Go.Proofs.Ytmkgcjhimajgiaa


set_option linter.unusedVariables false
set_option linter.unusedSimpArgs false
namespace Go.Proofs.Ytmkgcjhimajgiaa
open Go.RowKit Go.Proofs.YtmkgcjhimajgiaaW.PrintWords Go.Proofs.YtmkgcjhimajgiaaW.PrintLast

def allB (g : Gram) (l : List Int) : Bool:=goodF g && allF (nullF g) l
def ruleB (g : Gram) (i : Int) : Bool:=decide (0 ≤ i) && decide (i < g.rules.length) && allB g (g.rules.getD i.toNat default).right
def nullO (g : Gram) : List Bool:=if goodF g = true then nullF g else []
end Go.Proofs.Ytmkgcjhimajgiaa


set_option linter.unusedVariables false
set_option linter.unusedSimpArgs false
namespace Go.Proofs.Ytmkgcjhimajgiaa
open Go.RowKit Go.Proofs.YtmkgcjhimajgiaaW.PrintWords Go.Proofs.YtmkgcjhimajgiaaW.PrintLast

/-- A grammar's box,and a row of truth values behind it. -/
structure RS (w W : World) (b n : Nat) (g : Gram) (A1 A2 A3 : Option Addr) (c1 c2 c3 : Nat) (m : List Bool) : Prop where
  bb : BB W b m
  box : W.heap[w.heap.size]? = some (.cells #[.slice A1 g.terms.length c1,.slice A2 g.names.length c2,.slice A3 g.rules.length c3] 25 (0,0))
  below : Below w.heap.size w W
  size : w.heap.size < b
  len : m.length = n
end Go.Proofs.Ytmkgcjhimajgiaa


set_option linter.unusedVariables false
set_option linter.unusedSimpArgs false
namespace Go.Proofs.Ytmkgcjhimajgiaa
open Go.RowKit Go.Proofs.YtmkgcjhimajgiaaW.PrintWords Go.Proofs.YtmkgcjhimajgiaaW.PrintLast

theorem good1_v (g : Gram) (A1 A2 A3 : Option Addr) (c1 c2 c3 : Nat) (w : World) (hg : RepG w g A1 A2 A3 c1 c2 c3) (hz : Sized g) {v : Bool} (hv : goodF g = v) :
    Calls Try.prog 28 #[.agg #[.slice A1 g.terms.length c1,.slice A2 g.names.length c2,.slice A3 g.rules.length c3]] w fun e w' => e = .returned (.bool v) ∧ Below w.heap.size w w':=by
  subst hv;exact good1_c g A1 A2 A3 c1 c2 c3 w hg hz
def ruleR (g : Gram) (i : Int) : Bool:=goodF g && ruleB g i
end Go.Proofs.Ytmkgcjhimajgiaa


set_option linter.unusedVariables false
set_option linter.unusedSimpArgs false
namespace Go.Proofs.Ytmkgcjhimajgiaa
open Go.RowKit Go.Proofs.YtmkgcjhimajgiaaW.PrintWords Go.Proofs.YtmkgcjhimajgiaaW.PrintLast

theorem ints_C {W : World} {b : Nat} {xs : List Int} (h : W.heap[b]? = some (.cells (xs.map (Value.int .i64)).toArray 3 (0,0))) (hm : xs.length ≤ 9223372036854775807) : kInt.C W (some ⟨b,0,none⟩) xs.length xs:=by
  refine ⟨rfl,hm,fun _ => ⟨⟨b,0,none⟩,rfl,fun j p hj => ?_⟩⟩
  obtain ⟨hjl,rfl⟩:=List.getElem?_eq_some_iff.1 hj
  refine ⟨[.int .i64 xs[j]],rfl,rfl,fun i u hu => ?_⟩
  cases i with
  | zero =>
    cases hu
    have e : (⟨b,0,none⟩ : Addr).add (j * 1 + 0) = ⟨b,j,none⟩:=by
      unfold Addr.add
      simp
      intro hj0
      exact hj0.symm
    refine (congrArg W.cell? e).trans ((blk_cell h j).trans ?_)
    simp [hjl]
  | succ i => cases hu
theorem C_none {α : Type} (d : Kd α) (w : World) : d.C w none 0 []:=⟨rfl,by omega,fun h => by omega⟩
theorem of_ok {s : ByteArray} {g : Gram} (h : ofF s = .ok g) (w : World) : Calls Try.prog 43 #[.string s] w fun e w' => (∃ A1 A2 A3 c1 c2 c3,e = .returned (.tuple #[.agg #[.slice A1 g.terms.length c1,.slice A2 g.names.length c2,.slice A3 g.rules.length c3],.agg #[.int .i64 0,.int .i64 0]]) ∧ RepG w' g A1 A2 A3 c1 c2 c3) ∧ Below w.heap.size w w':=by
  refine (of_c s w).mono ?_
  rw [h]
  rintro e w1 ⟨he,hb1⟩
  exact ⟨he,hb1⟩
end Go.Proofs.Ytmkgcjhimajgiaa


set_option linter.unusedVariables false
set_option linter.unusedSimpArgs false
namespace Go.Proofs.Ytmkgcjhimajgiaa

def jacG (m : List Bool) : Horn → List Bool → List Bool
  | [],a => a
  | x :: R,a => jacG m R (if allF m x.1 = true then setB a x.2 else a)
def jac (R : Horn) (m : List Bool) : List Bool:=jacG m R m
end Go.Proofs.Ytmkgcjhimajgiaa


set_option linter.unusedVariables false
set_option linter.unusedSimpArgs false
namespace Go.Proofs.Ytmkgcjhimajgiaa
open Go.RowKit Go.Proofs.YtmkgcjhimajgiaaW.PrintWords Go.Proofs.YtmkgcjhimajgiaaW.PrintLast

/-- Either answer,good grammar or not. -/
def OfAny (w : World) (l : List Bool) (e : Ending) (w' : World) : Prop:=∃ A c,e = .returned (.slice A l.length c) ∧ Kd.bool.C w' A l.length l
end Go.Proofs.Ytmkgcjhimajgiaa

