/- Contracts of functions of the program, and plain laws (texts X4, P18, K1, P27, P28, P29, P30, P31, P32, N1, F7), joined: each theorem says what it proves. -/
import Derived.Test.YtmkgcjhimajgiaaFE
import Derived.Test.YtmkgcjhimajgiaaFN
import Derived.Test.YtmkgcjhimajgiaaFC
import Derived.Test.YtmkgcjhimajgiaaFA
import Derived.ChangeSame
import Derived.Deep.Strs
set_option linter.unusedVariables false
set_option linter.unusedSimpArgs false
namespace Go.Proofs.Ytmkgcjhimajgiaa
open Go.RowKit Go.Proofs.YtmkgcjhimajgiaaW.PrintWords Go.Proofs.YtmkgcjhimajgiaaW.PrintLast
theorem add0_ (q i : Nat) : (⟨q,0,none⟩ : Addr).add i = ⟨q,i,none⟩:=by
  unfold Addr.add
  simp
  intro h0
  exact h0.symm
/-- A row of one's own,written out: its block,what lies there. -/
def NB (W : World) (base g cap n : Nat) (xs : List Bool) : Prop:=kBool.R 4 W base (fun _ => True) (.slice (some ⟨g,0,none⟩) n cap) xs
section
variable {W W1 : World} {base g cap n : Nat} {xs : List Bool}
end
section
variable {ops : Array Oper} {rest : List Oper} {oi : Oper} {a : Act} {Q : Exit → Act → World → Prop} {w0 W : World} {N : Option Tmp} {s x : Operand} {A : Option Addr} {c : Nat}
end
end Go.Proofs.Ytmkgcjhimajgiaa


set_option linter.unusedVariables false
set_option linter.unusedSimpArgs false
namespace Go.Proofs.Ytmkgcjhimajgiaa

abbrev Tab:=List (List Bool)
def rowT (M : Tab) (s : Int) : List Bool:=if 0 ≤ s then M.getD s.toNat [] else []
def getT (M : Tab) (s t : Int) : Bool:=getB (rowT M s) t
/-- The shape of a table: so many rows,each so long. -/
def ShT (n m : Nat) (M : Tab) : Prop:=M.length = n ∧ ∀ r ∈ M,r.length = m
open Classical in
/-- The table of a relation. -/
noncomputable def tabOf (n m : Nat) (R : Int → Int → Prop) : Tab:=(List.range n).map fun (s : Nat) => (List.range m).map fun (t : Nat) => decide (R (s : Int) (t : Int))
/-- A row more: a or b. -/
def orF (a b : List Bool) : List Bool:=List.zipWith (· || ·) a b
def setRow (M : Tab) (s : Int) (r : List Bool) : Tab:=M.set s.toNat r
def cntT (M : Tab) : Nat:=(M.map cnt).sum
/-- Of symbols in a row those that may stand in front. -/
def heads (nu : List Bool) : List Int → List Int
  | [] => []
  | x :: l => x :: (if getB nu x = true then heads nu l else [])
def termJ (g : Gram) (s : Int) : Prop:=0 ≤ s ∧ s < (g.terms.length : Int)
inductive Fst (g : Gram) (nu : List Bool) : Int → Int → Prop
  | term {t : Int} : termJ g t → Fst g nu t t
  | step {r : Rule} {x t : Int} : r ∈ g.rules → x ∈ heads nu r.right → Fst g nu x t → Fst g nu r.left t
/-- The table of all symbols' terminals. -/
noncomputable def firstF (g : Gram) : Tab:=tabOf (nsym g) g.terms.length (Fst g (nullF g))
/-- A table that has the terminals,is closed,and holds nothing else. -/
structure IsFst (g : Gram) (M : Tab) : Prop where
  sh : ShT (nsym g) g.terms.length M
  sound : ∀ s t,getT M s t = true → Fst g (nullF g) s t
  init : ∀ t,termJ g t → getT M t t = true
  closed : ∀ r ∈ g.rules,∀ x ∈ heads (nullF g) r.right,∀ t,getT M x t = true → getT M r.left t = true
/-- With what symbols in a row begin,laid onto a row. -/
def seqF (M : Tab) (nu : List Bool) : List Int → List Bool → List Bool
  | [],o => o
  | x :: l,o => if getB nu x = true then seqF M nu l (orF o (rowT M x)) else orF o (rowT M x)
/-- A row's members,rising. -/
def membF (m : List Bool) : List Int:=((List.range m.length).filter fun (i : Nat) => getB m (i : Int)).map fun (i : Nat) => (i : Int)
def membN (m : List Bool) (k : Nat) : List Int:=((List.range k).filter fun (i : Nat) => getB m (i : Int)).map fun (i : Nat) => (i : Int)
noncomputable def setsF (g : Gram) : List (List Int):=(firstF g).map membF
noncomputable def beginsF (g : Gram) (l : List Int) : List Bool:=seqF (firstF g) (nullF g) l (List.replicate g.terms.length false)
end Go.Proofs.Ytmkgcjhimajgiaa


set_option linter.unusedVariables false
set_option linter.unusedSimpArgs false
namespace Go.Proofs.Ytmkgcjhimajgiaa
open Go.RowKit Go.Proofs.YtmkgcjhimajgiaaW.PrintWords Go.Proofs.YtmkgcjhimajgiaaW.PrintLast

structure Upd (W W' : World) (p : Nat) : Prop where
  below : Below p W W'
  far : ∀ k,k ≠ p → W'.heap[k]? = W.heap[k]?
structure TT (W : World) (lo g : Nat) (bs : List Nat) (m : Nat) (M : Tab) : Prop where
  cell : ∀ i (h : i < bs.length),W.cell? ⟨g,i,none⟩ = some (.slice (some ⟨bs[i],0,none⟩) m m)
  row : ∀ i (h : i < bs.length),BB W bs[i] (rowT M (i : Int))
  nodup : bs.Nodup
  out : g ∉ bs
  sh : ShT bs.length m M
  lo1 : lo ≤ g
  lo2 : ∀ b ∈ bs,lo ≤ b
section
variable {W W' : World} {lo g : Nat} {bs : List Nat} {m : Nat} {M : Tab}
end
def isTV : Value → Bool
  | .bool true => true
  | _ => false
def cntV (W : World) (b : Nat) : Nat:=match W.heap[b]? with | some (.cells cs _ _) => cs.toList.countP isTV | _ => 0
def cntVs (W : World) (bs : List Nat) : Nat:=(bs.map (cntV W)).sum
def moreN (x y : List Bool) (k : Nat) : Bool:=(List.range k).any fun (t : Nat) => getB y (t : Int) && !getB x (t : Int)
def moreF (x y : List Bool) : Bool:=moreN x y y.length
def orK (x y : List Bool) (k : Nat) : List Bool:=orF x ((y.take k) ++ List.replicate (y.length - k) false)
end Go.Proofs.Ytmkgcjhimajgiaa


set_option linter.unusedVariables false
set_option linter.unusedSimpArgs false
namespace Go.Proofs.Ytmkgcjhimajgiaa

/-- A symbol from i to j;a rule's first d symbols from i to j. -/
inductive Itm where
  | sym (s : Int) (i j : Nat)
  | part (r d i j : Nat)
def rightR (g : Gram) (r : Nat) : List Int:=(g.rules.getD r ⟨0,[]⟩).right
def leftR (g : Gram) (r : Nat) : Int:=(g.rules.getD r ⟨0,[]⟩).left
inductive Ch (g : Gram) (w : List Int) : Itm → Prop
  | tok {i : Nat} {x : Int} (hi : w[i]? = some x) (ht : termF g x = true) : Ch g w (.sym x i (i + 1))
  | beg {r i : Nat} (hr : r < g.rules.length) (hi : i ≤ w.length) : Ch g w (.part r 0 i i)
  | step {r d i k j : Nat} {x : Int} (hd : (rightR g r)[d]? = some x) (hp : Ch g w (.part r d i k)) (hs : Ch g w (.sym x k j)) : Ch g w (.part r (d + 1) i j)
  | done {r i j : Nat} (hp : Ch g w (.part r (rightR g r).length i j)) : Ch g w (.sym (leftR g r) i j)
/-- Symbols in a row,from i to j. -/
def Row (g : Gram) (w : List Int) : List Int → Nat → Nat → Prop
  | [],i,j => i = j
  | x :: l,i,j => ∃ k,Ch g w (.sym x i k) ∧ Row g w l k j
theorem Row.app {g : Gram} {w : List Int} : ∀ {l m : List Int} {i j : Nat},Row g w (l ++ m) i j ↔ ∃ k,Row g w l i k ∧ Row g w m k j
  | [],m,i,j => by simp [Row]
  | x :: l,m,i,j => by
    rw [List.cons_append]
    constructor
    · rintro ⟨k,h1,h2⟩
      obtain ⟨k2,h3,h4⟩:=Row.app.1 h2
      exact ⟨k2,⟨k,h1,h3⟩,h4⟩
    · rintro ⟨k2,⟨k,h1,h3⟩,h4⟩
      exact ⟨k,h1,Row.app.2 ⟨k2,h3,h4⟩⟩
def Itm.ok (n : Nat) : Itm → Prop
  | .sym _ i j => i ≤ j ∧ j ≤ n
  | .part _ _ i j => i ≤ j ∧ j ≤ n
theorem Ch.ok {g : Gram} {w : List Int} {t : Itm} (h : Ch g w t) : t.ok w.length:=by
  induction h with
  | tok hi _ =>
    obtain ⟨h1,_⟩:=List.getElem?_eq_some_iff.1 hi
    exact ⟨by omega,by omega⟩
  | beg _ hi => exact ⟨Nat.le_refl _,hi⟩
  | step _ _ _ h1 h2 => exact ⟨Nat.le_trans h1.1 h2.1,h2.2⟩
  | done _ h1 => exact h1
theorem take_snoc {l : List Int} {d : Nat} {x : Int} (h : l[d]? = some x) : l.take (d + 1) = l.take d ++ [x]:=by
  obtain ⟨h1,h2⟩:=List.getElem?_eq_some_iff.1 h
  rw [List.take_succ_eq_append_getElem h1,h2]
def Itm.says (g : Gram) (w : List Int) : Itm → Prop
  | .sym _ _ _ => True
  | .part r d i j => r < g.rules.length ∧ d ≤ (rightR g r).length ∧ i ≤ w.length ∧ Row g w ((rightR g r).take d) i j
theorem Ch.says {g : Gram} {w : List Int} {t : Itm} (h : Ch g w t) : t.says g w:=by
  induction h with
  | tok _ _ => trivial
  | beg hr hi => exact ⟨hr,Nat.zero_le _,hi,rfl⟩
  | step hd hp hs h1 _ =>
    obtain ⟨a,b,c,e⟩:=h1
    obtain ⟨h2,_⟩:=List.getElem?_eq_some_iff.1 hd
    refine ⟨a,h2,c,?_⟩
    rw [take_snoc hd]
    exact Row.app.2 ⟨_,e,_,hs,rfl⟩
  | done _ _ => trivial
theorem part_of_row {g : Gram} {w : List Int} {r i : Nat} (hr : r < g.rules.length) (hi : i ≤ w.length) : ∀ {d j : Nat},d ≤ (rightR g r).length → Row g w ((rightR g r).take d) i j → Ch g w (.part r d i j)
  | 0,j,_,h => by
    have : i = j:=h
    subst this
    exact .beg hr hi
  | d + 1,j,hd,h => by
    have hx : (rightR g r)[d]? = some ((rightR g r)[d]'hd):=List.getElem?_eq_getElem hd
    rw [take_snoc hx] at h
    obtain ⟨k,h1,k2,h2,h3⟩:=Row.app.1 h
    have : k2 = j:=h3
    subst this
    exact .step hx (part_of_row hr hi (by omega) h1) h2
theorem part_iff {g : Gram} {w : List Int} {r d i j : Nat} : Ch g w (.part r d i j) ↔ r < g.rules.length ∧ d ≤ (rightR g r).length ∧ i ≤ w.length ∧ Row g w ((rightR g r).take d) i j :=
  ⟨fun h => h.says,fun ⟨a,b,c,e⟩ => part_of_row a c b e⟩
theorem sym_iff {g : Gram} {w : List Int} {s : Int} {i j : Nat} : Ch g w (.sym s i j) ↔ (w[i]? = some s ∧ termF g s = true ∧ j = i + 1) ∨ ∃ r,r < g.rules.length ∧ leftR g r = s ∧ i ≤ w.length ∧ Row g w (rightR g r) i j:=by
  constructor
  · intro h
    cases h with
    | tok hi ht => exact .inl ⟨hi,ht,rfl⟩
    | @done r _ _ hp =>
      obtain ⟨a,_,c,e⟩:=part_iff.1 hp
      rw [List.take_length] at e
      exact .inr ⟨r,a,rfl,c,e⟩
  · rintro (⟨hi,ht,rfl⟩ | ⟨r,hr,rfl,hi,h⟩)
    · exact .tok hi ht
    · exact .done (part_iff.2 ⟨hr,Nat.le_refl _,hi,by rw [List.take_length];exact h⟩)
end Go.Proofs.Ytmkgcjhimajgiaa


set_option linter.unusedVariables false
set_option linter.unusedSimpArgs false
namespace Go.Proofs.Ytmkgcjhimajgiaa

/-- Symbols in a row,by any relation of spans. -/
def RowR (S : Int → Nat → Nat → Prop) : List Int → Nat → Nat → Prop
  | [],i,j => i = j
  | x :: l,i,j => ∃ k,S x i k ∧ RowR S l k j
/-- What a table of nonterminals' spans says of any symbol: a terminal spans its tokens. -/
def SymOf (g : Gram) (w : List Int) (H : Int → Nat → Nat → Prop) (s : Int) (i j : Nat) : Prop:=if termF g s = true then w[i]? = some s ∧ j = i + 1 else H s i j
structure IsCh (g : Gram) (w : List Int) (H : Int → Nat → Nat → Prop) : Prop where
  sound : ∀ s i j,H s i j → Ch g w (.sym s i j)
  closed : ∀ r,r < g.rules.length → ∀ i j,i ≤ w.length → RowR (SymOf g w H) (rightR g r) i j → H (leftR g r) i j
/-- What bears all steps of the chart bears all of it. -/
structure ClosedI (g : Gram) (w : List Int) (K : Itm → Prop) : Prop where
  tok : ∀ i x,w[i]? = some x → termF g x = true → K (.sym x i (i + 1))
  beg : ∀ r i,r < g.rules.length → i ≤ w.length → K (.part r 0 i i)
  step : ∀ r d i k j x,(rightR g r)[d]? = some x → K (.part r d i k) → K (.sym x k j) → K (.part r (d + 1) i j)
  done : ∀ r i j,K (.part r (rightR g r).length i j) → K (.sym (leftR g r) i j)
theorem ClosedI.all {g : Gram} {w : List Int} {K : Itm → Prop} (h : ClosedI g w K) {t : Itm} (d : Ch g w t) : K t:=by
  induction d with
  | tok hi ht => exact h.tok _ _ hi ht
  | beg hr hi => exact h.beg _ _ hr hi
  | step hd _ _ h1 h2 => exact h.step _ _ _ _ _ _ hd h1 h2
  | done _ h1 => exact h.done _ _ _ h1
end Go.Proofs.Ytmkgcjhimajgiaa


set_option linter.unusedVariables false
set_option linter.unusedSimpArgs false
namespace Go.Proofs.Ytmkgcjhimajgiaa

/-- A part that spans,as the program's queue holds it. -/
structure PN where
  r : Nat
  d : Nat
  i : Nat
  j : Nat
deriving DecidableEq,Inhabited
structure ChS where
  sy : List Bool
  pa : List Bool
  q : List PN
def atF (n row i j : Nat) : Nat:=(row * (n + 1) + i) * (n + 1) + j
def baseF (g : Gram) (r : Nat) : Nat:=((g.rules.take r).map fun x => x.right.length + 1).sum
def rowsF (g : Gram) : Nat:=baseF g g.rules.length
def ixP (g : Gram) (n : Nat) (p : PN) : Nat:=atF n (baseF g p.r + p.d) p.i p.j
def hasS (n : Nat) (s : ChS) (x : Int) (i j : Nat) : Bool:=s.sy.getD (atF n x.toNat i j) false
def hasP (g : Gram) (n : Nat) (s : ChS) (p : PN) : Bool:=s.pa.getD (ixP g n p) false
def partF (g : Gram) (n : Nat) (s : ChS) (p : PN) : ChS:=if hasP g n s p = true then s else { s with pa:=s.pa.set (ixP g n p) true,q:=s.q ++ [p] }
/-- One occurrence of a symbol that spans from I to J: a part that ends at I goes on. -/
def stepO (g : Gram) (n k dot I J : Nat) (s : ChS) (i : Nat) : ChS:=if hasP g n s ⟨k,dot,i,I⟩ = true then partF g n s ⟨k,dot + 1,i,J⟩ else s
def occF (g : Gram) (n : Nat) (x : Int) (I J k : Nat) (s : ChS) (dot : Nat) : ChS:=if (rightR g k).getD dot 0 = x then (List.range (I + 1)).foldl (stepO g n k dot I J) s else s
def ruleS (g : Gram) (n : Nat) (x : Int) (I J : Nat) (s : ChS) (k : Nat) : ChS:=(List.range (rightR g k).length).foldl (occF g n x I J k) s
def spanF (g : Gram) (n : Nat) (s : ChS) (x : Int) (I J : Nat) : ChS:=if hasS n s x I J = true then s else (List.range g.rules.length).foldl (ruleS g n x I J) { s with sy:=s.sy.set (atF n x.toNat I J) true }
def stepE (g : Gram) (n : Nat) (p : PN) (x : Int) (s : ChS) (j : Nat) : ChS:=if hasS n s x p.j j = true then partF g n s ⟨p.r,p.d + 1,p.i,j⟩ else s
def endsL (n j : Nat) : List Nat:=(List.range (n + 1 - j)).map (j + ·)
def followF (g : Gram) (n : Nat) (s : ChS) (p : PN) : ChS:=if p.d = (rightR g p.r).length then spanF g n s (leftR g p.r) p.i p.j else (endsL n p.j).foldl (stepE g n p ((rightR g p.r).getD p.d 0)) s

theorem pair_inj {m a a' j j' : Nat} (hj : j < m) (hj' : j' < m) (h : a * m + j = a' * m + j') : a = a' ∧ j = j':=by
  have e1 : (a * m + j) % m = j:=by rw [Nat.mul_comm,Nat.mul_add_mod,Nat.mod_eq_of_lt hj]
  have e2 : (a' * m + j') % m = j':=by rw [Nat.mul_comm,Nat.mul_add_mod,Nat.mod_eq_of_lt hj']
  have e3 : (a * m + j) / m = a:=by rw [Nat.mul_comm,Nat.mul_add_div (by omega),Nat.div_eq_of_lt hj];omega
  have e4 : (a' * m + j') / m = a':=by rw [Nat.mul_comm,Nat.mul_add_div (by omega),Nat.div_eq_of_lt hj'];omega
  exact ⟨by rw [← e3,← e4,h],by rw [← e1,← e2,h]⟩
theorem atF_inj {n row row' i i' j j' : Nat} (hi : i ≤ n) (hi' : i' ≤ n) (hj : j ≤ n) (hj' : j' ≤ n) (h : atF n row i j = atF n row' i' j') : row = row' ∧ i = i' ∧ j = j':=by
  obtain ⟨h1,h2⟩:=pair_inj (by omega) (by omega) h
  obtain ⟨h3,h4⟩:=pair_inj (by omega) (by omega) h1
  exact ⟨h3,h4,h2⟩
theorem atF_lt {n row i j m : Nat} (hr : row < m) (hi : i ≤ n) (hj : j ≤ n) : atF n row i j < m * ((n + 1) * (n + 1)):=by
  unfold atF
  have h1 : (row + 1) * (n + 1) ≤ m * (n + 1):=Nat.mul_le_mul_right _ hr
  have h2 : row * (n + 1) + i + 1 ≤ m * (n + 1):=by rw [Nat.add_mul] at h1;omega
  have h3 : (row * (n + 1) + i + 1) * (n + 1) ≤ m * (n + 1) * (n + 1):=Nat.mul_le_mul_right _ h2
  rw [Nat.add_mul] at h3
  rw [← Nat.mul_assoc]
  omega
theorem baseF_succ {g : Gram} {r : Nat} (h : r < g.rules.length) : baseF g (r + 1) = baseF g r + (rightR g r).length + 1:=by
  unfold baseF rightR
  rw [List.take_succ_eq_append_getElem h,List.map_append,List.sum_append,List.getD_eq_getElem?_getD,List.getElem?_eq_getElem h]
  simp;omega
theorem baseF_le {g : Gram} {r : Nat} : ∀ {k : Nat},r + k ≤ g.rules.length → baseF g r ≤ baseF g (r + k)
  | 0,_ => Nat.le_refl _
  | k + 1,h => by
    have h1:=baseF_le (g:=g) (r:=r) (k:=k) (by omega)
    have h2:=baseF_succ (g:=g) (r:=r + k) (by omega)
    rw [← Nat.add_assoc,h2]
    omega
theorem baseF_lt {g : Gram} {r r' d : Nat} (h : r < r') (h' : r' ≤ g.rules.length) (hd : d ≤ (rightR g r).length) : baseF g r + d < baseF g r':=by
  have h1:=baseF_succ (g:=g) (r:=r) (by omega)
  have h2:=baseF_le (g:=g) (r:=r + 1) (k:=r' - (r + 1)) (by omega)
  rw [show r + 1 + (r' - (r + 1)) = r' by omega] at h2
  omega
theorem rowsF_lt {g : Gram} {r d : Nat} (h : r < g.rules.length) (hd : d ≤ (rightR g r).length) : baseF g r + d < rowsF g:=baseF_lt h (Nat.le_refl _) hd
theorem baseF_inj {g : Gram} {r r' d d' : Nat} (h : r < g.rules.length) (h' : r' < g.rules.length) (hd : d ≤ (rightR g r).length) (hd' : d' ≤ (rightR g r').length) (he : baseF g r + d = baseF g r' + d') : r = r' ∧ d = d':=by
  rcases Nat.lt_trichotomy r r' with hlt | rfl | hlt
  · have:=baseF_lt hlt (by omega) hd;omega
  · exact ⟨rfl,by omega⟩
  · have:=baseF_lt hlt (by omega) hd';omega
theorem rowsF_max {g : Gram} (h8 : ∀ r ∈ g.rules,r.right.length ≤ 8) : ∀ r,r ≤ g.rules.length → baseF g r ≤ 9 * r
  | 0,_ => by simp [baseF]
  | r + 1,h => by
    have h1:=rowsF_max h8 r (by omega)
    have h2:=baseF_succ (g:=g) (r:=r) (by omega)
    have h3 : (rightR g r).length ≤ 8:=by
      unfold rightR
      rw [List.getD_eq_getElem?_getD,List.getElem?_eq_getElem (by omega)]
      exact h8 _ (List.getElem_mem _)
    omega

def PN.ok (g : Gram) (n : Nat) (p : PN) : Prop:=p.r < g.rules.length ∧ p.d ≤ (rightR g p.r).length ∧ p.i ≤ n ∧ p.j ≤ n
theorem ixP_inj {g : Gram} {n : Nat} {p p' : PN} (h : p.ok g n) (h' : p'.ok g n) (he : ixP g n p = ixP g n p') : p = p':=by
  obtain ⟨a,b,c,d⟩:=h
  obtain ⟨a',b',c',d'⟩:=h'
  obtain ⟨e1,e2,e3⟩:=atF_inj c c' d d' he
  obtain ⟨e4,e5⟩:=baseF_inj a a' b b' e1
  cases p;cases p';simp_all
theorem ixP_lt {g : Gram} {n : Nat} {p : PN} (h : p.ok g n) : ixP g n p < rowsF g * ((n + 1) * (n + 1)):=atF_lt (rowsF_lt h.1 h.2.1) h.2.2.1 h.2.2.2
theorem getD_set_true {m : List Bool} {a b : Nat} (ha : a < m.length) : (m.set a true).getD b false = (decide (b = a) || m.getD b false):=by
  rw [List.getD_eq_getElem?_getD,List.getD_eq_getElem?_getD,List.getElem?_set]
  by_cases h : a = b
  · subst h;simp [ha]
  · rw [if_neg h,decide_eq_false (fun e => h e.symm),Bool.false_or]

/-- The state's lists are as long as they should be;what waits may be. -/
structure Lens (g : Gram) (n : Nat) (s : ChS) : Prop where
  sy : s.sy.length = nsym g * ((n + 1) * (n + 1))
  pa : s.pa.length = rowsF g * ((n + 1) * (n + 1))
  q : ∀ p ∈ s.q,p.ok g n
/-- How a state goes on: nothing is lost,what is new of the parts waits. -/
structure Ext (g : Gram) (n : Nat) (s s' : ChS) : Prop where
  lens : Lens g n s → Lens g n s'
  sy : ∀ x i j,hasS n s x i j = true → hasS n s' x i j = true
  pa : ∀ p,hasP g n s p = true → hasP g n s' p = true
  q : ∀ p ∈ s.q,p ∈ s'.q
  new : Lens g n s → ∀ p,p.ok g n → hasP g n s' p = true → hasP g n s p = true ∨ p ∈ s'.q
  many : Lens g n s → cnt s.pa + s'.q.length = cnt s'.pa + s.q.length
  qn : Lens g n s → ∀ p ∈ s'.q,p ∈ s.q ∨ hasP g n s' p = true
theorem Ext.refl (g : Gram) (n : Nat) (s : ChS) : Ext g n s s:=⟨id,fun _ _ _ h => h,fun _ h => h,fun _ h => h,fun _ _ _ h => .inl h,fun _ => rfl,fun _ _ h => .inl h⟩
theorem Ext.trans {g : Gram} {n : Nat} {a b c : ChS} (h : Ext g n a b) (k : Ext g n b c) : Ext g n a c :=
  ⟨fun l => k.lens (h.lens l),fun x i j e => k.sy x i j (h.sy x i j e),fun p e => k.pa p (h.pa p e),fun p e => k.q p (h.q p e),
   fun l p hp e => (k.new (h.lens l) p hp e).elim (fun e => (h.new l p hp e).elim .inl (fun e => .inr (k.q p e))) .inr,
   fun l => by have:=h.many l;have:=k.many (h.lens l);omega,fun l p hp => (k.qn (h.lens l) p hp).elim (fun e => (h.qn l p e).imp id (k.pa p)) .inr⟩
theorem ext_part {g : Gram} {n : Nat} {s : ChS} {p : PN} (hp : p.ok g n) : Ext g n s (partF g n s p):=by
  unfold partF
  split
  · exact Ext.refl _ _ _
  · rename_i hno
    have hno' : hasP g n s p = false:=by simpa using hno
    refine ⟨fun l => ⟨l.sy,by simpa using l.pa,fun p' h => ?_⟩,fun _ _ _ h => h,fun p' h => ?_,fun p' h => List.mem_append_left _ h,fun l p' hp' h => ?_,fun l => ?_,fun l p' h => ?_⟩
    · rcases List.mem_append.1 h with h | h
      · exact l.q _ h
      · rw [List.mem_singleton.1 h];exact hp
    · unfold hasP at h ⊢
      simp only
      rw [List.getD_eq_getElem?_getD] at h ⊢
      rw [List.getElem?_set]
      split
      · split
        · rfl
        · rename_i h1 h2
          rw [← h1,List.getElem?_eq_none (by omega)] at h
          simp at h
      · exact h
    · unfold hasP at h
      simp only at h
      rw [getD_set_true (by rw [l.pa];exact ixP_lt hp),Bool.or_eq_true,decide_eq_true_eq] at h
      rcases h with h | h
      · exact .inr (List.mem_append_right _ (by rw [ixP_inj hp' hp h];exact List.mem_singleton.2 rfl))
      · exact .inl h
    · have hlt:=ixP_lt hp
      have h1:=cnt_set (m:=s.pa) (i:=(ixP g n p : Int)) (by omega) (by rw [l.pa];omega) (by rw [getB_nat];exact hno')
      unfold setB at h1
      rw [Int.toNat_natCast] at h1
      simp only [List.length_append,List.length_singleton]
      omega
    · rcases List.mem_append.1 h with h | h
      · exact .inl h
      · refine .inr ?_
        rw [List.mem_singleton.1 h]
        unfold hasP
        simp only
        rw [getD_set_true (by rw [l.pa];exact ixP_lt hp)]
        simp
theorem part_has {g : Gram} {n : Nat} {s : ChS} (l : Lens g n s) {p : PN} (hp : p.ok g n) : hasP g n (partF g n s p) p = true:=by
  unfold partF
  split
  · assumption
  · unfold hasP
    simp only
    rw [getD_set_true (by rw [l.pa];exact ixP_lt hp)]
    simp
theorem fold_ext {α : Type} {g : Gram} {n : Nat} (f : ChS → α → ChS) : ∀ (l : List α),(∀ s,∀ a ∈ l,Ext g n s (f s a)) → ∀ s,Ext g n s (l.foldl f s)
  | [],_,s => Ext.refl _ _ _
  | a :: l,h,s => (h s a (List.mem_cons_self ..)).trans (fold_ext f l (fun s b hb => h s b (List.mem_cons_of_mem _ hb)) _)
theorem fold_all {α : Type} {g : Gram} {n : Nat} (f : ChS → α → ChS) (P : α → ChS → Prop) (hP : ∀ a s s',Lens g n s → Ext g n s s' → P a s → P a s') : ∀ (l : List α),(∀ s,∀ a ∈ l,Ext g n s (f s a)) → (∀ s,Lens g n s → ∀ a ∈ l,P a (f s a)) → ∀ s,Lens g n s → ∀ a ∈ l,P a (l.foldl f s)
  | [],_,_,_,_,_,ha => by cases ha
  | b :: l,h,k,s,hs,a,ha => by
    have h1:=h s b (List.mem_cons_self ..)
    have h2 : ∀ s,∀ a ∈ l,Ext g n s (f s a):=fun s c hc => h s c (List.mem_cons_of_mem _ hc)
    rcases List.mem_cons.1 ha with rfl | ha
    · exact hP _ _ _ (h1.lens hs) (fold_ext f l h2 _) (k s hs _ (List.mem_cons_self ..))
    · exact fold_all f P hP l h2 (fun s l1 c hc => k s l1 c (List.mem_cons_of_mem _ hc)) _ (h1.lens hs) a ha
theorem fold_inv {α : Type} (f : ChS → α → ChS) (P : ChS → Prop) : ∀ (l : List α),(∀ s,∀ a ∈ l,P s → P (f s a)) → ∀ s,P s → P (l.foldl f s)
  | [],_,s,h => h
  | a :: l,h,s,hs => fold_inv f P l (fun s b hb => h s b (List.mem_cons_of_mem _ hb)) _ (h s a (List.mem_cons_self ..) hs)
end Go.Proofs.Ytmkgcjhimajgiaa


set_option linter.unusedVariables false
set_option linter.unusedSimpArgs false
namespace Go.Proofs.Ytmkgcjhimajgiaa

structure Snd (g : Gram) (w : List Int) (s : ChS) : Prop where
  sy : ∀ (x : Int) (i j : Nat),0 ≤ x → x < nsym g → i ≤ w.length → j ≤ w.length → hasS w.length s x i j = true → Ch g w (.sym x i j)
  pa : ∀ p : PN,p.ok g w.length → hasP g w.length s p = true → Ch g w (.part p.r p.d p.i p.j)
theorem hasP_part {g : Gram} {n : Nat} {s : ChS} (l : Lens g n s) {p p' : PN} (hp : p.ok g n) (hp' : p'.ok g n) (h : hasP g n (partF g n s p) p' = true) : hasP g n s p' = true ∨ p' = p:=by
  unfold partF at h
  split at h
  · exact .inl h
  · unfold hasP at h
    simp only at h
    rw [getD_set_true (by rw [l.pa];exact ixP_lt hp),Bool.or_eq_true,decide_eq_true_eq] at h
    exact h.elim (fun h => .inr (ixP_inj hp' hp h)) .inl
theorem sy_part {g : Gram} {n : Nat} {s : ChS} {p : PN} : (partF g n s p).sy = s.sy:=by unfold partF;split <;> rfl
theorem snd_part {g : Gram} {w : List Int} {s : ChS} (l : Lens g w.length s) (h : Snd g w s) {p : PN} (hp : p.ok g w.length) (hc : Ch g w (.part p.r p.d p.i p.j)) : Snd g w (partF g w.length s p) :=
  ⟨fun x i j a b c d e => h.sy x i j a b c d (by unfold hasS at e ⊢;rwa [sy_part] at e),fun p' hp' e => (hasP_part l hp hp' e).elim (h.pa p' hp') (fun e => by rw [e];exact hc)⟩
theorem rightR_at {g : Gram} {r : Nat} (hr : r < g.rules.length) : rightR g r = (g.rules[r]'hr).right:=by unfold rightR;rw [List.getD_eq_getElem?_getD,List.getElem?_eq_getElem hr];rfl
theorem leftR_eq {g : Gram} {r : Nat} (h : r < g.rules.length) : leftR g r = (g.rules[r]'h).left:=by unfold leftR;rw [List.getD_eq_getElem?_getD,List.getElem?_eq_getElem h];rfl
theorem right_mem {g : Gram} (hg : goodF g = true) {r : Nat} (hr : r < g.rules.length) {d : Nat} {x : Int} (h : (rightR g r)[d]? = some x) : 0 ≤ x ∧ x < nsym g:=by
  have h1:=(goodF_mem hg (g.rules[r]'hr) (List.getElem_mem _)).2.2.2 x
  have e : rightR g r = (g.rules[r]'hr).right:=by unfold rightR;rw [List.getD_eq_getElem?_getD,List.getElem?_eq_getElem hr];rfl
  rw [e] at h
  exact h1 (List.mem_of_getElem? h)
theorem left_in {g : Gram} (hg : goodF g = true) {r : Nat} (hr : r < g.rules.length) : (g.terms.length : Int) ≤ leftR g r ∧ leftR g r < nsym g:=by
  have h1:=goodF_mem hg (g.rules[r]'hr) (List.getElem_mem _)
  have e : leftR g r = (g.rules[r]'hr).left:=by unfold leftR;rw [List.getD_eq_getElem?_getD,List.getElem?_eq_getElem hr];rfl
  rw [e]
  exact ⟨h1.1,h1.2.1⟩

structure Both (g : Gram) (w : List Int) (s : ChS) : Prop where
  l : Lens g w.length s
  s : Snd g w s
theorem stepO_ok {g : Gram} {w : List Int} {k dot I J : Nat} (hk : k < g.rules.length) (hd : dot < (rightR g k).length) (hI : I ≤ w.length) (hJ : J ≤ w.length) (s : ChS) {i : Nat} (hi : i ≤ I) : Ext g w.length s (stepO g w.length k dot I J s i):=by
  unfold stepO
  split
  · exact ext_part ⟨hk,hd,Nat.le_trans hi hI,hJ⟩
  · exact Ext.refl _ _ _
theorem stepO_snd {g : Gram} {w : List Int} {k dot I J : Nat} {x : Int} (hk : k < g.rules.length) (hd : (rightR g k)[dot]? = some x) (hI : I ≤ w.length) (hJ : J ≤ w.length) (hx : Ch g w (.sym x I J)) (s : ChS) {i : Nat} (hi : i ≤ I) (h : Both g w s) : Both g w (stepO g w.length k dot I J s i):=by
  obtain ⟨hd1,_⟩:=List.getElem?_eq_some_iff.1 hd
  refine ⟨(stepO_ok hk hd1 hI hJ s hi).lens h.l,?_⟩
  unfold stepO
  split
  · rename_i hc
    exact snd_part h.l h.s ⟨hk,hd1,Nat.le_trans hi hI,hJ⟩ (.step hd (h.s.pa ⟨k,dot,i,I⟩ ⟨hk,Nat.le_of_lt hd1,Nat.le_trans hi hI,hI⟩ hc) hx)
  · exact h.s
theorem sy_fold {α : Type} (f : ChS → α → ChS) (h : ∀ s a,(f s a).sy = s.sy) : ∀ (l : List α) (s : ChS),(l.foldl f s).sy = s.sy
  | [],_ => rfl
  | a :: l,s => (sy_fold f h l (f s a)).trans (h s a)
theorem sy_stepO {g : Gram} {n k dot I J : Nat} (s : ChS) (i : Nat) : (stepO g n k dot I J s i).sy = s.sy:=by unfold stepO;split;exact sy_part;rfl
theorem sy_occ {g : Gram} {n : Nat} {x : Int} {I J k : Nat} (s : ChS) (dot : Nat) : (occF g n x I J k s dot).sy = s.sy:=by unfold occF;split;exact sy_fold _ sy_stepO _ _;rfl
theorem sy_rule {g : Gram} {n : Nat} {x : Int} {I J : Nat} (s : ChS) (k : Nat) : (ruleS g n x I J s k).sy = s.sy:=sy_fold _ sy_occ _ _
theorem sy_stepE {g : Gram} {n : Nat} {p : PN} {x : Int} (s : ChS) (j : Nat) : (stepE g n p x s j).sy = s.sy:=by unfold stepE;split;exact sy_part;rfl
theorem right_get {g : Gram} {k d : Nat} (h : d < (rightR g k).length) : (rightR g k)[d]? = some ((rightR g k).getD d 0):=by
  rw [List.getD_eq_getElem?_getD,List.getElem?_eq_getElem h];rfl
section
variable {g : Gram} {w : List Int} {I J : Nat} {x : Int}
theorem occ_ext {k dot : Nat} (hk : k < g.rules.length) (hd : dot < (rightR g k).length) (hI : I ≤ w.length) (hJ : J ≤ w.length) (s : ChS) : Ext g w.length s (occF g w.length x I J k s dot):=by
  unfold occF
  split
  · exact fold_ext _ _ (fun s i hi => stepO_ok hk hd hI hJ s (by have:=List.mem_range.1 hi;omega)) _
  · exact Ext.refl _ _ _
theorem rule_ext {k : Nat} (hk : k < g.rules.length) (hI : I ≤ w.length) (hJ : J ≤ w.length) (s : ChS) : Ext g w.length s (ruleS g w.length x I J s k) :=
  fold_ext _ _ (fun s d hd => occ_ext hk (List.mem_range.1 hd) hI hJ s) _
theorem occ_snd {k dot : Nat} (hk : k < g.rules.length) (hd : dot < (rightR g k).length) (hI : I ≤ w.length) (hJ : J ≤ w.length) (hx : Ch g w (.sym x I J)) (s : ChS) (h : Both g w s) : Both g w (occF g w.length x I J k s dot):=by
  unfold occF
  split
  · rename_i he
    exact fold_inv _ (Both g w) _ (fun s i hi h => stepO_snd hk (by rw [right_get hd,he]) hI hJ hx s (by have:=List.mem_range.1 hi;omega) h) _ h
  · exact h
theorem rule_snd {k : Nat} (hk : k < g.rules.length) (hI : I ≤ w.length) (hJ : J ≤ w.length) (hx : Ch g w (.sym x I J)) (s : ChS) (h : Both g w s) : Both g w (ruleS g w.length x I J s k) :=
  fold_inv _ (Both g w) _ (fun s d hd h => occ_snd hk (List.mem_range.1 hd) hI hJ hx s h) _ h
/-- A part that ends where the symbol begins has gone on. -/
def Gone (g : Gram) (n : Nat) (I J : Nat) (p : Nat × Nat × Nat) (s : ChS) : Prop:=hasP g n s ⟨p.1,p.2.1,p.2.2,I⟩ = true → hasP g n s ⟨p.1,p.2.1 + 1,p.2.2,J⟩ = true ∨ (⟨p.1,p.2.1,p.2.2,I⟩ : PN) ∈ s.q
theorem gone_ext {n : Nat} {p : Nat × Nat × Nat} (hp : PN.ok g n ⟨p.1,p.2.1,p.2.2,I⟩) {s s' : ChS} (l : Lens g n s) (e : Ext g n s s') (h : Gone g n I J p s) : Gone g n I J p s':=fun h1 =>
  (e.new l _ hp h1).elim (fun h2 => (h h2).elim (fun h3 => .inl (e.pa _ h3)) (fun h3 => .inr (e.q _ h3))) .inr
theorem occ_gone {k dot : Nat} (hk : k < g.rules.length) (hd : dot < (rightR g k).length) (hI : I ≤ w.length) (hJ : J ≤ w.length) (he : (rightR g k).getD dot 0 = x) (s : ChS) (l : Lens g w.length s) : ∀ i,i ≤ I → Gone g w.length I J (k,dot,i) (occF g w.length x I J k s dot):=by
  intro i hi
  unfold occF
  rw [if_pos he]
  have hok : ∀ i,i ≤ I → PN.ok g w.length ⟨k,dot,i,I⟩:=fun i hi => ⟨hk,Nat.le_of_lt hd,Nat.le_trans hi hI,hI⟩
  refine fold_all (stepO g w.length k dot I J) (fun i s => i ≤ I → Gone g w.length I J (k,dot,i) s) (fun a s s' l e h ha => gone_ext (hok a ha) l e (h ha)) _ (fun s i hi => stepO_ok hk hd hI hJ s (by have:=List.mem_range.1 hi;omega)) (fun s l a ha hle h => ?_) s l i (List.mem_range.2 (by omega)) hi
  unfold stepO at h ⊢
  split at h
  · rename_i hc
    rw [if_pos hc]
    exact .inl (part_has l ⟨hk,hd,Nat.le_trans hle hI,hJ⟩)
  · rename_i hc
    exact absurd h hc
theorem rules_gone (hI : I ≤ w.length) (hJ : J ≤ w.length) (s : ChS) (l : Lens g w.length s) {k dot i : Nat} (hk : k < g.rules.length) (hd : (rightR g k)[dot]? = some x) (hi : i ≤ I) : Gone g w.length I J (k,dot,i) ((List.range g.rules.length).foldl (ruleS g w.length x I J) s):=by
  obtain ⟨hd1,_⟩:=List.getElem?_eq_some_iff.1 hd
  have hok : ∀ {k dot i : Nat},k < g.rules.length → dot < (rightR g k).length → i ≤ I → PN.ok g w.length ⟨k,dot,i,I⟩:=fun a b c => ⟨a,Nat.le_of_lt b,Nat.le_trans c hI,hI⟩
  have hx : ∀ {k dot : Nat},(rightR g k)[dot]? = some x → (rightR g k).getD dot 0 = x:=fun h => by rw [List.getD_eq_getElem?_getD,h];rfl
  refine fold_all (ruleS g w.length x I J) (fun k s => k < g.rules.length → ∀ dot i,(rightR g k)[dot]? = some x → i ≤ I → Gone g w.length I J (k,dot,i) s) (fun a s s' l e h ha d i hd hi => gone_ext (hok ha (List.getElem?_eq_some_iff.1 hd).1 hi) l e (h ha d i hd hi)) _ (fun s k hk => rule_ext (List.mem_range.1 hk) hI hJ s) (fun s l a _ ha d i hd hi => ?_) s l k (List.mem_range.2 hk) hk dot i hd hi
  obtain ⟨hd2,_⟩:=List.getElem?_eq_some_iff.1 hd
  exact fold_all (occF g w.length x I J a) (fun d s => (rightR g a)[d]? = some x → ∀ i,i ≤ I → Gone g w.length I J (a,d,i) s) (fun d s s' l e h hd i hi => gone_ext (hok ha (List.getElem?_eq_some_iff.1 hd).1 hi) l e (h hd i hi)) _ (fun s d hd => occ_ext ha (List.mem_range.1 hd) hI hJ s) (fun s l d hdm hd i hi => occ_gone ha (List.mem_range.1 hdm) hI hJ (hx hd) s l i hi) s l d (List.mem_range.2 hd2) hd i hi
end
/-- A part that has been gone on from,or waits. -/
structure Cl (g : Gram) (n : Nat) (s : ChS) (p : PN) : Prop where
  whole : p.d = (rightR g p.r).length → hasP g n s p = true → hasS n s (leftR g p.r) p.i p.j = true ∨ p ∈ s.q
  next : ∀ x j,(rightR g p.r)[p.d]? = some x → j ≤ n → hasP g n s p = true → hasS n s x p.j j = true → hasP g n s ⟨p.r,p.d + 1,p.i,j⟩ = true ∨ p ∈ s.q
structure InvC (g : Gram) (w : List Int) (s : ChS) : Prop where
  l : Lens g w.length s
  snd : Snd g w s
  tok : ∀ i x,w[i]? = some x → termF g x = true → hasS w.length s x i (i + 1) = true
  beg : ∀ r i,r < g.rules.length → i ≤ w.length → hasP g w.length s ⟨r,0,i,i⟩ = true
  cl : ∀ p : PN,p.ok g w.length → Cl g w.length s p
section
variable {g : Gram} {w : List Int}
theorem follow_inv (hg : goodF g = true) {s : ChS} {q : List PN} {p : PN} (hq : s.q = q ++ [p]) (hpa : hasP g w.length s p = true) (h : InvC g w s) :
    InvC g w (followF g w.length { s with q:=q } p) ∧ Ext g w.length { s with q:=q } (followF g w.length { s with q:=q } p):=by
  have hp : p.ok g w.length:=h.l.q p (by rw [hq];exact List.mem_append_right _ (List.mem_singleton.2 rfl))
  obtain ⟨s1,hs1⟩ : ∃ s1 : ChS,s1 = { s with q:=q }:=⟨_,rfl⟩
  rw [← hs1]
  have e1 : s1.sy = s.sy:=by rw [hs1]
  have e2 : s1.pa = s.pa:=by rw [hs1]
  have e3 : s1.q = q:=by rw [hs1]
  have hS : ∀ x i j,hasS w.length s1 x i j = hasS w.length s x i j:=fun x i j => by unfold hasS;rw [e1]
  have hP : ∀ p,hasP g w.length s1 p = hasP g w.length s p:=fun p => by unfold hasP;rw [e2]
  have l1 : Lens g w.length s1:=⟨by rw [e1];exact h.l.sy,by rw [e2];exact h.l.pa,fun p' hp' => h.l.q p' (by rw [hq];rw [e3] at hp';exact List.mem_append_left _ hp')⟩
  have d1 : Snd g w s1:=⟨fun x i j a b c d e => h.snd.sy x i j a b c d (by rw [← hS];exact e),fun p hp e => h.snd.pa p hp (by rw [← hP];exact e)⟩
  have hcp:=h.snd.pa p hp hpa
  have c1 : ∀ p' : PN,p'.ok g w.length → p' ≠ p → Cl g w.length s1 p':=fun p' hp' hne => by
    have hin : p' ∈ s.q → p' ∈ s1.q:=fun hm => by
      rw [hq] at hm
      rw [e3]
      rcases List.mem_append.1 hm with hm | hm
      · exact hm
      · exact absurd (List.mem_singleton.1 hm) hne
    exact ⟨fun a b => ((h.cl p' hp').whole a (by rw [← hP];exact b)).elim (fun e => .inl (by rw [hS];exact e)) (fun e => .inr (hin e)),
      fun x j a b c d => ((h.cl p' hp').next x j a b (by rw [← hP];exact c) (by rw [← hS];exact d)).elim (fun e => .inl (by rw [hP];exact e)) (fun e => .inr (hin e))⟩
  have t1 : ∀ s',Ext g w.length s1 s' → (∀ i x,w[i]? = some x → termF g x = true → hasS w.length s' x i (i + 1) = true) ∧ ∀ r i,r < g.rules.length → i ≤ w.length → hasP g w.length s' ⟨r,0,i,i⟩ = true:=fun s' e =>
    ⟨fun i x a b => e.sy _ _ _ (by rw [hS];exact h.tok i x a b),fun r i a b => e.pa _ (by rw [hP];exact h.beg r i a b)⟩
  clear hs1
  obtain ⟨hr,hd,hi,hj⟩:=hp
  unfold followF
  by_cases hlen : p.d = (rightR g p.r).length
  · rw [if_pos hlen]
    have hno : ∀ y,(rightR g p.r)[p.d]? ≠ some y:=fun y hy => by obtain ⟨h1,_⟩:=List.getElem?_eq_some_iff.1 hy;omega
    obtain ⟨hl0,hl1⟩:=left_in hg hr
    have hx : Ch g w (.sym (leftR g p.r) p.i p.j):=.done (by rw [← hlen];exact hcp)
    unfold spanF
    by_cases hin : hasS w.length s1 (leftR g p.r) p.i p.j = true
    · rw [if_pos hin]
      refine ⟨⟨l1,d1,(t1 _ (Ext.refl _ _ _)).1,(t1 _ (Ext.refl _ _ _)).2,fun p' hp' => ?_⟩,Ext.refl _ _ _⟩
      by_cases hne : p' = p
      · rw [hne]
        exact ⟨fun _ _ => .inl hin,fun y j a => absurd a (hno y)⟩
      · exact c1 p' hp' hne
    · rw [if_neg hin]
      obtain ⟨s2,hs2⟩ : ∃ s2 : ChS,s2 = { s1 with sy:=s1.sy.set (atF w.length (leftR g p.r).toNat p.i p.j) true }:=⟨_,rfl⟩
      rw [← hs2]
      have hlt : atF w.length (leftR g p.r).toNat p.i p.j < s1.sy.length:=by rw [l1.sy];exact atF_lt (by omega) hi hj
      have g1 : ∀ x i j,hasS w.length s2 x i j = (decide (atF w.length x.toNat i j = atF w.length (leftR g p.r).toNat p.i p.j) || hasS w.length s1 x i j):=fun x i j => by rw [hs2];unfold hasS;simp only;rw [getD_set_true hlt]
      have g2 : ∀ p,hasP g w.length s2 p = hasP g w.length s1 p:=fun p => by rw [hs2];rfl
      have g3 : s2.q = s1.q:=by rw [hs2]
      have E1 : Ext g w.length s1 s2:=⟨fun l => ⟨by rw [hs2];simpa using l.sy,by rw [hs2];exact l.pa,by rw [g3];exact l.q⟩,fun x i j e => by rw [g1,e];simp,fun p e => by rw [g2];exact e,fun p e => by rw [g3];exact e,fun _ p _ e => .inl (by rw [← g2];exact e),fun _ => by rw [g3,hs2],fun _ p e => .inl (by rw [g3] at e;exact e)⟩
      have l2:=E1.lens l1
      have E2 : Ext g w.length s2 ((List.range g.rules.length).foldl (ruleS g w.length (leftR g p.r) p.i p.j) s2):=fold_ext _ _ (fun s k hk => rule_ext (List.mem_range.1 hk) hi hj s) _
      have d2 : Snd g w s2:=⟨fun x i j a b c d e => by
        rw [g1,Bool.or_eq_true,decide_eq_true_eq] at e
        rcases e with e | e
        · obtain ⟨f1,f2,f3⟩:=atF_inj c hi d hj e
          have : x = leftR g p.r:=by omega
          rw [this,f2,f3];exact hx
        · exact d1.sy x i j a b c d e,fun p' hp' e => d1.pa p' hp' (by rw [← g2];exact e)⟩
      have d3 : Both g w ((List.range g.rules.length).foldl (ruleS g w.length (leftR g p.r) p.i p.j) s2):=fold_inv _ (Both g w) _ (fun s k hk h => rule_snd (List.mem_range.1 hk) hi hj hx s h) _ ⟨l2,d2⟩
      have hgone : ∀ {k dot i : Nat},k < g.rules.length → (rightR g k)[dot]? = some (leftR g p.r) → i ≤ p.i → Gone g w.length p.i p.j (k,dot,i) ((List.range g.rules.length).foldl (ruleS g w.length (leftR g p.r) p.i p.j) s2):=fun a b c => rules_gone hi hj s2 l2 a b c
      have hsy : ((List.range g.rules.length).foldl (ruleS g w.length (leftR g p.r) p.i p.j) s2).sy = s2.sy:=sy_fold _ sy_rule _ _
      obtain ⟨s3,hs3⟩ : ∃ s3,s3 = (List.range g.rules.length).foldl (ruleS g w.length (leftR g p.r) p.i p.j) s2:=⟨_,rfl⟩
      rw [← hs3] at E2 d3 hgone hsy ⊢
      have E:=E1.trans E2
      have g4 : ∀ x i j,hasS w.length s3 x i j = hasS w.length s2 x i j:=fun x i j => by unfold hasS;rw [hsy]
      refine ⟨⟨d3.l,d3.s,(t1 _ E).1,(t1 _ E).2,fun p' hp' => ⟨fun a b => ?_,fun x' j a b c d => ?_⟩⟩,E⟩
      · rcases E.new l1 p' hp' b with b | b
        · by_cases hne : p' = p
          · rw [hne]
            exact .inl (by rw [g4,g1];simp)
          · exact ((c1 p' hp' hne).whole a b).elim (fun e => .inl (E.sy _ _ _ e)) (fun e => .inr (E.q _ e))
        · exact .inr b
      · have hxin:=right_mem hg hp'.1 a
        rw [g4,g1,Bool.or_eq_true,decide_eq_true_eq] at d
        rcases d with d | d
        · obtain ⟨f1,f2,f3⟩:=atF_inj hp'.2.2.2 hi b hj d
          have hxe : x' = leftR g p.r:=by omega
          have hle : p'.i ≤ p'.j:=(d3.s.pa p' hp' c).ok.1
          rw [hxe] at a
          have:=hgone (k:=p'.r) (dot:=p'.d) (i:=p'.i) hp'.1 a (by omega)
          unfold Gone at this
          rw [f3]
          have hpe : (⟨p'.r,p'.d,p'.i,p.i⟩ : PN) = p':=by rw [← f2]
          simp only [hpe] at this
          exact this c
        · rcases E.new l1 p' hp' c with c | c
          · exact ((c1 p' hp' (fun e => hno x' (by rw [← e];exact a))).next x' j a b c d).elim (fun e => .inl (E.pa _ e)) (fun e => .inr (E.q _ e))
          · exact .inr c
  · rw [if_neg hlen]
    have hd1 : p.d < (rightR g p.r).length:=by omega
    have hxr:=right_get hd1
    obtain ⟨x,hx⟩ : ∃ x,x = (rightR g p.r).getD p.d 0:=⟨_,rfl⟩
    rw [← hx] at hxr ⊢
    have hxin:=right_mem hg hr hxr
    have hend : ∀ j ∈ endsL w.length p.j,p.j ≤ j ∧ j ≤ w.length:=fun j hm => by
      unfold endsL at hm
      obtain ⟨a,ha,rfl⟩:=List.mem_map.1 hm
      have:=List.mem_range.1 ha
      omega
    obtain ⟨f,hf⟩ : ∃ f : ChS → Nat → ChS,f = fun s j => if hasS w.length s1 x p.j j = true then partF g w.length s ⟨p.r,p.d + 1,p.i,j⟩ else s:=⟨_,rfl⟩
    have hfold : ∀ (l : List Nat) (s : ChS),s.sy = s1.sy → l.foldl (stepE g w.length p x) s = l.foldl f s:=by
      intro l
      induction l with
      | nil => intros;rfl
      | cons a l ih =>
        intro s hs
        have h1 : stepE g w.length p x s a = f s a:=by rw [hf];unfold stepE hasS;simp only;rw [hs]
        rw [List.foldl_cons,List.foldl_cons,ih _ (by rw [sy_stepE];exact hs),h1]
    rw [hfold _ s1 rfl]
    have ex1 : ∀ s,∀ j ∈ endsL w.length p.j,Ext g w.length s (f s j):=fun s j hm => by
      rw [hf]
      simp only
      split
      · exact ext_part ⟨hr,hd1,hi,(hend j hm).2⟩
      · exact Ext.refl _ _ _
    have E:=fold_ext f _ ex1 s1
    have hsy : ((endsL w.length p.j).foldl f s1).sy = s1.sy:=sy_fold _ (fun s a => by rw [hf];simp only;split;exact sy_part;rfl) _ _
    have d3 : Both g w ((endsL w.length p.j).foldl f s1):=fold_inv f (Both g w) _ (fun s j hm hs => ⟨(ex1 s j hm).lens hs.l,by
      rw [hf]
      simp only
      split
      · rename_i hc
        exact snd_part hs.l hs.s ⟨hr,hd1,hi,(hend j hm).2⟩ (.step hxr hcp (d1.sy x p.j j hxin.1 hxin.2 hj (hend j hm).2 hc))
      · exact hs.s⟩) _ ⟨l1,d1⟩
    have hall:=fold_all f (fun j s => j ≤ w.length → hasS w.length s1 x p.j j = true → hasP g w.length s ⟨p.r,p.d + 1,p.i,j⟩ = true) (fun a s s' l e h ha hh => e.pa _ (h ha hh)) (endsL w.length p.j) ex1 (fun s l a ha hle hh => by
        rw [hf]
        simp only
        rw [if_pos hh]
        exact part_has l ⟨hr,hd1,hi,hle⟩) s1 l1
    obtain ⟨s3,hs3⟩ : ∃ s3,s3 = (endsL w.length p.j).foldl f s1:=⟨_,rfl⟩
    rw [← hs3] at E hsy d3 hall ⊢
    have g4 : ∀ x i j,hasS w.length s3 x i j = hasS w.length s1 x i j:=fun x i j => by unfold hasS;rw [hsy]
    refine ⟨⟨d3.l,d3.s,(t1 _ E).1,(t1 _ E).2,fun p' hp' => ⟨fun a b => ?_,fun x' j a b c d => ?_⟩⟩,E⟩
    · rcases E.new l1 p' hp' b with b | b
      · exact ((c1 p' hp' (fun e => hlen (by rw [← e];exact a))).whole a b).elim (fun e => .inl (E.sy _ _ _ e)) (fun e => .inr (E.q _ e))
      · exact .inr b
    · rw [g4] at d
      rcases E.new l1 p' hp' c with c | c
      · by_cases hne : p' = p
        · subst hne
          have hxe : x' = x:=by rw [hxr] at a;exact (Option.some.inj a).symm
          rw [hxe] at d
          have hle : p'.j ≤ j:=(d1.sy x p'.j j hxin.1 hxin.2 hj b d).ok.1
          refine .inl (hall j ?_ b d)
          unfold endsL
          exact List.mem_map.2 ⟨j - p'.j,List.mem_range.2 (by omega),by omega⟩
        · exact ((c1 p' hp' hne).next x' j a b c d).elim (fun e => .inl (E.pa _ e)) (fun e => .inr (E.q _ e))
      · exact .inr c
/-- When nothing waits the tables are the chart. -/
structure IsTab (g : Gram) (w : List Int) (sy pa : List Bool) : Prop where
  ls : sy.length = nsym g * ((w.length + 1) * (w.length + 1))
  lp : pa.length = rowsF g * ((w.length + 1) * (w.length + 1))
  sy : ∀ (x : Int) (i j : Nat),0 ≤ x → x < nsym g → i ≤ w.length → j ≤ w.length → (sy.getD (atF w.length x.toNat i j) false = true ↔ Ch g w (.sym x i j))
  pa : ∀ p : PN,p.ok g w.length → (pa.getD (ixP g w.length p) false = true ↔ Ch g w (.part p.r p.d p.i p.j))
theorem term_sym {g : Gram} {x : Int} (h : termF g x = true) : 0 ≤ x ∧ x < nsym g:=by
  unfold termF at h
  simp only [Bool.and_eq_true,decide_eq_true_eq] at h
  unfold nsym
  omega
theorem InvC.is (hg : goodF g = true) {s : ChS} (hq : s.q = []) (h : InvC g w s) : IsTab g w s.sy s.pa:=by
  have hK : ClosedI g w (fun t => match t with
      | .sym x i j => 0 ≤ x ∧ x < nsym g ∧ i ≤ w.length ∧ j ≤ w.length ∧ hasS w.length s x i j = true
      | .part r d i j => PN.ok g w.length ⟨r,d,i,j⟩ ∧ hasP g w.length s ⟨r,d,i,j⟩ = true):=by
    refine ⟨fun i x hi ht => ?_,fun r i hr hi => ⟨⟨hr,Nat.zero_le _,hi,hi⟩,h.beg r i hr hi⟩,fun r d i k j x hd hp hs => ?_,fun r i j hp => ?_⟩
    · obtain ⟨h1,h2⟩:=term_sym ht
      obtain ⟨h3,_⟩:=List.getElem?_eq_some_iff.1 hi
      exact ⟨h1,h2,by omega,by omega,h.tok i x hi ht⟩
    · obtain ⟨hd1,_⟩:=List.getElem?_eq_some_iff.1 hd
      obtain ⟨h1,h2⟩:=hp
      obtain ⟨h3,h4,h5,h6,h7⟩:=hs
      refine ⟨⟨h1.1,hd1,h1.2.2.1,h6⟩,((h.cl _ h1).next x j hd h6 h2 h7).elim id (fun e => ?_)⟩
      rw [hq] at e;cases e
    · obtain ⟨h1,h2⟩:=hp
      obtain ⟨h3,h4⟩:=left_in hg h1.1
      refine ⟨by simp only at *;omega,h4,h1.2.2.1,h1.2.2.2,((h.cl _ h1).whole rfl h2).elim id (fun e => ?_)⟩
      rw [hq] at e;cases e
  exact ⟨h.l.sy,h.l.pa,fun x i j a b c d => ⟨h.snd.sy x i j a b c d,fun e => (hK.all e).2.2.2.2⟩,fun p hp => ⟨h.snd.pa p hp,fun e => (hK.all e).2⟩⟩
end
end Go.Proofs.Ytmkgcjhimajgiaa


set_option linter.unusedVariables false
set_option linter.unusedSimpArgs false
namespace Go.Proofs.Ytmkgcjhimajgiaa
section
variable {g : Gram} {w : List Int}
def initO (g : Gram) (w : List Int) (sy : List Bool) (i : Nat) : List Bool:=if termF g (w.getD i 0) = true then sy.set (atF w.length (w.getD i 0).toNat i (i + 1)) true else sy
def initS (g : Gram) (w : List Int) (k : Nat) : List Bool:=(List.range k).foldl (initO g w) (List.replicate (nsym g * ((w.length + 1) * (w.length + 1))) false)
theorem initS_succ (k : Nat) : initS g w (k + 1) = initO g w (initS g w k) k:=by unfold initS;rw [List.range_succ,List.foldl_append];rfl
theorem initS_len : ∀ k,(initS g w k).length = nsym g * ((w.length + 1) * (w.length + 1))
  | 0 => by simp [initS]
  | k + 1 => by
    rw [initS_succ]
    unfold initO
    split
    · rw [List.length_set];exact initS_len k
    · exact initS_len k
theorem initS_has : ∀ {k : Nat},k ≤ w.length → ∀ (x : Int) (i j : Nat),0 ≤ x → i ≤ w.length → j ≤ w.length → ((initS g w k).getD (atF w.length x.toNat i j) false = true ↔ i < k ∧ w[i]? = some x ∧ termF g x = true ∧ j = i + 1)
  | 0,_,x,i,j,_,_,_ => by
    have e : (initS g w 0).getD (atF w.length x.toNat i j) false = false:=by
      unfold initS
      rw [List.getD_eq_getElem?_getD,List.range_zero,List.foldl_nil,List.getElem?_replicate]
      split <;> rfl
    rw [e]
    simp
  | k + 1,hk,x,i,j,hx,hi,hj => by
    have ih:=initS_has (k:=k) (by omega) x i j hx hi hj
    rw [initS_succ]
    have hw : w[k]? = some (w.getD k 0):=by rw [List.getD_eq_getElem?_getD,List.getElem?_eq_getElem (by omega)];rfl
    obtain ⟨y,hy⟩ : ∃ y,y = w.getD k 0:=⟨_,rfl⟩
    unfold initO
    rw [← hy] at hw ⊢
    by_cases ht : termF g y = true
    · obtain ⟨h1,h2⟩:=term_sym ht
      rw [if_pos ht,getD_set_true (by rw [initS_len];exact atF_lt (by omega) (by omega) (by omega)),Bool.or_eq_true,decide_eq_true_eq,ih]
      constructor
      · rintro (h | ⟨a,b,c,d⟩)
        · obtain ⟨e1,e2,e3⟩:=atF_inj hi (by omega) hj (by omega) h
          have : x = y:=by omega
          subst this
          subst e2
          exact ⟨by omega,hw,ht,e3⟩
        · exact ⟨by omega,b,c,d⟩
      · rintro ⟨a,b,c,d⟩
        by_cases hik : i = k
        · subst hik
          rw [hw] at b
          injection b with b
          subst b
          exact .inl (by rw [d])
        · exact .inr ⟨by omega,b,c,d⟩
    · rw [if_neg ht,ih]
      constructor
      · rintro ⟨a,b,c,d⟩;exact ⟨by omega,b,c,d⟩
      · rintro ⟨a,b,c,d⟩
        by_cases hik : i = k
        · subst hik
          rw [hw] at b
          injection b with b
          subst b
          exact absurd c ht
        · exact ⟨by omega,b,c,d⟩
def begO (g : Gram) (n k : Nat) (s : ChS) (i : Nat) : ChS:=partF g n s ⟨k,0,i,i⟩
def begR (g : Gram) (n : Nat) (s : ChS) (k : Nat) : ChS:=(List.range (n + 1)).foldl (begO g n k) s
def startS (g : Gram) (w : List Int) : ChS:=⟨initS g w w.length,List.replicate (rowsF g * ((w.length + 1) * (w.length + 1))) false,[]⟩
def startF (g : Gram) (w : List Int) : ChS:=(List.range g.rules.length).foldl (begR g w.length) (startS g w)
theorem begO_ext {n k : Nat} (hk : k < g.rules.length) (s : ChS) {i : Nat} (hi : i ≤ n) : Ext g n s (begO g n k s i):=ext_part ⟨hk,Nat.zero_le _,hi,hi⟩
theorem begR_ext {n k : Nat} (hk : k < g.rules.length) (s : ChS) : Ext g n s (begR g n s k):=fold_ext _ _ (fun s i hi => begO_ext hk s (by have:=List.mem_range.1 hi;omega)) _
theorem start_lens : Lens g w.length (startS g w):=⟨initS_len _,by simp [startS],fun p h => by cases h⟩
theorem start_no (p : PN) : hasP g w.length (startS g w) p = false:=by
  unfold hasP startS
  rw [List.getD_eq_getElem?_getD,List.getElem?_replicate]
  split <;> rfl
theorem start_ext : Ext g w.length (startS g w) (startF g w):=fold_ext _ _ (fun s k hk => begR_ext (List.mem_range.1 hk) s) _
theorem start_many : (startF g w).q.length = cnt (startF g w).pa:=by
  have:=(start_ext (g:=g) (w:=w)).many start_lens
  have h0 : cnt (startS g w).pa = 0:=cnt_replicate _
  have h1 : (startS g w).q.length = 0:=rfl
  omega
theorem start_qp : ∀ p ∈ (startF g w).q,hasP g w.length (startF g w) p = true:=fun p hp => (start_ext.qn start_lens p hp).elim (fun e => by cases e) id
theorem start_inv (hg : goodF g = true) : InvC g w (startF g w):=by
  have E:=start_ext (g:=g) (w:=w)
  have hsy : (startF g w).sy = initS g w w.length:=sy_fold _ (fun s k => sy_fold _ (fun s i => sy_part) _ _) _ _
  have B : Both g w (startF g w):=fold_inv _ (Both g w) _ (fun s k hk h => fold_inv _ (Both g w) _ (fun s i hi h => by
    have hk:=List.mem_range.1 hk
    have hi:=List.mem_range.1 hi
    have hp : PN.ok g w.length ⟨k,0,i,i⟩:=⟨hk,Nat.zero_le _,Nat.lt_succ_iff.1 hi,Nat.lt_succ_iff.1 hi⟩
    exact ⟨(ext_part hp).lens h.l,snd_part h.l h.s hp (.beg hk (Nat.lt_succ_iff.1 hi))⟩) _ h) _ ⟨start_lens,fun x i j a b c d e => by
      obtain ⟨_,e2,e3,e4⟩:=(initS_has (g:=g) (w:=w) (Nat.le_refl _) x i j a c d).1 e
      rw [e4]
      exact .tok e2 e3,fun p hp e => by rw [start_no] at e;cases e⟩
  have hin : ∀ p : PN,p.ok g w.length → hasP g w.length (startF g w) p = true → p ∈ (startF g w).q:=fun p hp h => (E.new start_lens p hp h).elim (fun e => by rw [start_no] at e;cases e) id
  refine ⟨B.l,B.s,fun i x hi ht => ?_,fun r i hr hi => ?_,fun p hp => ⟨fun _ h => .inr (hin p hp h),fun _ _ _ _ h _ => .inr (hin p hp h)⟩⟩
  · obtain ⟨h1,_⟩:=List.getElem?_eq_some_iff.1 hi
    obtain ⟨h2,_⟩:=term_sym ht
    unfold hasS
    rw [hsy]
    exact (initS_has (g:=g) (w:=w) (Nat.le_refl _) x i (i + 1) h2 (by omega) (by omega)).2 ⟨h1,hi,ht,rfl⟩
  · refine fold_all (begR g w.length) (fun r s => r < g.rules.length → ∀ i,i ≤ w.length → hasP g w.length s ⟨r,0,i,i⟩ = true) (fun a s s' l e h hr i hi => e.pa _ (h hr i hi)) _ (fun s k hk => begR_ext (List.mem_range.1 hk) s) (fun s l r _ hr i hi => ?_) (startS g w) start_lens r (List.mem_range.2 hr) hr i hi
    exact fold_all (begO g w.length r) (fun i s => i ≤ w.length → hasP g w.length s ⟨r,0,i,i⟩ = true) (fun a s s' l e h hi => e.pa _ (h hi)) _ (fun s i hi => begO_ext hr s (by have:=List.mem_range.1 hi;omega)) (fun s l i _ hi => part_has l ⟨hr,Nat.zero_le _,hi,hi⟩) s l i (List.mem_range.2 (by omega)) hi
theorem round_inv (hg : goodF g = true) {s : ChS} {q : List PN} {p : PN} {r : Nat} (hq : s.q = q ++ [p]) (h : InvC g w s ∧ s.q.length + r = cnt s.pa ∧ ∀ p ∈ s.q,hasP g w.length s p = true) :
    Lens g w.length { s with q:=q } ∧ p.ok g w.length ∧ (InvC g w (followF g w.length { s with q:=q } p) ∧ (followF g w.length { s with q:=q } p).q.length + (r + 1) = cnt (followF g w.length { s with q:=q } p).pa ∧ ∀ p' ∈ (followF g w.length { s with q:=q } p).q,hasP g w.length (followF g w.length { s with q:=q } p) p' = true):=by
  obtain ⟨h1,h2,h3⟩:=h
  have hp:=h3 p (by rw [hq];exact List.mem_append_right _ (List.mem_singleton.2 rfl))
  have hl : Lens g w.length { s with q:=q }:=⟨h1.l.sy,h1.l.pa,fun p' hp' => h1.l.q p' (by rw [hq];exact List.mem_append_left _ hp')⟩
  obtain ⟨h4,h5⟩:=follow_inv hg hq hp h1
  refine ⟨hl,h1.l.q p (by rw [hq];exact List.mem_append_right _ (List.mem_singleton.2 rfl)),h4,?_,fun p' hp' => ?_⟩
  · have h6:=h5.many hl
    rw [hq] at h2
    simp only [List.length_append,List.length_singleton] at h2
    simp only at h6
    omega
  · rcases h5.qn hl p' hp' with e | e
    · exact h5.pa p' (h3 p' (by rw [hq];exact List.mem_append_left _ e))
    · exact e
end
end Go.Proofs.Ytmkgcjhimajgiaa


set_option linter.unusedVariables false
set_option linter.unusedSimpArgs false
namespace Go.Proofs.Ytmkgcjhimajgiaa

open Classical in
noncomputable def tabN (m : Nat) (P : Nat → Prop) : List Bool:=(List.range m).map fun t => decide (P t)
def atT (n : Nat) (s i : Int) : Int:=s * (n + 1) + i
def spanB (g : Gram) (w : List Int) (M : Tab) (s i j : Int) : Bool :=
  if s < 0 ∨ (nsym g : Int) ≤ s ∨ i < 0 ∨ (w.length : Int) < i ∨ j < i ∨ (w.length : Int) < j then false
  else if s < (g.terms.length : Int) then decide (j = i + 1) && decide (w.getD i.toNat 0 = s) else getT M (atT w.length s i) j
def HasT (g : Gram) (w : List Int) (M : Tab) (s : Int) (i j : Nat) : Prop:=0 ≤ s ∧ s < nsym g ∧ i ≤ w.length ∧ j ≤ w.length ∧ getT M (atT w.length s i) j = true
structure SndT (g : Gram) (w : List Int) (M : Tab) : Prop where
  sh : ShT (nsym g * (w.length + 1)) (w.length + 1) M
  snd : ∀ s i j,HasT g w M s i j → Ch g w (.sym s i j)
section
variable {g : Gram} {w : List Int} {M : Tab}
theorem ch_in (hg : goodF g = true) {s : Int} {i j : Nat} (h : Ch g w (.sym s i j)) : 0 ≤ s ∧ s < nsym g:=by
  rcases sym_iff.1 h with ⟨_,ht,_⟩ | ⟨r,hr,rfl,_,_⟩
  · exact term_sym ht
  · have:=left_in hg hr;omega
/-- The relation that the document's Sym tells. -/
def SB (g : Gram) (w : List Int) (M : Tab) (s : Int) (i j : Nat) : Prop:=spanB g w M s i j = true
noncomputable def endsN (g : Gram) (w : List Int) (M : Tab) (l : List Int) (i : Nat) : List Bool:=tabN (w.length + 1) (fun j => RowR (SB g w M) l i j)
/-- Of one symbol more: what is told by the places ahead of a,and at a by the ends ahead of b. -/
noncomputable def midN (g : Gram) (w : List Int) (M : Tab) (l : List Int) (x : Int) (i a b : Nat) : List Bool:=tabN (w.length + 1) (fun t => ∃ c,RowR (SB g w M) l i c ∧ SB g w M x c t ∧ (c < a ∨ c = a ∧ t < b))
def putT (n : Nat) (M : Tab) (s : Int) (i j : Nat) : Tab:=setRow M (atT n s i) ((rowT M (atT n s i)).set j true)
/-- In the midst of a round: nothing has been laid in yet,and what was gone through is there;or something was laid in. -/
def Mid (g : Gram) (w : List Int) (M0 M : Tab) (ch : Bool) (D : Nat → Nat → Nat → Prop) : Prop :=
  SndT g w M ∧ (ch = false → M = M0 ∧ ∀ r i j,D r i j → RowR (SB g w M) (rightR g r) i j → HasT g w M (leftR g r) i j) ∧ (ch = true → cntT M0 < cntT M)
end
end Go.Proofs.Ytmkgcjhimajgiaa


set_option linter.unusedVariables false
set_option linter.unusedSimpArgs false
namespace Go.Proofs.Ytmkgcjhimajgiaa
open Go.RowKit Go.Conc Go.Proofs.YtmkgcjhimajgiaaW.PrintLast

section
variable {P : Program} {ops : Array Oper} {Q : Exit → Act → World → Prop} {c : Nat}
/-- Where the last operation stands a still one is put: the same edges. -/
def stillO (o : Oper) : Oper:={ o with op:=.move (.const undef),guard:=none }
def stillAt (ops : Array Oper) (c : Nat) : Array Oper:=ops.setIfInBounds c (stillO (ops.getD c default))
theorem still_ne {i : Nat} (h : i ≠ c) : (stillAt ops c)[i]? = ops[i]?:=by
  unfold stillAt;rw [Array.getElem?_setIfInBounds_ne (Ne.symm h)]
theorem still_at {oc : Oper} (h : ops[c]? = some oc) : (stillAt ops c)[c]? = some (stillO oc):=by
  obtain ⟨hlt,he⟩:=Array.getElem?_eq_some_iff.1 h
  unfold stillAt
  rw [Array.getElem?_setIfInBounds_self_of_lt hlt,Array.getD_eq_getD_getElem?,h];rfl
theorem still_size : (stillAt ops c).size = ops.size:=by unfold stillAt;simp
theorem still_ready {md : Region.Mode} {oc : Oper} (h : ops[c]? = some oc) (listed : Array Bool) : Region.ready md (stillAt ops c) listed = Region.ready md ops listed:=by
  unfold Region.ready
  rw [still_size]
  refine List.filter_congr (fun i _ => ?_)
  by_cases hi : i = c
  · subst hi
    rw [still_at h,h];rfl
  · rw [still_ne hi]
theorem still_yielded {oc : Oper} (h : ops[c]? = some oc) (tmps : Array Value) : yielded (stillAt ops c) tmps = yielded ops tmps:=by
  funext j
  unfold yielded
  by_cases hj : j = c
  · subst hj
    rw [still_at h,h];rfl
  · rw [still_ne hj]
theorem inN_of_op {ops' : Array Oper} {Q' : Exit → Act → World → Prop} {K : Act → World → Prop} {i : Nat} {rest : List Nat} {a : Act} {w : World} (hyi : yielded ops' a.tmps = yielded ops a.tmps) (he : ops'[i]? = ops[i]?) (hQ : ∀ e a w,Q' e a w → e = .normal) (hK : ∀ a w,K a w → inN P ops rest Q a w) (h : wpOp P ops' Q' i K a w) : inN P ops (i :: rest) Q a w:=by
  intro b k cs hb
  unfold wpOp at h
  rw [he] at h
  cases ho : ops[i]? with
  | none =>
    rw [ho] at h
    obtain ⟨e,a',w',hq,harr⟩:=hK _ _ h b k cs hb
    have hs:=step_op_skip (P:=P) (b:=b) (a:=a) (k:=k) (cs:=cs) (w:=w) (ops:=ops) (i:=i) (rest:=rest) (by simp [ho])
    simp only [ho,Option.bind_none,Act.put] at hs
    exact ⟨e,a',w',hq,.of_steps (.one hs) harr⟩
  | some o =>
    rw [ho] at h
    simp only [hyi] at h
    by_cases hw : Region.wanted o (yielded ops a.tmps) = true
    · rw [if_pos hw] at h
      rcases h with h | ⟨_,a0,w0,hq⟩
      case inr => cases hQ _ _ _ hq
      have hg:=stepG_op (P:=P) (b:=b) (k:=k) (cs:=cs) (w:=w) (rest:=rest) ho hw
      have hfin : ∀ v,(b.at a (.inRegion ops (i :: rest) :: k)).finish v = b.at (a.put o.dst v) (.inRegion ops rest :: k):=fun v => by rw [Frame.finish_at,ho];rfl
      unfold Oper.wp at h
      cases hr : (execOp a.eval o).run P w with
      | halt x w' =>
        rw [hr] at h
        cases x with
        | panic v => cases hQ _ _ _ h
        | _ => exact h.elim
      | ok nx w' =>
        rw [hr] at h
        cases nx with
        | value v =>
          obtain ⟨e,a',w'',hq,harr⟩:=hK _ _ h b k cs hb
          refine ⟨e,a',w'',hq,.of_steps (.one (step_lone_go ?_)) harr⟩
          rw [hg,← hfin];simp [stepG.apply,hr]
        | skip =>
          obtain ⟨e,a',w'',hq,harr⟩:=hK _ _ h b k cs hb
          refine ⟨e,a',w'',hq,.of_steps (.one (step_lone_go ?_)) harr⟩
          rw [hg,← hfin];simp [stepG.apply,hr]
        | enter f args =>
          obtain ⟨e,w'',fr,hR,hsteps,_,hleave⟩:=h (b.at a (.inRegion ops (i :: rest) :: k) :: cs)
          have henter : step P (lone (b.at a (.inRegion ops (i :: rest) :: k)) cs w) = .next (lone (Frame.enter P f args .normal) (b.at a (.inRegion ops (i :: rest) :: k) :: cs) w'):=step_lone_go (by rw [hg];simp [stepG.apply,hr,Frame.at])
          cases e with
          | returned v =>
            obtain ⟨e,a',w3,hq,harr⟩:=hK _ _ hR b k cs hb
            refine ⟨e,a',w3,hq,.of_steps (.head henter (hsteps.trans (.one ?_))) harr⟩
            rw [← hfin];exact step_leave_returned hleave
          | panicked chain => cases hQ _ _ _ hR
          | outgrown =>
            obtain ⟨a0,w0,hq⟩:=hR
            cases hQ _ _ _ hq
        | row row args =>
          obtain ⟨v,w'',hR,hsteps⟩:=h (b.at a (.inRegion ops (i :: rest) :: k)) cs
          have henter : step P (lone (b.at a (.inRegion ops (i :: rest) :: k)) cs w) = .next (lone (Frame.ofRow P row args .normal) (b.at a (.inRegion ops (i :: rest) :: k) :: cs) w'):=step_lone_go (by rw [hg];simp [stepG.apply,hr,Frame.at])
          obtain ⟨e,a',w3,hq,harr⟩:=hK _ _ hR b k cs hb
          refine ⟨e,a',w3,hq,.of_steps (.head henter ?_) harr⟩
          rw [← hfin];exact hsteps
        | defer d =>
          obtain ⟨e,a',w'',hq,harr⟩:=hK _ _ h b k cs hb
          refine ⟨e,a',w'',hq,.of_steps (.one (step_lone_go ?_)) harr⟩
          have : ({ b.at a (.inRegion ops (i :: rest) :: k) with defers:=d :: a.defers } : Frame).finish undef = b.at ({ a with defers:=d :: a.defers }.put o.dst undef) (.inRegion ops rest :: k):=by
            have:=Frame.finish_at b { a with defers:=d :: a.defers } ops i rest k undef
            rw [ho] at this;exact this
          rw [hg];simp only [stepG.apply,Sem.runT_eq,hr,GStep.bare_after]
          exact congrArg (fun fr => GStep.go { frame:=fr,callers:=cs,status:=.running,dying:=none } w') this
        | _ => exact h.elim
    · rw [if_neg hw] at h
      obtain ⟨e,a',w',hq,harr⟩:=hK _ _ h b k cs hb
      have hs:=step_op_skip (P:=P) (b:=b) (a:=a) (k:=k) (cs:=cs) (w:=w) (ops:=ops) (i:=i) (rest:=rest) (by simp [ho];simpa using hw)
      simp only [ho,Option.bind_some] at hs
      exact ⟨e,a',w',hq,.of_steps (.one hs) harr⟩
/-- What is asked behind all but the last operation. -/
def EndQ (P : Program) (ops : Array Oper) (c : Nat) (Q : Exit → Act → World → Prop) : Exit → Act → World → Prop
  | .normal,a,w => inN P ops [c] Q a w
  | _,_,_ => False
theorem EndQ.norm {e : Exit} {a : Act} {w : World} (h : EndQ P ops c Q e a w) : e = .normal:=by
  cases e <;> first | rfl | exact h.elim
/-- The edges go back in the text;all the others are waited for by the last one. -/
def endsIn (ops : Array Oper) (c : Nat) : Bool :=
  (List.range ops.size).all (fun i => (match ops[i]? with | some o => o.after.all fun e => !Region.binds .any e || decide (e.on < i) | none => true) && (decide (i = c) || Region.reachB .any ops i ops.size c)) && decide (c < ops.size)
theorem ready_some {listed : Array Bool} (h : endsIn ops c = true) (hs : listed.size = ops.size) : ∀ i,i < ops.size → listed.getD i true = false → Region.ready .any ops listed ≠ []:=by
  unfold endsIn at h
  simp only [Bool.and_eq_true,List.all_eq_true,List.mem_range,decide_eq_true_eq] at h
  intro i
  induction i using Nat.strongRecOn with
  | _ i ih =>
    intro hi hl
    have h1:=(h.1 i hi).1
    rw [Array.getElem?_eq_getElem hi] at h1
    simp only at h1
    by_cases hall : ∀ e ∈ (ops[i]'hi).after,Region.binds .any e = true → listed.getD e.on false = true
    · intro hn
      have : i ∈ Region.ready .any ops listed:=mem_ready.2 ⟨hl,_,Array.getElem?_eq_getElem hi,hall⟩
      rw [hn] at this;cases this
    · simp only [Classical.not_forall] at hall
      obtain ⟨e,he,hb,hne⟩:=hall
      have h2:=Array.all_eq_true_iff_forall_mem.1 h1 e he
      simp only [hb,Bool.not_true,Bool.false_or,decide_eq_true_eq] at h2
      refine ih e.on h2 (by omega) ?_
      have hlt : e.on < listed.size:=by omega
      simp only [Array.getD_eq_getD_getElem?,Array.getElem?_eq_getElem hlt,Option.getD_some] at hne ⊢
      simpa using hne
theorem lin_last {oc : Oper} (hoc : ops[c]? = some oc) (hd : oc.dst = none) (he : endsIn ops c = true) : ∀ (fuel t : Nat) (listed : Array Bool) (a : Act) (w : World),listed.size = ops.size → ListedClosed .any ops listed → listed.getD c true = false →
    wpAny P .any (stillAt ops c) (EndQ P ops c Q) fuel listed a w → inN P ops (Region.linearise.go .any ops fuel t listed []) Q a w
  | 0,t,listed,a,w,hs,hc,hl,h => by
    have h1:=h.1
    rw [still_ready hoc] at h1
    exact absurd h1 (ready_some he hs c (Array.getElem?_eq_some_iff.1 hoc).1 hl)
  | fuel + 1,t,listed,a,w,hs,hc,hl,h => by
    have hne:=ready_some he hs c (Array.getElem?_eq_some_iff.1 hoc).1 hl
    obtain ⟨h0,h1⟩:=h
    rw [still_ready hoc] at h1
    simp only [Region.linearise.go]
    change inN P ops (match (Region.ready .any ops listed)[t % (Region.ready .any ops listed).length]? with
      | some i => Region.linearise.go .any ops fuel (t / (Region.ready .any ops listed).length) (listed.setIfInBounds i true) [i]
      | none => [].reverse) Q a w
    have hlen : 0 < (Region.ready .any ops listed).length:=List.length_pos_iff.2 hne
    cases hi : (Region.ready .any ops listed)[t % (Region.ready .any ops listed).length]? with
    | none =>
      have:=Nat.mod_lt t hlen
      rw [List.getElem?_eq_none_iff] at hi
      omega
    | some i =>
      simp only []
      have him:=List.mem_of_getElem? hi
      have hw:=h1 i him
      rw [linearise_go_acc,List.reverse_singleton,List.singleton_append]
      by_cases hic : i = c
      · subst hic
        have hall : ∀ j,j < ops.size → (listed.setIfInBounds i true).getD j true = true:=by
          intro j hj
          have hc2:=hc.set him
          have hin : (listed.setIfInBounds i true).getD i false = true:=by
            have : i < listed.size:=by rw [hs];exact (Array.getElem?_eq_some_iff.1 hoc).1
            simp [Array.getD_eq_getD_getElem?,this]
          have hjl : j < (listed.setIfInBounds i true).size:=by simp [hs,hj]
          have : (listed.setIfInBounds i true).getD j false = true:=by
            unfold endsIn at he
            simp only [Bool.and_eq_true,List.all_eq_true,List.mem_range,decide_eq_true_eq] at he
            have:=(he.1 j hj).2
            simp only [Bool.or_eq_true,decide_eq_true_eq] at this
            rcases this with rfl | h3
            · exact hin
            · exact Region.reach_listed hc2 _ _ h3 hin
          simp only [Array.getD_eq_getD_getElem?,Array.getElem?_eq_getElem hjl,Option.getD_some] at this ⊢
          exact this
        have hnil : Region.ready .any ops (listed.setIfInBounds i true) = []:=by
          unfold Region.ready
          rw [List.filter_eq_nil_iff]
          intro j hj
          rw [hall j (List.mem_range.1 hj)]
          simp
        have hgo : ∀ t,Region.linearise.go .any ops fuel t (listed.setIfInBounds i true) [] = []:=by
          intro t
          cases fuel with
          | zero => rfl
          | succ fuel =>
            simp only [Region.linearise.go]
            change (match (Region.ready .any ops (listed.setIfInBounds i true))[t % (Region.ready .any ops (listed.setIfInBounds i true)).length]? with
              | some i_1 => _
              | none => [].reverse) = []
            rw [hnil]
            rfl
        rw [hgo]
        unfold wpOp at hw
        rw [still_at hoc] at hw
        have hrun : (execOp a.eval (stillO oc)).run P w = .ok (.value undef) w:=by unfold stillO;simp [go_sem]
        have hwant : Region.wanted (stillO oc) (yielded (stillAt ops i) a.tmps) = true:=rfl
        simp only [hwant,if_true,Oper.wp,hrun,Oper.upon] at hw
        rcases hw with hw | ⟨_,a0,w0,hq⟩
        · rw [show (stillO oc).dst = none from hd] at hw
          have hfin : ∀ fuel,wpAny P .any (stillAt ops i) (EndQ P ops i Q) fuel (listed.setIfInBounds i true) a w → inN P ops [i] Q a w:=by
            intro fuel
            cases fuel with
            | zero => exact fun h => h.2
            | succ fuel => exact fun h => h.1 (by rw [still_ready hoc];exact hnil)
          exact hfin _ hw
        · exact hq.elim
      · refine inN_of_op (still_yielded hoc _) (still_ne hic) (fun e a w h => h.norm) (fun a w h => ?_) hw
        refine lin_last hoc hd he fuel _ _ a w (by simp [hs]) (hc.set him) ?_ h
        rw [getD_set_ne true hic];exact hl
theorem wpN_region_last {id : Nat} {a : Act} {w : World} {oc : Oper} (hm : P.follows .mixedOrders = true) (hoc : ops[c]? = some oc) (hd : oc.dst = none) (he : endsIn ops c = true)
    (h : wpAny P .any (stillAt ops c) (EndQ P ops c Q) ops.size (Array.replicate ops.size false) a w.drew) : wpN P (Code.region id ops true) Q a w:=by
  intro b k cs hb
  have key : ∀ t,inN P ops (Region.schedule (P.follows .mixedOrders) ops t) Q a { w with drawn:=w.drawn + 1 }:=fun t => by
    simp only [Region.schedule,hm,Bool.true_or,if_true]
    refine lin_last hoc hd he ops.size t _ a _ (by simp) ?_ ?_ h
    · intro j oj hj hl
      simp [Array.getD_eq_getD_getElem?,Array.getElem?_replicate] at hl
      split at hl <;> simp at hl
    · have : c < ops.size:=(Array.getElem?_eq_some_iff.1 hoc).1
      simp [Array.getD_eq_getD_getElem?,this]
  obtain ⟨e,a',w',q,r⟩:=key _ b k cs hb
  exact ⟨e,a',w',q,.of_steps (.one step_region_draw) r⟩
theorem startN_ {S : World → Prop} {ds : List Nat} {id n : Nat} {a : Act} {w : World} (c : Nat) (l : Array Bool) (hm : P.follows .mixedOrders = true) (hn : ops.size = n) (hl : Array.replicate n false = l) (hS : S w.drew) {oc : Oper}
    (h : S w.drew → wpAnyLast P .any (stillAt ops c) (EndQ P ops c Q) S ds n l a w.drew) (hoc : ops[c]? = some oc:=by rfl) (hd : oc.dst = none:=by rfl) (he : endsIn ops c = true:=by kernel_rfl) : wpN P (Code.region id ops true) Q a w:=by
  subst hn
  subst hl
  exact wpN_region_last hm hoc hd he (wpAny_of_last _ _ _ _ (h hS))
end
end Go.Proofs.Ytmkgcjhimajgiaa


set_option linter.unusedVariables false
set_option linter.unusedSimpArgs false
namespace Go.Proofs.Ytmkgcjhimajgiaa
open Go.RowKit Go.Proofs.YtmkgcjhimajgiaaW.PrintWords Go.Deep Go.ChangeShapes Go.WideShapes

def I64 (x : Int) : Prop:=-9223372036854775808 ≤ x ∧ x ≤ 9223372036854775807
section
variable {H : Type} {enc : TypeId × Value → H} {w : World} {base : Nat} {spare : Nat → Bool} {held : Bool} {fuel : Nat}
end
end Go.Proofs.Ytmkgcjhimajgiaa

