/- Contracts of functions of the program, and plain laws (texts P36, P37, P39), joined: each theorem says what it proves. -/
import Derived.Test.YtmkgcjhimajgiaaFG
import Derived.Test.YtmkgcjhimajgiaaFK
import Derived.Test.YtmkgcjhimajgiaaFI
set_option linter.unusedVariables false
set_option linter.unusedSimpArgs false
namespace Go.Proofs.Ytmkgcjhimajgiaa
open Go.RowKit Go.Proofs.YtmkgcjhimajgiaaW.PrintWords Go.Proofs.YtmkgcjhimajgiaaW.PrintLast Go.Conc

structure Lab where
  sym : Int
  rule : Int
  dot : Int
  i : Int
  j : Int
deriving DecidableEq,Inhabited
structure PackN where
  rule : Int
  pivot : Int
  left : Int
  right : Int
deriving DecidableEq,Inhabited
/-- The node of a label: where it is,or a new one. -/
def nodeF (L : List Lab) (x : Lab) : Nat × List Lab:=if x ∈ L then (L.idxOf x,L) else (L.length,L ++ [x])
def symLab (s i j : Int) : Lab:=⟨s,-1,0,i,j⟩
def partLab (r d : Nat) (i j : Int) : Lab:=⟨-1,r,d,i,j⟩
/-- What is ahead of a rule's symbol at a dot. -/
def aheadL (g : Gram) (r d : Nat) (i j : Int) : Lab:=if d = 1 then symLab ((rightR g r).getD 0 0) i j else partLab r d i j
def splitStep (g : Gram) (r d : Nat) (i j : Int) (st : List PackN × List Lab) (k : Int) : List PackN × List Lab :=
  ((st.1 ++ [⟨r,k,(nodeF st.2 (aheadL g r (d - 1) i k)).1,(nodeF (nodeF st.2 (aheadL g r (d - 1) i k)).2 (symLab ((rightR g r).getD (d - 1) 0) k j)).1⟩]),(nodeF (nodeF st.2 (aheadL g r (d - 1) i k)).2 (symLab ((rightR g r).getD (d - 1) 0) k j)).2)
noncomputable def splitF (g : Gram) (w : List Int) (L : List Lab) (r d : Nat) (i j : Int) : List PackN × List Lab:=(pivF g w r d i j).foldl (splitStep g r d i j) ([],L)
noncomputable def wholeF (g : Gram) (w : List Int) (L : List Lab) (r : Nat) (i j : Int) : List PackN × List Lab :=
  if (rightR g r).length = 0 then (if i = j then [⟨r,i,-1,-1⟩] else [],L)
  else if (rightR g r).length = 1 then
    (if symV g w ((rightR g r).getD 0 0) i j = true then ([⟨r,i,-1,(nodeF L (symLab ((rightR g r).getD 0 0) i j)).1⟩],(nodeF L (symLab ((rightR g r).getD 0 0) i j)).2) else ([],L))
  else splitF g w L r (rightR g r).length i j
noncomputable def packStep (g : Gram) (w : List Int) (x : Lab) (st : List PackN × List Lab) (r : Nat) : List PackN × List Lab :=
  if leftR g r = x.sym then (st.1 ++ (wholeF g w st.2 r x.i x.j).1,(wholeF g w st.2 r x.i x.j).2) else st
/-- A node's packs,and the nodes then. -/
noncomputable def packsF (g : Gram) (w : List Int) (L : List Lab) (x : Lab) : List PackN × List Lab :=
  if x.sym = -1 then splitF g w L x.rule.toNat x.dot.toNat x.i x.j else (List.range g.rules.length).foldl (packStep g w x) ([],L)
abbrev FS:=List Lab × List (List PackN)
noncomputable def fstep (g : Gram) (w : List Int) (most : Int) (s : FS) : FS :=
  if s.2.length < s.1.length ∧ (s.1.length : Int) ≤ most then ((packsF g w s.1 (s.1.getD s.2.length default)).2,s.2 ++ [(packsF g w s.1 (s.1.getD s.2.length default)).1]) else s
noncomputable def fiter (g : Gram) (w : List Int) (most : Int) : Nat → FS
  | 0 => ([symLab g.terms.length 0 w.length],[])
  | n + 1 => fstep g w most (fiter g w most n)
/-- The forest,made as far as the cap lets it. -/
noncomputable def fend (g : Gram) (w : List Int) (most : Int) : FS:=fiter g w most 4001
theorem nodeF_pre (L : List Lab) (x : Lab) : L <+: (nodeF L x).2:=by
  unfold nodeF
  split
  · exact List.prefix_refl _
  · exact List.prefix_append _ _
theorem nodeF_len (L : List Lab) (x : Lab) : (nodeF L x).2.length ≤ L.length + 1:=by
  unfold nodeF
  split <;> simp
theorem nodeF_nodup {L : List Lab} (h : L.Nodup) (x : Lab) : (nodeF L x).2.Nodup:=by
  unfold nodeF
  split
  · exact h
  · rename_i hx
    exact List.nodup_append.2 ⟨h,by simp,fun a ha b hb => by rw [List.mem_singleton.1 hb];exact fun e => hx (e ▸ ha)⟩
theorem nodeF_all {P : Lab → Prop} {L : List Lab} (h : ∀ y ∈ L,P y) {x : Lab} (hx : P x) : ∀ y ∈ (nodeF L x).2,P y:=by
  intro y hy
  unfold nodeF at hy
  split at hy
  · exact h y hy
  · rcases List.mem_append.1 hy with hy | hy
    · exact h y hy
    · rw [List.mem_singleton.1 hy];exact hx
/-- What packs leave of the nodes: the old ones first;new ones have a property;none twice;not too many. -/
structure Grow (P : Lab → Prop) (n : Nat) (L L' : List Lab) : Prop where
  pre : L <+: L'
  all : (∀ y ∈ L,P y) → ∀ y ∈ L',P y
  nodup : L.Nodup → L'.Nodup
  len : L'.length ≤ L.length + n
theorem Grow.refl (P : Lab → Prop) (L : List Lab) : Grow P 0 L L:=⟨List.prefix_refl _,id,id,by simp⟩
theorem Grow.mono {P : Lab → Prop} {n m : Nat} {L L' : List Lab} (h : Grow P n L L') (hm : n ≤ m) : Grow P m L L':=⟨h.pre,h.all,h.nodup,by have:=h.len;omega⟩
theorem Grow.trans {P : Lab → Prop} {n m : Nat} {a b c : List Lab} (h : Grow P n a b) (k : Grow P m b c) : Grow P (n + m) a c:=⟨h.pre.trans k.pre,fun x => k.all (h.all x),fun x => k.nodup (h.nodup x),by have:=h.len;have:=k.len;omega⟩
theorem Grow.node {P : Lab → Prop} {L : List Lab} {x : Lab} (hx : P x) : Grow P 1 L (nodeF L x).2:=⟨nodeF_pre L x,fun h => nodeF_all h hx,fun h => nodeF_nodup h x,nodeF_len L x⟩
structure LabOk (g : Gram) (w : List Int) (x : Lab) : Prop where
  ok : (x.rule = -1 ∧ x.dot = 0 ∧ symV g w x.sym x.i x.j = true) ∨ (∃ r d : Nat,x.sym = -1 ∧ x.rule = r ∧ x.dot = d ∧ r < g.rules.length ∧ 2 ≤ d ∧ d < (rightR g r).length ∧ partV g w r d x.i x.j = true)
theorem LabOk.sym {g : Gram} {w : List Int} {s i j : Int} (h : symV g w s i j = true) : LabOk g w (symLab s i j):=⟨.inl ⟨rfl,rfl,h⟩⟩
theorem LabOk.ahead {g : Gram} {w : List Int} {r d : Nat} {i k : Int} (hr : r < g.rules.length) (hd : 1 ≤ d) (hdl : d < (rightR g r).length) (h : partV g w r d i k = true) : LabOk g w (aheadL g r d i k):=by
  unfold aheadL
  split
  · rename_i e
    subst e
    refine .sym ?_
    rw [partV_iff] at h
    obtain ⟨_,_,h1,h2,h3⟩:=h
    simp only [Int.toNat_natCast] at h3
    rw [symV_iff]
    refine ⟨h1,h2,?_⟩
    obtain ⟨_,_,_,h4⟩:=part_iff.1 h3
    have hx : (rightR g r)[0]? = some ((rightR g r).getD 0 0):=right_get (by omega)
    rw [take_snoc (d:=0) hx] at h4
    obtain ⟨c,h5,h6⟩:=h4
    have : c = k.toNat:=h6
    subst this
    exact h5
  · exact ⟨.inr ⟨r,d,rfl,rfl,rfl,hr,by omega,hdl,h⟩⟩
theorem piv_sp {g : Gram} {w : List Int} {r d : Nat} {i j k : Int} (h : k ∈ pivF g w r d i j) : 0 ≤ i ∧ i ≤ k ∧ k ≤ j ∧ j ≤ w.length ∧ partV g w r ((d - 1 : Nat) : Int) i k = true ∧ symV g w ((rightR g r).getD (d - 1) 0) k j = true ∧ r < g.rules.length ∧ 1 ≤ d ∧ d ≤ (rightR g r).length:=by
  have hc : 1 ≤ (d : Int) ∧ partV g w r d i j = true:=by
    unfold pivF at h
    split at h
    · assumption
    · cases h
  obtain ⟨⟨h1,h2,h3,h4⟩,⟨h5,h6⟩,h7,h8⟩:=partV_in hc.2
  obtain ⟨a,rfl⟩:=Int.eq_ofNat_of_zero_le h1
  obtain ⟨b,rfl⟩:=Int.eq_ofNat_of_zero_le h2
  obtain ⟨c,rfl,e1,e2,e3,e4⟩:=piv_mem h
  rw [Int.toNat_natCast] at h8
  exact ⟨h1,by omega,by omega,h4,e3,e4,by omega,by omega,by omega⟩
theorem split_grow {g : Gram} {w : List Int} {r d : Nat} {i j : Int} (hd : 2 ≤ d) : ∀ (l : List Int),(∀ k ∈ l,k ∈ pivF g w r d i j) → ∀ st : List PackN × List Lab,Grow (LabOk g w) (2 * l.length) st.2 (l.foldl (splitStep g r d i j) st).2
  | [],_,st => Grow.refl _ _
  | k :: l,hl,st => by
    obtain ⟨h1,h2,h3,h4,h5,h6,h7,h8,h9⟩:=piv_sp (hl k (List.mem_cons_self ..))
    have a : Grow (LabOk g w) 1 st.2 (nodeF st.2 (aheadL g r (d - 1) i k)).2:=.node (.ahead h7 (by omega) (by omega) h5)
    have b : Grow (LabOk g w) 1 (nodeF st.2 (aheadL g r (d - 1) i k)).2 (splitStep g r d i j st k).2:=.node (.sym h6)
    have c:=split_grow hd l (fun x hx => hl x (List.mem_cons_of_mem _ hx)) (splitStep g r d i j st k)
    exact ((a.trans b).trans c).mono (by simp only [List.length_cons];omega)
theorem splitF_grow {g : Gram} {w : List Int} {r d : Nat} {i j : Int} (hd : 2 ≤ d) (L : List Lab) : Grow (LabOk g w) (2 * (pivF g w r d i j).length) L (splitF g w L r d i j).2:=split_grow hd _ (fun _ h => h) ([],L)
theorem piv_len41 {g : Gram} {w : List Int} (hw : w.length ≤ 40) {r d i j : Int} : (pivF g w r d i j).length ≤ 41:=by
  unfold pivF
  split
  · rename_i h
    obtain ⟨⟨h1,h2,h3,h4⟩,_⟩:=partV_in h.2
    have:=pivN_len g w r.toNat d.toNat i.toNat j.toNat (j.toNat + 1 - i.toNat)
    omega
  · simp
theorem wholeF_grow {g : Gram} {w : List Int} (hw : w.length ≤ 40) {r : Nat} {i j : Int} (L : List Lab) : Grow (LabOk g w) 82 L (wholeF g w L r i j).2:=by
  unfold wholeF
  split
  · exact (Grow.refl _ _).mono (by omega)
  · split
    · split
      · rename_i h
        exact (Grow.node (.sym h)).mono (by omega)
      · exact (Grow.refl _ _).mono (by omega)
    · exact (splitF_grow (by omega) L).mono (by have:=piv_len41 (g:=g) (w:=w) hw (r:=r) (d:=(rightR g r).length) (i:=i) (j:=j);omega)
theorem packStep_grow {g : Gram} {w : List Int} (hw : w.length ≤ 40) (x : Lab) : ∀ (l : List Nat) (st : List PackN × List Lab),Grow (LabOk g w) (82 * l.length) st.2 (l.foldl (packStep g w x) st).2
  | [],st => Grow.refl _ _
  | r :: l,st => by
    have a : Grow (LabOk g w) 82 st.2 (packStep g w x st r).2:=by
      unfold packStep
      split
      · exact wholeF_grow hw _
      · exact (Grow.refl _ _).mono (by omega)
    exact (a.trans (packStep_grow hw x l (packStep g w x st r))).mono (by simp only [List.length_cons];omega)
theorem packsF_grow {g : Gram} {w : List Int} (hg : goodF g = true) (hw : w.length ≤ 40) {x : Lab} (hx : LabOk g w x) (L : List Lab) : Grow (LabOk g w) 5000 L (packsF g w L x).2:=by
  unfold packsF
  have hr:=(goodF_small hg).2.2.2
  split
  · rename_i hs
    rcases hx.ok with ⟨h1,h2,h3⟩ | ⟨r,d,h1,h2,h3,h4,h5,h6,h7⟩
    · rw [symV_iff] at h3
      have:=ch_in hg h3.2.2
      omega
    · rw [h2,h3]
      simp only [Int.toNat_natCast]
      exact (splitF_grow h5 L).mono (by have:=piv_len41 (g:=g) (w:=w) hw (r:=r) (d:=d) (i:=x.i) (j:=x.j);omega)
  · exact (packStep_grow hw x _ ([],L)).mono (by simp only [List.length_range];omega)
end Go.Proofs.Ytmkgcjhimajgiaa


set_option linter.unusedVariables false
set_option linter.unusedSimpArgs false
namespace Go.Proofs.Ytmkgcjhimajgiaa
open Go.RowKit Go.Proofs.YtmkgcjhimajgiaaW.PrintWords Go.Proofs.YtmkgcjhimajgiaaW.PrintLast Go.Conc

theorem fiter_stall {g : Gram} {w : List Int} {most : Int} {n : Nat} {s : FS} (h : fiter g w most n = s) (hs : ¬ (s.2.length < s.1.length ∧ (s.1.length : Int) ≤ most)) : ∀ m,fiter g w most (n + m) = s:=by
  intro m
  induction m with
  | zero => exact h
  | succ m ih =>
    show fstep g w most (fiter g w most (n + m)) = s
    rw [ih]
    unfold fstep
    rw [if_neg hs]
theorem fend_of {g : Gram} {w : List Int} {most : Int} {n : Nat} {s : FS} (h : fiter g w most n = s) (hn : n ≤ 4001) (hs : ¬ (s.2.length < s.1.length ∧ (s.1.length : Int) ≤ most)) : fend g w most = s:=by
  have:=fiter_stall h hs (4001 - n)
  rwa [show n + (4001 - n) = 4001 by omega] at this
/-- Rounds of the program's chart. -/
def runC (g : Gram) (n : Nat) : Nat → ChS → ChS
  | 0,s => s
  | k + 1,s => match s.q.getLast? with
    | none => s
    | some p => runC g n k (followF g n { s with q:=s.q.dropLast } p)
theorem runC_inv {g : Gram} {w : List Int} (hg : goodF g = true) : ∀ (k : Nat) (s : ChS) (r : Nat),InvC g w s ∧ s.q.length + r = cnt s.pa ∧ (∀ p ∈ s.q,hasP g w.length s p = true) → InvC g w (runC g w.length k s)
  | 0,s,r,h => h.1
  | k + 1,s,r,h => by
    unfold runC
    rcases List.eq_nil_or_concat s.q with hnil | ⟨q,p,hq⟩
    · rw [hnil];exact h.1
    · rw [List.concat_eq_append] at hq
      have e1 : s.q.getLast? = some p:=by rw [hq];simp
      have e2 : s.q.dropLast = q:=by rw [hq];simp
      rw [e1,e2]
      exact runC_inv hg k _ (r + 1) (round_inv hg hq h).2.2
theorem runC_tab {g : Gram} {w : List Int} (hg : goodF g = true) {k : Nat} {s : ChS} (hs : runC g w.length k (startF g w) = s) (hq : s.q = []) : IsTab g w s.sy s.pa:=by
  have:=runC_inv hg k (startF g w) 0 ⟨start_inv hg,start_many,start_qp⟩
  rw [hs] at this
  exact this.is hg hq
def symT (g : Gram) (w : List Int) (s : ChS) (x i j : Int) : Bool:=decide (0 ≤ i) && decide (0 ≤ j) && decide (i ≤ w.length) && decide (j ≤ w.length) && decide (0 ≤ x) && decide (x < nsym g) && s.sy.getD (atF w.length x.toNat i.toNat j.toNat) false
def partT (g : Gram) (w : List Int) (s : ChS) (r d i j : Int) : Bool:=decide (0 ≤ i) && decide (0 ≤ j) && decide (i ≤ w.length) && decide (j ≤ w.length) && decide (0 ≤ r) && decide (r < g.rules.length) && decide (0 ≤ d) && decide (d ≤ (rightR g r.toNat).length) && s.pa.getD (ixP g w.length ⟨r.toNat,d.toNat,i.toNat,j.toNat⟩) false
theorem symT_eq {g : Gram} {w : List Int} {s : ChS} (hg : goodF g = true) (h : IsTab g w s.sy s.pa) (x i j : Int) : symV g w x i j = symT g w s x i j:=by
  rw [Bool.eq_iff_iff,symV_iff]
  simp only [symT,Bool.and_eq_true,decide_eq_true_eq]
  constructor
  · rintro ⟨h1,h2,h3⟩
    have h4:=h3.ok
    simp only [Itm.ok] at h4
    have h5:=ch_in hg h3
    refine ⟨⟨⟨⟨⟨⟨h1,h2⟩,by omega⟩,by omega⟩,h5.1⟩,h5.2⟩,(h.sy x i.toNat j.toNat h5.1 h5.2 (by omega) (by omega)).2 h3⟩
  · rintro ⟨⟨⟨⟨⟨⟨h1,h2⟩,h3⟩,h4⟩,h5⟩,h6⟩,h7⟩
    exact ⟨h1,h2,(h.sy x i.toNat j.toNat h5 h6 (by omega) (by omega)).1 h7⟩
theorem partT_eq {g : Gram} {w : List Int} {s : ChS} (h : IsTab g w s.sy s.pa) (r d i j : Int) : partV g w r d i j = partT g w s r d i j:=by
  rw [Bool.eq_iff_iff]
  simp only [partT,Bool.and_eq_true,decide_eq_true_eq]
  constructor
  · intro h0
    obtain ⟨⟨h1,h2,h3,h4⟩,⟨h5,h6⟩,h7,h8⟩:=partV_in h0
    have h9:=(partV_iff.1 h0).2.2.2.2
    refine ⟨⟨⟨⟨⟨⟨⟨⟨h1,h2⟩,h3⟩,h4⟩,h5⟩,h6⟩,h7⟩,h8⟩,(h.pa ⟨r.toNat,d.toNat,i.toNat,j.toNat⟩ ⟨by show r.toNat < _;omega,by show d.toNat ≤ (rightR g r.toNat).length;omega,by show i.toNat ≤ _;omega,by show j.toNat ≤ _;omega⟩).2 h9⟩
  · rintro ⟨⟨⟨⟨⟨⟨⟨⟨h1,h2⟩,h3⟩,h4⟩,h5⟩,h6⟩,h7⟩,h8⟩,h9⟩
    exact partV_iff.2 ⟨h5,h7,h1,h2,(h.pa ⟨r.toNat,d.toNat,i.toNat,j.toNat⟩ ⟨by show r.toNat < _;omega,by show d.toNat ≤ (rightR g r.toNat).length;omega,by show i.toNat ≤ _;omega,by show j.toNat ≤ _;omega⟩).1 h9⟩
def pivT (g : Gram) (w : List Int) (s : ChS) (r d i j : Int) : List Int :=
  if 1 ≤ d ∧ partT g w s r d i j = true then (((List.range (j.toNat + 1 - i.toNat)).map (i.toNat + ·)).filter (fun k : Nat => symT g w s ((rightR g r.toNat).getD (d.toNat - 1) 0) (k : Int) (j.toNat : Int) && partT g w s (r.toNat : Int) ((d.toNat - 1 : Nat) : Int) (i.toNat : Int) (k : Int))).map Int.ofNat else []
theorem pivT_eq {g : Gram} {w : List Int} {s : ChS} (hg : goodF g = true) (h : IsTab g w s.sy s.pa) (r d i j : Int) : pivF g w r d i j = pivT g w s r d i j:=by
  unfold pivF pivT
  rw [partT_eq h]
  split
  · unfold pivN
    congr 1
    refine List.filter_congr fun k _ => ?_
    unfold isPiv
    rw [symT_eq hg h,partT_eq h]
  · rfl
def wholeG (g : Gram) (sy : Int → Int → Int → Bool) (pv : Int → Int → Int → Int → List Int) (L : List Lab) (r : Nat) (i j : Int) : List PackN × List Lab :=
  if (rightR g r).length = 0 then (if i = j then [⟨r,i,-1,-1⟩] else [],L)
  else if (rightR g r).length = 1 then
    (if sy ((rightR g r).getD 0 0) i j = true then ([⟨r,i,-1,(nodeF L (symLab ((rightR g r).getD 0 0) i j)).1⟩],(nodeF L (symLab ((rightR g r).getD 0 0) i j)).2) else ([],L))
  else (pv r (rightR g r).length i j).foldl (splitStep g r (rightR g r).length i j) ([],L)
def packsG (g : Gram) (sy : Int → Int → Int → Bool) (pv : Int → Int → Int → Int → List Int) (L : List Lab) (x : Lab) : List PackN × List Lab :=
  if x.sym = -1 then (pv x.rule.toNat x.dot.toNat x.i x.j).foldl (splitStep g x.rule.toNat x.dot.toNat x.i x.j) ([],L)
  else (List.range g.rules.length).foldl (fun st r => if leftR g r = x.sym then (st.1 ++ (wholeG g sy pv st.2 r x.i x.j).1,(wholeG g sy pv st.2 r x.i x.j).2) else st) ([],L)
def stepG (g : Gram) (sy : Int → Int → Int → Bool) (pv : Int → Int → Int → Int → List Int) (most : Int) (s : FS) : FS :=
  match s with
  | (L,P) => if P.length < L.length ∧ (L.length : Int) ≤ most then (match packsG g sy pv L (L.getD P.length default) with | (p,L') => (L',P ++ [p])) else (L,P)
def fiterG (g : Gram) (w : List Int) (sy : Int → Int → Int → Bool) (pv : Int → Int → Int → Int → List Int) (most : Int) : Nat → FS
  | 0 => ([symLab g.terms.length 0 w.length],[])
  | n + 1 => stepG g sy pv most (fiterG g w sy pv most n)
theorem packsG_eq (g : Gram) (w : List Int) (L : List Lab) (x : Lab) : packsF g w L x = packsG g (symV g w) (pivF g w) L x:=rfl
theorem stepG_eq (g : Gram) (w : List Int) (most : Int) (s : FS) : fstep g w most s = stepG g (symV g w) (pivF g w) most s:=by
  obtain ⟨L,P⟩:=s
  unfold fstep stepG
  simp only [packsG_eq]
theorem fiterG_eq (g : Gram) (w : List Int) (most : Int) : ∀ n,fiter g w most n = fiterG g w (symV g w) (pivF g w) most n
  | 0 => rfl
  | n + 1 => by
    show fstep g w most (fiter g w most n) = stepG g (symV g w) (pivF g w) most (fiterG g w (symV g w) (pivF g w) most n)
    rw [fiterG_eq g w most n,stepG_eq]
theorem fend_comp {g : Gram} {w : List Int} (hg : goodF g = true) {k : Nat} {t : ChS} (ht : runC g w.length k (startF g w) = t) (hq : t.q = []) {most : Int} {n : Nat} {s : FS} (hs : fiterG g w (symT g w t) (pivT g w t) most n = s) (hn : n ≤ 4001) (hst : ¬ (s.2.length < s.1.length ∧ (s.1.length : Int) ≤ most)) : fend g w most = s:=by
  have hT:=runC_tab hg ht hq
  have e1 : symV g w = symT g w t:=by funext x i j;exact symT_eq hg hT x i j
  have e2 : pivF g w = pivT g w t:=by funext r d i j;exact pivT_eq hg hT r d i j
  have : fiter g w most n = s:=by rw [fiterG_eq,e1,e2];exact hs
  exact fend_of this hn hst
end Go.Proofs.Ytmkgcjhimajgiaa


set_option linter.unusedVariables false
set_option linter.unusedSimpArgs false
namespace Go.Proofs.Ytmkgcjhimajgiaa
open Go.RowKit Go.Proofs.YtmkgcjhimajgiaaW.PrintWords Go.Proofs.YtmkgcjhimajgiaaW.PrintLast Go.Conc

/-- What holds all along the making. -/
structure FI (g : Gram) (w : List Int) (s : FS) : Prop where
  lab : ∀ y ∈ s.1,LabOk g w y
  nodup : s.1.Nodup
  le : s.2.length ≤ s.1.length
section
variable {g : Gram} {w : List Int} {most : Int}
theorem fstep_pre (hg : goodF g = true) (hw : w.length ≤ 40) {s : FS} (h : FI g w s) : FI g w (fstep g w most s) ∧ s.1 <+: (fstep g w most s).1 ∧ s.2 <+: (fstep g w most s).2:=by
  unfold fstep
  split
  · rename_i hc
    have hx : s.1.getD s.2.length default ∈ s.1:=by
      rw [List.getD_eq_getElem?_getD,List.getElem?_eq_getElem hc.1]
      exact List.getElem_mem _
    have hgr:=packsF_grow hg hw (h.lab _ hx) s.1
    refine ⟨⟨hgr.all h.lab,hgr.nodup h.nodup,?_⟩,hgr.pre,List.prefix_append _ _⟩
    have:=hgr.pre.length_le
    simp only [List.length_append,List.length_singleton]
    omega
  · exact ⟨h,List.prefix_refl _,List.prefix_refl _⟩
theorem fiter_fi (hg : goodF g = true) (hw : w.length ≤ 40) (hv : symV g w g.terms.length 0 w.length = true) : ∀ k,FI g w (fiter g w most k)
  | 0 => ⟨by intro y hy;have : y ∈ [symLab g.terms.length 0 w.length]:=hy;rw [List.mem_singleton.1 this];exact .sym hv,by show ([symLab _ _ _] : List Lab).Nodup;simp,by show 0 ≤ _;omega⟩
  | k + 1 => (fstep_pre hg hw (fiter_fi hg hw hv k)).1
theorem fiter_pre (hg : goodF g = true) (hw : w.length ≤ 40) (hv : symV g w g.terms.length 0 w.length = true) (k : Nat) : ∀ m,(fiter g w most k).1 <+: (fiter g w most (k + m)).1 ∧ (fiter g w most k).2 <+: (fiter g w most (k + m)).2
  | 0 => ⟨List.prefix_refl _,List.prefix_refl _⟩
  | m + 1 => by
    have h1:=fiter_pre hg hw hv k m
    have h2:=(fstep_pre (most:=most) hg hw (fiter_fi (most:=most) hg hw hv (k + m))).2
    exact ⟨h1.1.trans h2.1,h1.2.trans h2.2⟩
theorem fiter_cnt : ∀ k,(fiter g w most k).2.length = k ∨ ¬ ((fiter g w most k).2.length < (fiter g w most k).1.length ∧ ((fiter g w most k).1.length : Int) ≤ most)
  | 0 => .inl rfl
  | k + 1 => by
    rcases fiter_cnt k with h | h
    · by_cases hc : (fiter g w most k).2.length < (fiter g w most k).1.length ∧ ((fiter g w most k).1.length : Int) ≤ most
      · refine .inl ?_
        show (fstep g w most (fiter g w most k)).2.length = k + 1
        unfold fstep
        rw [if_pos hc]
        simp [h]
      · refine .inr ?_
        have : fiter g w most (k + 1) = fiter g w most k:=by show fstep g w most (fiter g w most k) = _;unfold fstep;rw [if_neg hc]
        rw [this];exact hc
    · refine .inr ?_
      have : fiter g w most (k + 1) = fiter g w most k:=by show fstep g w most (fiter g w most k) = _;unfold fstep;rw [if_neg h]
      rw [this];exact h
theorem fend_full (hg : goodF g = true) (hw : w.length ≤ 40) (hv : symV g w g.terms.length 0 w.length = true) (hm : most ≤ 4000) (h : ((fend g w most).1.length : Int) ≤ most) : (fend g w most).2.length = (fend g w most).1.length:=by
  have hi:=fiter_fi (most:=most) hg hw hv 4001
  have hc:=fiter_cnt (g:=g) (w:=w) (most:=most) 4001
  unfold fend at h ⊢
  have hle:=hi.le
  rcases hc with hc | hc
  · omega
  · have : ¬ (fiter g w most 4001).2.length < (fiter g w most 4001).1.length:=fun h1 => hc ⟨h1,h⟩
    omega
theorem fend_more (hg : goodF g = true) (hw : w.length ≤ 40) (hv : symV g w g.terms.length 0 w.length = true) (h : ((fend g w most).1.length : Int) ≤ most) {m2 : Int} (h2 : ((fend g w most).1.length : Int) ≤ m2) : fend g w m2 = fend g w most:=by
  have key : ∀ k,k ≤ 4001 → fiter g w m2 k = fiter g w most k:=by
    intro k
    induction k with
    | zero => intro _;rfl
    | succ k ih =>
      intro hk
      show fstep g w m2 (fiter g w m2 k) = fstep g w most (fiter g w most k)
      rw [ih (by omega)]
      have hp:=(fiter_pre (most:=most) hg hw hv k (4001 - k)).1.length_le
      rw [show k + (4001 - k) = 4001 by omega] at hp
      unfold fend at h h2
      unfold fstep
      by_cases hc : (fiter g w most k).2.length < (fiter g w most k).1.length
      · rw [if_pos ⟨hc,by omega⟩,if_pos ⟨hc,by omega⟩]
      · rw [if_neg (fun h => hc h.1),if_neg (fun h => hc h.1)]
  exact key 4001 (Nat.le_refl _)
theorem fend_less (hg : goodF g = true) (hw : w.length ≤ 40) (hv : symV g w g.terms.length 0 w.length = true) (h : ((fend g w most).1.length : Int) ≤ most) {m2 : Int} (h2 : m2 < ((fend g w most).1.length : Int)) : m2 < ((fend g w m2).1.length : Int):=by
  by_cases hc : ((fend g w m2).1.length : Int) ≤ m2
  · have:=fend_more hg hw hv hc (m2:=most) (by omega)
    rw [this] at h2
    omega
  · omega
end
def splitV (g : Gram) (w : List Int) (F : List Lab) (r d : Nat) (i j : Int) (l : List Int) : List PackN:=l.map fun k => ⟨r,k,(F.idxOf (aheadL g r (d - 1) i k) : Nat),(F.idxOf (symLab ((rightR g r).getD (d - 1) 0) k j) : Nat)⟩
noncomputable def wholeV (g : Gram) (w : List Int) (F : List Lab) (r : Nat) (i j : Int) : List PackN :=
  if (rightR g r).length = 0 then (if i = j then [⟨r,i,-1,-1⟩] else [])
  else if (rightR g r).length = 1 then (if symV g w ((rightR g r).getD 0 0) i j = true then [⟨r,i,-1,(F.idxOf (symLab ((rightR g r).getD 0 0) i j) : Nat)⟩] else [])
  else splitV g w F r (rightR g r).length i j (pivF g w r (rightR g r).length i j)
noncomputable def packsV (g : Gram) (w : List Int) (F : List Lab) (x : Lab) : List PackN :=
  if x.sym = -1 then splitV g w F x.rule.toNat x.dot.toNat x.i x.j (pivF g w x.rule.toNat x.dot.toNat x.i x.j)
  else (List.range g.rules.length).flatMap fun r => if leftR g r = x.sym then wholeV g w F r x.i x.j else []
end Go.Proofs.Ytmkgcjhimajgiaa

