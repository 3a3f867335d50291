/- Texts P14,P15,Z1,Z2,Z3,Z4,Z5,P16,Z10,P17,joined: contracts of functions of the program,and plain laws;each says what it proves. -/
import Derived.Test.YtphmmppmhphgeaaJV
import Derived.Test.YtphmmppmhphgeaaJE
import Derived.Test.YtphmmppmhphgeaaJN
import Derived.Deep.Cut
import Derived.Test.YtphmmppmhphgeaaJA
/- What a symbol reaches,what is productive,what is useful: closures,in plain Lean. -/
set_option linter.unusedVariables false
set_option linter.unusedSimpArgs false
namespace Go.Proofs.Ytphmmppmhphgeaa

/-! ### productive -/
def termI (g : Gram) : Int → Prop:=fun s => 0 ≤ s ∧ s < (g.terms.length : Int)
def firstT (k n : Nat) : List Bool:=List.replicate k true ++ List.replicate (n - k) false
theorem firstT_len {k n : Nat} (h : k ≤ n) : (firstT k n).length = n:=by simp [firstT];omega
theorem getB_first {k n : Nat} (h : k ≤ n) (s : Int) : getB (firstT k n) s = decide (0 ≤ s ∧ s < (k : Int)):=by
  by_cases h0 : 0 ≤ s
  · obtain ⟨a,rfl⟩:=Int.eq_ofNat_of_zero_le h0
    rw [getB_nat,firstT,List.getD_eq_getElem?_getD,List.getElem?_append,List.length_replicate]
    by_cases ha : a < k
    · rw [if_pos ha,List.getElem?_replicate,if_pos ha];simp;omega
    · rw [if_neg ha,List.getElem?_replicate]
      split <;> simp <;> omega
  · rw [getB_out (Or.inl (by omega))]
    symm;rw [decide_eq_false_iff_not];omega
theorem firstT_set {k n : Nat} (h : k < n) : (firstT k n).set k true = firstT (k + 1) n:=by
  refine List.ext_getElem (by rw [List.length_set,firstT_len (by omega),firstT_len (by omega)]) (fun i h1 h2 => ?_)
  have e1:=getB_first (k:=k) (n:=n) (by omega) (i : Int)
  have e2:=getB_first (k:=k + 1) (n:=n) (by omega) (i : Int)
  rw [getB_at (by simpa using h1)] at e1
  rw [getB_at h2] at e2
  rw [List.getElem_set,e2]
  split
  · subst_vars;symm;simp;omega
  · rw [e1,decide_eq_decide];omega
def prodF (g : Gram) : List Bool:=iter (roundF (hornN g)) (nsym g) (firstT g.terms.length (nsym g))
theorem prodF_is {g : Gram} (h : goodF g = true) : IsDer (hornN g) (termI g) (nsym g) (prodF g) :=
  rounds_is (hornN_in h) (firstT_len (by unfold nsym;omega)) (fun s => by rw [getB_first (by unfold nsym;omega)];simp [termI])
/-! ### reached -/
def oneH (r : Rule) : Horn:=r.right.map fun x => ([r.left],x)
def hornR (ok : Rule → Bool) (l : List Rule) : Horn:=l.flatMap fun r => if ok r = true then oneH r else []
def fromI (a : Int) : Int → Prop:=fun s => s = a
def reachF (g : Gram) (ok : Rule → Bool) (a : Int) : List Bool:=iter (roundF (hornR ok g.rules)) (nsym g) (setB (List.replicate (nsym g) false) a)
theorem hornR_mem {ok : Rule → Bool} {l : List Rule} {x : List Int × Int} (h : x ∈ hornR ok l) : ∃ r ∈ l,ok r = true ∧ x.1 = [r.left] ∧ x.2 ∈ r.right:=by
  obtain ⟨r,hr,hx⟩:=List.mem_flatMap.1 h
  split at hx
  · rename_i hok
    obtain ⟨s,hs,rfl⟩:=List.mem_map.1 hx
    exact ⟨r,hr,hok,rfl,hs⟩
  · cases hx
theorem mem_hornR {ok : Rule → Bool} {l : List Rule} {r : Rule} {s : Int} (hr : r ∈ l) (hok : ok r = true) (hs : s ∈ r.right) : ([r.left],s) ∈ hornR ok l :=
  List.mem_flatMap.2 ⟨r,hr,by rw [if_pos hok];exact List.mem_map.2 ⟨s,hs,rfl⟩⟩
theorem hornR_in {g : Gram} (h : goodF g = true) (ok : Rule → Bool) : InR (nsym g) (hornR ok g.rules):=by
  intro x hx
  obtain ⟨r,hr,_,_,hs⟩:=hornR_mem hx
  exact (goodF_mem h r hr).2.2.2 _ hs
theorem reachF_is {g : Gram} (h : goodF g = true) (ok : Rule → Bool) {a : Int} (h0 : 0 ≤ a) (h1 : a < nsym g) : IsDer (hornR ok g.rules) (fromI a) (nsym g) (reachF g ok a) :=
  rounds_is (hornR_in h ok) (by rw [setB_len];simp) (fun s => by rw [getB_set h0 (by simpa using h1),getB_replicate];simp [fromI])
/-- A row that has the beginning,and with each symbol what its rules have,and nothing else. -/
theorem reach_of {g : Gram} (h : goodF g = true) {ok : Rule → Bool} {a : Int} (h0 : 0 ≤ a) (h1 : a < nsym g) {m : List Bool} (hl : m.length = nsym g) (hs : Sound (hornR ok g.rules) (fromI a) m) (ha : getB m a = true)
    (hc : ∀ r ∈ g.rules,ok r = true → getB m r.left = true → ∀ x ∈ r.right,getB m x = true) : m = reachF g ok a:=by
  refine (IsDer.mk' hl hs ⟨fun s e => by rw [show s = a from e];exact ha,fun x hx k => ?_⟩).unique (reachF_is h ok h0 h1)
  obtain ⟨r,hr,hok,e1,e2⟩:=hornR_mem hx
  rw [e1,allF_one'] at k
  exact hc r hr hok k _ e2
where allF_one' {m : List Bool} {x : Int} : allF m [x] = getB m x:=by simp [allF]
/-- What one symbol's rule sets. -/
def setAll (m : List Bool) (l : List Int) : List Bool:=l.foldl setB m
theorem setAll_len (m : List Bool) (l : List Int) : (setAll m l).length = m.length:=by
  induction l generalizing m with
  | nil => rfl
  | cons x l ih => rw [setAll,List.foldl_cons];exact (ih (setB m x)).trans (setB_len m x)
theorem setAll_take {m : List Bool} {l : List Int} {k : Nat} (h : k < l.length) : setAll m (l.take (k + 1)) = setB (setAll m (l.take k)) (l[k]'h):=by
  rw [setAll,List.take_succ_eq_append_getElem h,List.foldl_append];rfl
theorem setAll_le : ∀ {l : List Int} {m : List Bool},(∀ x ∈ l,0 ≤ x ∧ x < m.length) → LeB m (setAll m l)
  | [],m,_ => LeB.refl m
  | x :: l,m,h => by
    have hx:=h x List.mem_cons_self
    exact (LeB.set m hx.1 hx.2).trans (setAll_le (l:=l) (m:=setB m x) (fun y hy => by rw [setB_len];exact h y (List.mem_cons_of_mem _ hy)))
theorem round_one {l : List Int} {left : Int} : ∀ {m : List Bool},(∀ x ∈ l,0 ≤ x ∧ x < m.length) → roundF (l.map fun x => ([left],x)) m = if getB m left = true then setAll m l else m:=by
  induction l with
  | nil => intro m _;simp [roundF,setAll]
  | cons x l ih =>
    intro m h
    have hx:=h x List.mem_cons_self
    rw [List.map_cons,roundF]
    have ha : allF m [left] = getB m left:=by simp [allF]
    simp only [ha]
    by_cases hg : getB m left = true
    · rw [if_pos hg,if_pos hg,ih (fun y hy => by rw [setB_len];exact h y (List.mem_cons_of_mem _ hy)),if_pos ((LeB.set m hx.1 hx.2).2 _ hg)]
      rfl
    · rw [if_neg hg,if_neg hg,ih (fun y hy => h y (List.mem_cons_of_mem _ hy)),if_neg hg]
def spreadR (ok : Rule → Bool) (m : List Bool) (r : Rule) : List Bool:=if ok r = true ∧ getB m r.left = true then setAll m r.right else m
theorem round_rules {ok : Rule → Bool} {n : Nat} : ∀ {l : List Rule} {m : List Bool},m.length = n → (∀ r ∈ l,∀ x ∈ r.right,0 ≤ x ∧ x < n) → roundF (hornR ok l) m = l.foldl (spreadR ok) m
  | [],m,_,_ => rfl
  | r :: l,m,hl,h => by
    rw [hornR,List.flatMap_cons,roundF_append,List.foldl_cons]
    have hr:=h r List.mem_cons_self
    have e : roundF (if ok r = true then oneH r else []) m = spreadR ok m r:=by
      unfold spreadR
      by_cases hok : ok r = true
      · rw [if_pos hok,oneH,round_one (by rw [hl];exact hr)]
        by_cases hg : getB m r.left = true
        · rw [if_pos hg,if_pos ⟨hok,hg⟩]
        · rw [if_neg hg,if_neg (fun k => hg k.2)]
      · rw [if_neg hok,if_neg (fun k => hok k.1)];rfl
    rw [e]
    refine round_rules ?_ (fun r hr => h r (List.mem_cons_of_mem _ hr))
    unfold spreadR
    split
    · rw [setAll_len];exact hl
    · exact hl
/-! ### useful -/
def allOk : Rule → Bool:=fun _ => true
def prodOk (g : Gram) : Rule → Bool:=fun r => allF (prodF g) r.right
def usefulF (g : Gram) : List Bool:=if getB (prodF g) g.terms.length = true then reachF g (prodOk g) g.terms.length else List.replicate (nsym g) false
end Go.Proofs.Ytphmmppmhphgeaa

/- A queue's way to what is reached,in plain Lean. -/
set_option linter.unusedVariables false
set_option linter.unusedSimpArgs false
namespace Go.Proofs.Ytphmmppmhphgeaa

def addM (m : List Bool) (s : Int) : List Bool:=setB m s
def addQ (m : List Bool) (q : List Int) (s : Int) : List Int:=if getB m s = true then q else q ++ [s]
/-- What a symbol's rules have is there. -/
def Shut (g : Gram) (ok : Rule → Bool) (m : List Bool) (s : Int) : Prop:=∀ r ∈ g.rules,ok r = true → r.left = s → ∀ x ∈ r.right,getB m x = true
theorem Shut.mono {g : Gram} {ok : Rule → Bool} {m m' : List Bool} {s : Int} (h : Shut g ok m s) (k : LeB m m') : Shut g ok m' s:=fun r hr ho hl x hx => k.2 x (h r hr ho hl x hx)
/-- x is under way (or none is: x = -1). -/
structure RC (g : Gram) (ok : Rule → Bool) (a : Int) (n : Nat) (m : List Bool) (q : List Int) (x : Int) : Prop where
  sound : Sound (hornR ok g.rules) (fromI a) m
  here : getB m a = true
  done : ∀ s,getB m s = true → s ∈ q ∨ s = x ∨ Shut g ok m s
  len : m.length = n
  mark : ∀ s ∈ q,getB m s = true
  cur : x = -1 ∨ getB m x = true
theorem RC.start {g : Gram} {ok : Rule → Bool} {a : Int} {n : Nat} (h0 : 0 ≤ a) (h1 : a < n) : RC g ok a n (addM (List.replicate n false) a) (addQ (List.replicate n false) [] a) (-1):=by
  refine ⟨fun s hs => ?_,by rw [addM,getB_set h0 (by simpa using h1)];simp,fun s hs => ?_,by rw [addM,setB_len];simp,fun s hs => ?_,Or.inl rfl⟩
  · rw [addM,getB_set h0 (by simpa using h1),getB_replicate] at hs
    have e : s = a:=by simpa using hs
    exact .init e
  · rw [addM,getB_set h0 (by simpa using h1),getB_replicate] at hs
    left
    rw [addQ,if_neg (by rw [getB_replicate];decide)]
    simpa using hs
  · rw [addQ,if_neg (by rw [getB_replicate];decide)] at hs
    have e : s = a:=by simpa using hs
    subst e
    rw [addM,getB_set h0 (by simpa using h1)];simp
theorem RC.take {g : Gram} {ok : Rule → Bool} {a : Int} {n : Nat} {m : List Bool} {q : List Int} {x : Int} (h : RC g ok a n m (x :: q) (-1)) : RC g ok a n m q x:=by
  refine ⟨h.sound,h.here,fun s hs => ?_,h.len,fun s hs => h.mark s (List.mem_cons_of_mem _ hs),Or.inr (h.mark x List.mem_cons_self)⟩
  rcases h.done s hs with h1 | h1 | h1
  · rcases List.mem_cons.1 h1 with h1 | h1
    · exact Or.inr (Or.inl h1)
    · exact Or.inl h1
  · have:=(getB_in hs).1;omega
  · exact Or.inr (Or.inr h1)
theorem RC.add {g : Gram} {ok : Rule → Bool} {a : Int} {n : Nat} {m : List Bool} {q : List Int} {x : Int} (h : RC g ok a n m q x) {r : Rule} {s : Int} (hr : r ∈ g.rules) (ho : ok r = true) (hl : getB m r.left = true) (hs : s ∈ r.right) (h0 : 0 ≤ s) (h1 : s < n) : RC g ok a n (addM m s) (addQ m q s) x:=by
  have hle : LeB m (addM m s):=LeB.set m h0 (by rw [h.len];exact h1)
  refine ⟨h.sound.set (b:=[r.left]) (mem_hornR hr ho hs) (by simpa [allF] using hl) ⟨h0,by rw [h.len];exact h1⟩,hle.2 _ h.here,fun t ht => ?_,by rw [addM,setB_len];exact h.len,fun t ht => ?_,h.cur.imp_right (fun k => hle.2 _ k)⟩
  by_cases hm : getB m t = true
  · rcases h.done t hm with h2 | h2 | h2
    · left;unfold addQ;split
      · exact h2
      · exact List.mem_append_left _ h2
    · exact Or.inr (Or.inl h2)
    · exact Or.inr (Or.inr (h2.mono hle))
  · rw [addM,getB_set h0 (by rw [h.len];exact h1)] at ht
    have e : t = s:=by
      rw [Bool.or_eq_true,decide_eq_true_eq] at ht
      rcases ht with ht | ht
      · exact ht
      · exact absurd ht hm
    subst e
    left
    rw [addQ,if_neg hm]
    simp
  · unfold addQ at ht
    split at ht
    · exact hle.2 _ (h.mark t ht)
    · rcases List.mem_append.1 ht with ht | ht
      · exact hle.2 _ (h.mark t ht)
      · have e : t = s:=by simpa using ht
        subst e
        rw [addM,getB_set h0 (by rw [h.len];exact h1)];simp
/-- All its rules gone through. -/
theorem RC.shut {g : Gram} {ok : Rule → Bool} {a : Int} {n : Nat} {m : List Bool} {q : List Int} {x : Int} (h : RC g ok a n m q x) (hx : Shut g ok m x) : RC g ok a n m q (-1):=by
  refine ⟨h.sound,h.here,fun s hs => ?_,h.len,h.mark,Or.inl rfl⟩
  rcases h.done s hs with h1 | h1 | h1
  · exact Or.inl h1
  · subst h1;exact Or.inr (Or.inr hx)
  · exact Or.inr (Or.inr h1)
theorem RC.final {g : Gram} (hg : goodF g = true) {ok : Rule → Bool} {a : Int} {n : Nat} (hn : nsym g = n) {m : List Bool} (h : RC g ok a n m [] (-1)) (h0 : 0 ≤ a) (h1 : a < n) : m = reachF g ok a:=by
  refine reach_of hg h0 (by rw [hn];exact h1) (by rw [h.len,hn]) h.sound h.here (fun r hr ho hl x hx => ?_)
  rcases h.done r.left hl with h2 | h2 | h2
  · cases h2
  · have:=(getB_in hl).1;omega
  · exact h2 r hr ho rfl x hx
/-- The first k of a row added. -/
def addsM (m : List Bool) (l : List Int) : List Bool:=l.foldl addM m
def addsQ : List Bool → List Int → List Int → List Int
  | m,q,[] => q
  | m,q,s :: l => addsQ (addM m s) (addQ m q s) l
theorem addsQ_append (m : List Bool) (q l r : List Int) : addsQ m q (l ++ r) = addsQ (addsM m l) (addsQ m q l) r:=by
  induction l generalizing m q with
  | nil => rfl
  | cons s l ih => exact ih _ _
end Go.Proofs.Ytphmmppmhphgeaa

/- The contracts of the small questions of 'useful': how many symbols,whether all of a rule's are so. -/
set_option linter.unusedVariables false
set_option linter.unusedSimpArgs false
namespace Go.Proofs.Ytphmmppmhphgeaa
open Go.RowKit Go.Proofs.YtphmmppmhphgeaaW.PrintWords Go.Proofs.YtphmmppmhphgeaaW.PrintLast

theorem size_c (g : Gram) (A1 A2 A3 : Option Addr) (c1 c2 c3 : Nat) (w : World) {n : Nat} (hn : nsym g = n) (hb : n ≤ 1000000) :
    Calls Try.prog 67 #[.agg #[.slice A1 g.terms.length c1,.slice A2 g.names.length c2,.slice A3 g.rules.length c3]] w fun e w' => e = .returned (.int .i64 (n : Int)) ∧ Below w.heap.size w w':=by
  have HB:=Aside0.mk ((Below.refl w.heap.size w).alloc (Nat.le_refl _) (.cells #[.slice A1 g.terms.length c1,.slice A2 g.names.length c2,.slice A3 g.rules.length c3] 25 (0,0)))
  have e1 : IntKind.i64.wrap ((g.terms.length : Int) + (g.names.length : Int)) = (n : Int):=by unfold nsym at hn;rw [IntWalk.i64_in _ (by omega)];omega
  clear hn
  go_enter Try.func67,Try.ntmps67
  go_wp2
  go_ret
  exact ⟨rfl,HB.out⟩
theorem wholeIn_c (b : Nat) (A : Option Addr) (c n : Nat) (m : List Bool) (s : Int) (w : World) (hb : w.heap[b]? = some (.cells #[.slice A n c] 57 (0,0))) (hr : Kd.bool.C w A n m) (h0 : 0 ≤ s) (h1 : s < m.length) :
    Calls Try.prog 92 #[.int .i64 s,.pointer (some ⟨b,0,none⟩)] w fun e w' => e = .returned (.bool (!getB m s)) ∧ w = w':=by
  obtain ⟨k,rfl⟩:=Int.eq_ofNat_of_zero_le h0
  have hk : k < m.length:=by omega
  have hn:=C_len hr
  obtain ⟨ad,ead,hx⟩:=at_bool hr k hk
  cases ead
  have d1:=(blk_cell hb 0).trans rfl
  rw [← getB_at hk] at hx
  have i2 : (k : Int) < (n : Int):=by omega
  clear hb hr hn h1
  cases hg : getB m (k : Int)
  all_goals
    rw [hg] at hx
    clear hg
    go_enter Try.func92,Try.ntmps92
    go_wp2
    go_ret
    exact ⟨ret_bool (by first | rfl | simp),rfl⟩
theorem pred_whole (b : Nat) (A : Option Addr) (c n : Nat) (m : List Bool) (l : List Int) (w : World) (hb : w.heap[b]? = some (.cells #[.slice A n c] 57 (0,0))) (hr : Kd.bool.C w A n m) (hl : ∀ s ∈ l,0 ≤ s ∧ s < m.length) :
    PredI w (.func (.func 92) #[] #[.pointer (some ⟨b,0,none⟩)]) (fun s => !getB m s) l :=
  ⟨_,_,_,rfl,fun _ _ => by kernel_rfl,fun s hs W hW => (wholeIn_c b A c n m s W (blk_below hb hW) (Kd.C_below hr hW) (hl s hs).1 (hl s hs).2).mono fun e w' h => ⟨h.1,h.2 ▸ Below.refl _ _⟩⟩
theorem any_not (m : List Bool) (l : List Int) : (!(l.any fun s => !getB m s)) = allF m l:=by
  rw [allF,List.all_eq_not_any_not]
set_option maxRecDepth 100000 in
set_option maxHeartbeats 2000000 in
theorem whole_c (A : Option Addr) (c n : Nat) (m : List Bool) (lf : Int) (l : List Int) (B : Option Addr) (d : Nat) (w : World) (hr : Kd.bool.C w A n m) (hs : kInt.C w B l.length l) (hl : ∀ s ∈ l,0 ≤ s ∧ s < m.length) {v : Bool} (hv : allF m l = v) :
    Calls Try.prog 71 #[.slice A n c,.agg #[.int .i64 lf,.slice B l.length d]] w fun e w' => e = .returned (.bool v) ∧ Below w.heap.size w w':=by
  have HB:=Aside0.mk (below_alloc (below_alloc (Below.refl w.heap.size w) (.cells #[.slice A n c] 57 (0,0))) (.cells #[.int .i64 lf,.slice B l.length d] 56 (0,0)))
  have HP:=Aside0.mk (pred_whole w.heap.size A c n m l ((w.alloc (.cells #[.slice A n c] 57 (0,0))).alloc (.cells #[.int .i64 lf,.slice B l.length d] 56 (0,0))) (blk_alloc (blk_new w _) _) (Kd.C_below hr HB.out) hl)
  have HC:=Aside0.mk (Kd.C_below hs HB.out)
  have HV : Aside0 ((l.any fun s => !getB m s) = !v):=⟨by rw [← hv,← any_not];simp⟩
  have hmf : ∀ (fn : Fn) (first cap : Array Value) (w : World),(Instr.makeFunc fn first cap).run Try.prog w = .ok (.func fn first cap) w:=fun _ _ _ _ => rfl
  clear hr hs hl hv
  cases v
  all_goals
    go_enter Try.func71,Try.ntmps71
    go_wp2_with (go_at_call 87;go_loud (refine (containsFuncInt_c _ _ _ _ _ _ HC.out HP.out).mono ?_;rw [HV.out];rintro e w1 ⟨rfl,hb1⟩))
    go_ret
    exact ⟨ret_bool (by first | rfl | simp),below_then HB.out HB.out.size hb1⟩
/-- The question of all rules that may be taken: each. -/
theorem reach1_c (x : Rule) (A : Option Addr) (c : Nat) (w : World) : Calls Try.prog 69 #[.agg #[.int .i64 x.left,.slice A x.right.length c]] w fun e w' => e = .returned (.bool true) ∧ Below w.heap.size w w':=by
  go_enter Try.func69,Try.ntmps69
  go_wp2
  go_ret
  exact ⟨rfl,by first | exact Below.refl _ _ | exact below_alloc (Below.refl _ _) _⟩
theorem pred_all (l : List Rule) (w : World) : PredR w (.func (.func 69) #[] #[]) allOk l :=
  ⟨_,_,_,rfl,fun _ _ => by kernel_rfl,fun x _ W A c _ _ _ => reach1_c x A c W⟩
set_option maxRecDepth 100000 in
set_option maxHeartbeats 2000000 in
theorem useful1_c (b : Nat) (A : Option Addr) (c n : Nat) (m : List Bool) (x : Rule) (B : Option Addr) (d : Nat) (w : World) (hb : w.heap[b]? = some (.cells #[.slice A n c] 57 (0,0))) (hr : Kd.bool.C w A n m) (hs : kInt.C w B x.right.length x.right) (hl : ∀ s ∈ x.right,0 ≤ s ∧ s < m.length) :
    Calls Try.prog 72 #[.agg #[.int .i64 x.left,.slice B x.right.length d],.pointer (some ⟨b,0,none⟩)] w fun e w' => e = .returned (.bool (allF m x.right)) ∧ Below w.heap.size w w':=by
  have HB:=Aside0.mk (below_alloc (Below.refl w.heap.size w) (.cells #[.int .i64 x.left,.slice B x.right.length d] 56 (0,0)))
  have d1:=(blk_cell (blk_below hb HB.out) 0).trans rfl
  have HR:=Aside0.mk hr
  have HS:=Aside0.mk hs
  have HL:=Aside0.mk hl
  obtain ⟨v,hv⟩ : ∃ v,allF m x.right = v:=⟨_,rfl⟩
  rw [hv]
  have HV:=Lib.hid hv
  clear hb hr hs hl hv
  go_enter Try.func72,Try.ntmps72
  go_wp2_with (go_at_call 71;go_loud (refine (whole_c A c n m x.left x.right B d _ (Kd.C_below HR.out HB.out) (Kd.C_below HS.out HB.out) HL.out HV.out).mono ?_;rintro e w1 ⟨rfl,hb1⟩))
  go_ret
  exact ⟨rfl,below_then HB.out HB.out.size hb1⟩
theorem pred_useful (b : Nat) (A : Option Addr) (c n : Nat) (m : List Bool) (l : List Rule) (w : World) (hb : w.heap[b]? = some (.cells #[.slice A n c] 57 (0,0))) (hr : Kd.bool.C w A n m) (hl : ∀ r ∈ l,∀ s ∈ r.right,0 ≤ s ∧ s < m.length) :
    PredR w (.func (.func 72) #[] #[.pointer (some ⟨b,0,none⟩)]) (fun r => allF m r.right) l :=
  ⟨_,_,_,rfl,fun _ _ => by kernel_rfl,fun x hx W B d hW _ hs => useful1_c b A c n m x B d W (blk_below hb hW) (Kd.C_below hr hW) hs (hl x hx)⟩
end Go.Proofs.Ytphmmppmhphgeaa

/- The contract of 'add' of 'useful.reach': a symbol is marked,and queued. -/
set_option linter.unusedVariables false
set_option linter.unusedSimpArgs false
namespace Go.Proofs.Ytphmmppmhphgeaa
open Go.RowKit Go.Proofs.YtphmmppmhphgeaaW.PrintWords Go.Proofs.YtphmmppmhphgeaaW.PrintLast Go.Conc

/-- What is marked (at b,its slice in a box behind it),what is queued (behind these,its channel in a box behind it),what was taken. -/
structure RQ (base : Nat) (w0 W : World) (b n : Nat) (m : List Bool) (q : List Int) (r : Nat) : Prop where
  bb : BB W b m
  o : W.heap[b + 1]? = some (.cells #[.slice (some ⟨b,0,none⟩) n n] 57 (0,0))
  ch : ∃ s,W.heap[b + 2]? = some (.chan n (q.map (Value.int .i64)).toArray false s r false)
  k : W.heap[b + 3]? = some (.cells #[.chan (some (b + 2))] 94 (0,0))
  below : Below base w0 W
  lo : base ≤ b
  len : m.length = n
  cnt : q.length + r = cnt m
section
variable {base : Nat} {w0 W W1 : World} {b n r : Nat} {m : List Bool} {q : List Int}
theorem RQ.below_ (h : RQ base w0 W b n m q r) (hb : Below W.heap.size W W1) (hs : base ≤ W.heap.size) : RQ base w0 W1 b n m q r :=
  ⟨h.bb.below hb,blk_below h.o hb,by obtain ⟨s,hc⟩:=h.ch;exact ⟨s,heap_below hc hb⟩,blk_below h.k hb,below_then h.below hs hb,h.lo,h.len,h.cnt⟩
theorem RQ.size (h : RQ base w0 W b n m q r) : base ≤ W.heap.size:=by
  have:=(Array.getElem?_eq_some_iff.1 h.k).1
  have:=h.lo
  omega
theorem RQ.add {s0 s' : Nat} (h : RQ base w0 W b n m q r) (hch : W.heap[b + 2]? = some (.chan n (q.map (Value.int .i64)).toArray false s0 r false)) {k : Nat} (hk : k < n) (hg : getB m (k : Int) = false) :
    RQ base w0 ((W.setCell ⟨b,k,none⟩ (.bool true)).setChan (b + 2) n ((q.map (Value.int .i64)).toArray.push (.int .i64 (k : Int))) false s' r false) b n (setB m (k : Int)) (q ++ [(k : Int)]) r:=by
  have h0:=(Array.getElem?_eq_some_iff.1 h.k).1
  have hl:=h.lo
  refine ⟨chan_far (h.bb.set k true) (by omega),chan_far (blk_far h.o (by show b + 1 ≠ b;omega) _) (by omega),⟨s',by
    have:=heap_setChan (W.setCell ⟨b,k,none⟩ (.bool true)) (b + 2) n ((q.map (Value.int .i64)).toArray.push (.int .i64 (k : Int))) false s' r false (by simp [World.setCell];omega)
    rw [this];simp⟩,chan_far (blk_far h.k (by show b + 3 ≠ b;omega) _) (by omega),below_setChan (h.below.setCell (p:=⟨b,k,none⟩) hl _) (by omega) _ _ _ _ _ _,hl,by rw [setB_len];exact h.len,?_⟩
  rw [cnt_set (by omega) (by rw [h.len];omega) hg,← h.cnt]
  simp
  omega
theorem RQ.took {s0 : Nat} {x : Int} (h : RQ base w0 W b n m (x :: q) r) :
    RQ base w0 (W.setChan (b + 2) n (q.map (Value.int .i64)).toArray false s0 (r + 1) false) b n m q (r + 1):=by
  have h0:=(Array.getElem?_eq_some_iff.1 h.k).1
  have hl:=h.lo
  refine ⟨chan_far h.bb (by omega),chan_far h.o (by omega),⟨s0,heap_setChan W (b + 2) n (q.map (Value.int .i64)).toArray false s0 (r + 1) false (by omega)⟩,chan_far h.k (by omega),below_setChan h.below (by omega) _ _ _ _ _ _,hl,h.len,?_⟩
  have:=h.cnt
  simp at this
  omega
theorem RQ.rcvd (h : RQ base w0 W b n m q r) : rcvd W (b + 2) = r:=by
  obtain ⟨s,h⟩:=h.ch
  unfold Go.Proofs.Ytphmmppmhphgeaa.rcvd
  rw [h]
end
set_option maxRecDepth 100000 in
set_option maxHeartbeats 2000000 in
theorem add_c (base : Nat) (w0 : World) (b n : Nat) (m : List Bool) (q : List Int) (r : Nat) (s : Int) (W : World) (h : RQ base w0 W b n m q r) (h0 : 0 ≤ s) (h1 : s < n) :
    Calls Try.prog 91 #[.int .i64 s,.pointer (some ⟨b + 1,0,none⟩),.pointer (some ⟨b + 3,0,none⟩)] W fun e W' => e = .returned (.tuple #[]) ∧ RQ base w0 W' b n (addM m s) (addQ m q s) r:=by
  obtain ⟨k,rfl⟩:=Int.eq_ofNat_of_zero_le h0
  have hk : k < n:=by omega
  have H:=Aside0.mk h
  have a1:=(blk_cell h.o 0).trans rfl
  have a2:=(blk_cell h.k 0).trans rfl
  clear h
  cases hg : getB m (k : Int)
  · have hz:=H.out.bb.cell' (by rw [H.out.len];exact hk) hg
    have fz:=H.out.bb.fz k
    have HG:=Lib.hid hg
    clear hg
    refine calls_of_wpN Try.func91 rfl ?_
    simp only [Try.ntmps91,List.size_toArray,List.length_cons,List.length_nil,Nat.reduceAdd,Nat.reduceSub,Array.replicate_succ,Array.replicate_zero,List.push_toArray,List.append_toArray,List.nil_append,List.cons_append]
    refine wpN_seq_k (fun K hK => ?_)
    go_wp2
    refine wpN_cond (t:=true) rfl ?_
    simp only [if_true]
    refine wpN_seq_k (fun K hK => ?_)
    go_wp2
    obtain ⟨s0,hch⟩:=H.out.ch
    have hroom : ((q.map (Value.int .i64)).toArray).size < n:=by
      have h1:=H.out.cnt
      have h3:=cnt_le (setB m (k : Int))
      rw [cnt_set (by omega) (by rw [H.out.len];omega) HG.out,setB_len,H.out.len] at h3
      simp
      omega
    have a3 : (W.setCell ⟨b,k,none⟩ (.bool true)).cell? ⟨b + 3,0,none⟩ = some (.chan (some (b + 2))):=by
      rw [cell_far (by show b + 3 ≠ b;omega)];exact a2
    refine wpN_region ?_
    show inN _ _ [0,1,2] _ _ _
    refine inN_value (o:=?o1) (v:=?v1) (w':=?w1) (by simp only [List.getElem?_toArray,List.getElem?_cons_zero,List.getElem?_cons_succ];rfl) (by rfl) ?h1 ?_
    case h1 => (go_simp;first | rfl | (constructor;rfl;rfl))
    simp only [Act.put,List.setIfInBounds_toArray,List.set_cons_zero,List.set_cons_succ]
    refine inN_value (o:=?o2) (v:=?v2) (w':=?w2) (by simp only [List.getElem?_toArray,List.getElem?_cons_zero,List.getElem?_cons_succ];rfl) (by rfl) ?h2 ?_
    case h2 => (go_simp;first | rfl | (constructor;rfl;rfl))
    simp only [Act.put,List.setIfInBounds_toArray,List.set_cons_zero,List.set_cons_succ]
    refine inN_send (c:=b + 2) (cap:=n) (buf:=(q.map (Value.int .i64)).toArray) (s:=s0) (r:=r) (tm:=false) (o:=?o3) (v:=?v3) (z':=?z3) (w₁:=?w3) (by simp only [List.getElem?_toArray,List.getElem?_cons_zero,List.getElem?_cons_succ];rfl) (by rfl) ?h3 ?c3 hroom ?_
    case h3 => (go_simp;first | rfl | (constructor;rfl;rfl))
    case c3 => exact heap_far hch (by show b + 2 ≠ b;omega) _
    simp only [Act.put,List.setIfInBounds_toArray,List.set_cons_zero,List.set_cons_succ]
    refine inN_nil ?_
    refine bodyPost_end (results_none rfl _ _ _) rfl ?_
    exact ⟨rfl,by rw [addM,addQ,if_neg (by rw [HG.out];decide)];exact H.out.add hch hk HG.out⟩
  · have hz:=H.out.bb.cell' (by rw [H.out.len];exact hk) hg
    have HG:=Lib.hid hg
    clear hg
    go_enter Try.func91,Try.ntmps91
    go_wp2
    refine bodyPost_end (results_none rfl _ _ _) rfl ?_
    exact ⟨rfl,by rw [addM,addQ,if_pos HG.out,setB_self HG.out];exact H.out⟩
end Go.Proofs.Ytphmmppmhphgeaa

/- The contract of what a symbol reaches,by rules that may be taken. -/
set_option linter.unusedVariables false
set_option linter.unusedSimpArgs false
namespace Go.Proofs.Ytphmmppmhphgeaa
open Go.RowKit Go.Proofs.YtphmmppmhphgeaaW.PrintWords Go.Proofs.YtphmmppmhphgeaaW.PrintLast Go.Conc

structure RA (wg W : World) (b n : Nat) (g : Gram) (ok : Rule → Bool) (a : Int) (m : List Bool) (q : List Int) (r : Nat) (x : Int) : Prop where
  rq : RQ wg.heap.size wg W b n m q r
  rc : RC g ok a n m q x
theorem RA.below_ {wg W W1 : World} {b n : Nat} {g : Gram} {ok : Rule → Bool} {a : Int} {m : List Bool} {q : List Int} {r : Nat} {x : Int} (h : RA wg W b n g ok a m q r x) (hb : Below W.heap.size W W1) : RA wg W1 b n g ok a m q r x :=
  ⟨h.rq.below_ hb h.rq.size,h.rc⟩
def ROut (qg : Nat) (wg : World) (b n : Nat) (g : Gram) (ok : Rule → Bool) (a0 : Int) (fv : Value) (a : Act) (W : World) : Prop :=
  ∃ (u0 u1 u4 u5 u10 u11 u12 u13 u14 u15 u16 u17 u18 u19 u20 u21 u22 u23 u24 u25 u26 u27 u28 u29 u30 u31 u32 u33 u34 u35 u36 u37 u38 u39 u40 u41 u42 u43 u44 u45 u46 u47 u48 u49 u50 u51 u52 u53 u54 u55 u56 u57 u58 u59 : Value) (m : List Bool) (q : List Int) (r : Nat),a = { tmps:=(List.toArray (u0 :: u1 :: fv :: .pointer (some ⟨qg,0,none⟩) :: u4 :: u5 :: .slice none 0 0 :: .pointer (some ⟨b + 1,0,none⟩) :: .pointer (some ⟨b + 3,0,none⟩) :: .func (.func 91) #[] #[.pointer (some ⟨b + 1,0,none⟩),.pointer (some ⟨b + 3,0,none⟩)] :: u10 :: u11 :: u12 :: u13 :: u14 :: u15 :: u16 :: u17 :: u18 :: u19 :: u20 :: u21 :: u22 :: u23 :: u24 :: u25 :: u26 :: u27 :: u28 :: u29 :: u30 :: u31 :: u32 :: u33 :: u34 :: u35 :: u36 :: u37 :: u38 :: u39 :: u40 :: u41 :: u42 :: u43 :: u44 :: u45 :: u46 :: u47 :: u48 :: u49 :: u50 :: u51 :: u52 :: u53 :: u54 :: u55 :: u56 :: u57 :: u58 :: u59 :: [])),defers:=[] } ∧ RA wg W b n g ok a0 m q r (-1)
set_option maxRecDepth 100000 in
set_option maxHeartbeats 8000000 in
theorem reach_c (g : Gram) (A1 A2 A3 : Option Addr) (c1 c2 c3 : Nat) (a0 : Int) (fv : Value) (ok : Rule → Bool) (w : World) (hg : RepG w g A1 A2 A3 c1 c2 c3) (hgd : goodF g = true) {n : Nat} (hn : nsym g = n) (h0 : 0 ≤ a0) (h1 : a0 < n) (hp : PredR w fv ok g.rules) :
    Calls Try.prog 68 #[.agg #[.slice A1 g.terms.length c1,.slice A2 g.names.length c2,.slice A3 g.rules.length c3],.int .i64 a0,fv] w fun e w' => (∃ b,e = .returned (.slice (some ⟨b,0,none⟩) n n) ∧ BB w' b (reachF g ok a0) ∧ w.heap.size ≤ b) ∧ Below w.heap.size w w':=by
  obtain ⟨q1,q2,q3,q4⟩:=goodF_small hgd
  have hn80 : n ≤ 80:=by rw [← hn];unfold nsym;omega
  obtain ⟨fi,first,cap,rfl,hcf,hcall⟩:=hp.ex
  have HCF:=Aside0.mk hcf
  have HCALL:=Aside0.mk hcall
  have HGD:=Aside0.mk hgd
  have HN:=Aside0.mk hn
  have HMEM:=Aside0.mk (goodF_mem hgd)
  have HB:=Aside0.mk ((Below.refl w.heap.size w).alloc (Nat.le_refl _) (.cells #[.slice A1 g.terms.length c1,.slice A2 g.names.length c2,.slice A3 g.rules.length c3] 25 (0,0)))
  have HG0:=Aside0.mk hg
  obtain ⟨wg,hwg⟩ : ∃ wg : World,wg = w.alloc (.cells #[.slice A1 g.terms.length c1,.slice A2 g.names.length c2,.slice A3 g.rules.length c3] 25 (0,0)):=⟨_,rfl⟩
  have HP0:=Aside0.mk (blk_new w (.cells #[.slice A1 g.terms.length c1,.slice A2 g.names.length c2,.slice A3 g.rules.length c3] 25 (0,0)))
  rw [← hwg] at HB HP0
  have HWG:=Lib.hid hwg
  have hsg : wg.heap.size = w.heap.size + 1:=by rw [hwg];simp
  have HSG:=Lib.hid hsg
  clear hwg hsg
  have hmk:=print_make_of (P:=Try.prog) 57 4 (.bool false) 1 Try.underlying57 (by kernel_rfl) rfl (by decide) n (by omega)
  have hmc:=mk_chan n (by omega)
  have hmf : ∀ (fn : Fn) (first cap : Array Value) (w : World),(Instr.makeFunc fn first cap).run Try.prog w = .ok (.func fn first cap) w:=fun _ _ _ _ => rfl
  clear hg hgd hn hp hcf hcall
  refine calls_of_wpN Try.func68 rfl ?_
  simp only [Try.ntmps68,List.size_toArray,List.length_cons,List.length_nil,Nat.reduceAdd,Nat.reduceSub,Array.replicate_succ,Array.replicate_zero,List.push_toArray,List.append_toArray,List.nil_append,List.cons_append]
  refine wpN_seq_k (fun K hK => ?_)
  go_wp2
  simp only [← HWG.out]
  have a1:=(blk_cell HP0.out 0).trans rfl
  have a2:=(blk_cell HP0.out 1).trans rfl
  have a3:=(blk_cell HP0.out 2).trans rfl
  refine wpN_seq_k (fun K hK => ?_)
  go_wp2_with (go_at_call 67;go_loud (refine (size_c g A1 A2 A3 c1 c2 c3 _ HN.out (by omega)).mono ?_;rintro e w1 ⟨rfl,hb1⟩))
  have HB1:=Aside0.mk hb1
  clear hb1 hmk a1 a2 a3
  refine wpN_seq_k (fun K hK => ?_)
  go_wp2
  clear hmc
  obtain ⟨W4,hW4⟩ : ∃ W4,W4 = (((w1.alloc (.cells (madeCells #[.bool false] n) 4)).alloc (.cells #[.slice (some ⟨w1.heap.size,0,none⟩) n n] 57)).alloc (.chan n #[] false 0 0 false)).alloc (.cells #[.chan (some (w1.heap.size + 1 + 1))] 94):=⟨_,rfl⟩
  have HRQ : Aside0 (RQ wg.heap.size wg W4 w1.heap.size n (List.replicate n false) [] 0):=⟨by
    rw [hW4]
    have h1:=blk_new (w1.alloc (.cells (madeCells #[.bool false] n) 4)) (.cells #[.slice (some ⟨w1.heap.size,0,none⟩) n n] 57)
    have h2:=blk_new ((w1.alloc (.cells (madeCells #[.bool false] n) 4)).alloc (.cells #[.slice (some ⟨w1.heap.size,0,none⟩) n n] 57)) (.chan n #[] false 0 0 false)
    have h3:=blk_new (((w1.alloc (.cells (madeCells #[.bool false] n) 4)).alloc (.cells #[.slice (some ⟨w1.heap.size,0,none⟩) n n] 57)).alloc (.chan n #[] false 0 0 false)) (.cells #[.chan (some (w1.heap.size + 1 + 1))] 94)
    simp only [World.size_alloc] at h1 h2 h3
    have hs1:=HB1.out.size
    refine ⟨(((BB.new w1 n).alloc _).alloc _).alloc _,blk_alloc (blk_alloc h1 _) _,⟨0,heap_below h2 (below_alloc (Below.refl _ _) _)⟩,h3,?_,hs1,by simp,by rw [cnt_replicate];rfl⟩
    exact (((HB1.out.alloc HB1.out.size _).alloc (by simp;omega) _).alloc (by simp;omega) _).alloc (by simp;omega) _⟩
  rw [← hW4]
  clear hW4
  obtain ⟨b,hb⟩ : ∃ b,b = w1.heap.size:=⟨_,rfl⟩
  rw [← hb] at HRQ ⊢
  simp only [show b + 1 + 1 + 1 = b + 3 from rfl,show b + 1 + 1 = b + 2 from rfl]
  clear hb HB1
  refine wpN_seq_k (fun K hK => ?_)
  go_wp2
  refine wpN_seq_k (fun K hK => ?_)
  go_wp2_with (go_at_call 91;go_loud (refine (add_c wg.heap.size wg b n _ _ 0 a0 _ HRQ.out h0 h1).mono ?_;rintro e W5 ⟨rfl,hrq⟩))
  have HRA : Aside0 (RA wg W5 b n g ok a0 (addM (List.replicate n false) a0) (addQ (List.replicate n false) [] a0) 0 (-1)):=⟨⟨hrq,RC.start h0 h1⟩⟩
  clear hrq HRQ
  refine wpN_block ?_
  refine wpN_loop (ROut w.heap.size wg b n g ok a0 (.func (.func fi) first cap)) (fun a W => n - rcvd W (b + 2)) ?_ ?_
  · exact ⟨_,_,_,_,_,_,_,_,_,_,_,_,_,_,_,_,_,_,_,_,_,_,_,_,_,_,_,_,_,_,_,_,_,_,_,_,_,_,_,_,_,_,_,_,_,_,_,_,_,_,_,_,_,_,_,_,_,rfl,HRA.out⟩
  clear HRA
  rintro _ W ⟨u0,u1,u4,u5,u10,u11,u12,u13,u14,u15,u16,u17,u18,u19,u20,u21,u22,u23,u24,u25,u26,u27,u28,u29,u30,u31,u32,u33,u34,u35,u36,u37,u38,u39,u40,u41,u42,u43,u44,u45,u46,u47,u48,u49,u50,u51,u52,u53,u54,u55,u56,u57,u58,u59,m,q,r,rfl,hs⟩ K hK
  have HS:=Aside0.mk hs
  clear hs
  have a2:=(blk_cell HS.out.rq.k 0).trans rfl
  have a1:=(blk_cell HS.out.rq.o 0).trans rfl
  refine wpN_block ?_
  refine wpN_seq_k (fun K1 hK1 => ?_)
  go_wp2
  refine wpN_seq_n (fun K1 hK1 => ?_)
  refine wpN_region ?_
  show inN _ _ [0,1,2] _ _ _
  cases q with
  | nil =>
    obtain ⟨s0,hch⟩:=HS.out.rq.ch
    rw [show (([] : List Int).map (Value.int .i64)).toArray = #[] from rfl] at hch
    refine inN_default (c:=b + 2) (cap:=n) (s:=s0) (r:=r) (tm:=false) (o:=?o1) (z:=?z1) (w₁:=?w1) (by simp only [List.getElem?_toArray,List.getElem?_cons_zero,List.getElem?_cons_succ];rfl) (by rfl) ?h1 ?c1 ?_
    case h1 => (go_simp;first | rfl | (constructor;rfl;rfl))
    case c1 => exact hch
    simp only [Act.put,List.setIfInBounds_toArray,List.set_cons_zero,List.set_cons_succ]
    refine inN_value (o:=?o2) (v:=?v2) (w':=?w2) (by simp only [List.getElem?_toArray,List.getElem?_cons_zero,List.getElem?_cons_succ];rfl) (by rfl) ?h2 ?_
    case h2 => (go_simp;first | rfl | (constructor;rfl;rfl))
    simp only [Act.put,List.setIfInBounds_toArray,List.set_cons_zero,List.set_cons_succ]
    refine inN_value (o:=?o3) (v:=?v3) (w':=?w3) (by simp only [List.getElem?_toArray,List.getElem?_cons_zero,List.getElem?_cons_succ];rfl) (by rfl) ?h3 ?_
    case h3 => (go_simp;first | rfl | (constructor;rfl;rfl))
    simp only [Act.put,List.setIfInBounds_toArray,List.set_cons_zero,List.set_cons_succ]
    refine inN_nil ?_
    simp only [Exit.inBlock,Exit.then]
    refine hK1 _ _ ?_
    refine wpN_of_wp ?_
    have hm:=RC.final HGD.out HN.out HS.out.rc h0 h1
    have HE : Aside0 (BB W b (reachF g ok a0)):=⟨by rw [← hm];exact HS.out.rq.bb⟩
    have HL:=Aside0.mk (Nat.le_trans HB.out.size HS.out.rq.lo)
    clear hm hch
    go_wp2
    go_ret
    exact ⟨⟨b,rfl,HE.out,HL.out⟩,below_then HB.out HB.out.size HS.out.rq.below⟩
  | cons x q =>
    obtain ⟨s0,hch⟩:=HS.out.rq.ch
    refine inN_take (c:=b + 2) (cap:=n) (s:=s0) (r:=r) (tm:=false) (closed:=false) (buf:=((x :: q).map (Value.int .i64)).toArray) (o:=?o4) (z:=?z4) (w₁:=?w4) (by simp only [List.getElem?_toArray,List.getElem?_cons_zero,List.getElem?_cons_succ];rfl) (by rfl) ?h4 ?c4 (by simp) ?_
    case h4 => (go_simp;first | rfl | (constructor;rfl;rfl))
    case c4 => exact hch
    simp only [Act.put,List.setIfInBounds_toArray,List.set_cons_zero,List.set_cons_succ]
    refine inN_value (o:=?o5) (v:=?v5) (w':=?w5) (by simp only [List.getElem?_toArray,List.getElem?_cons_zero,List.getElem?_cons_succ];rfl) (by rfl) ?h5 ?_
    case h5 => (go_simp;first | rfl | (constructor;rfl;rfl))
    simp only [Act.put,List.setIfInBounds_toArray,List.set_cons_zero,List.set_cons_succ]
    refine inN_value (o:=?o6) (v:=?v6) (w':=?w6) (by simp only [List.getElem?_toArray,List.getElem?_cons_zero,List.getElem?_cons_succ];rfl) (by rfl) ?h6 ?_
    case h6 => (go_simp;first | rfl | (constructor;rfl;rfl))
    simp only [Act.put,List.setIfInBounds_toArray,List.set_cons_zero,List.set_cons_succ]
    refine inN_nil ?_
    simp only [Exit.inBlock,Exit.then]
    refine hK1 _ _ ?_
    refine wpN_of_wp ?_
    rw [show ((x :: q).map (Value.int .i64)).toArray.getD 0 undef = .int .i64 x from rfl,show List.take q.length (q.map (Value.int .i64)) = q.map (Value.int .i64) from List.take_of_length_le (by simp)]
    simp only [goInt]
    have HT : Aside0 (RA wg (W.setChan (b + 2) n (q.map (Value.int .i64)).toArray false s0 (r + 1) false) b n g ok a0 m q (r + 1) x):=⟨⟨HS.out.rq.took,HS.out.rc.take⟩⟩
    have hx0 : getB m x = true:=HS.out.rc.mark x List.mem_cons_self
    have hxm:=(getB_in hx0).1
    clear hx0
    obtain ⟨WT,hWT⟩ : ∃ WT,WT = W.setChan (b + 2) n (q.map (Value.int .i64)).toArray false s0 (r + 1) false:=⟨_,rfl⟩
    rw [← hWT] at HT ⊢
    have hr1 : r < n:=by
      have h1:=HS.out.rq.cnt
      have h3:=cnt_le m
      rw [HS.out.rq.len] at h3
      simp at h1
      omega
    have HLT : Aside0 (n - (r + 1) < n - rcvd W (b + 2)):=⟨by rw [HS.out.rq.rcvd];omega⟩
    have b1:=(blk_cell (blk_below HP0.out HT.out.rq.below) 0).trans rfl
    have b3:=(blk_cell (blk_below HP0.out HT.out.rq.below) 2).trans rfl
    clear hch hWT a1 a2 HS hr1
    go_wp2
    clear b1 b3
    go_loopw [34] (fun jv wr => ∃ (j : Nat) (m' : List Bool) (q' : List Int),j ≤ g.rules.length ∧ jv = .int .i64 j ∧ Aside0 (RA wg wr b n g ok a0 m' q' (r + 1) x) ∧ Aside0 (∀ r ∈ g.rules.take j,ok r = true → r.left = x → ∀ y ∈ r.right,getB m' y = true)) (fun jv _ => g.rules.length - (intOf jv).toNat)
    case atStart => exact ⟨0,_,_,Nat.zero_le _,rfl,HT,⟨fun r hr => by simp at hr⟩⟩
    case round =>
      clear HT
      obtain ⟨j,m',q',hj,rfl,HR,HD⟩:=hrel
      rename World => wi
      by_cases hlt : j < g.rules.length
      · obtain ⟨ad,B1,d1,ead,hx0,hy0,hd1,hC1⟩:=at_rule HG0.out.rules j hlt
        cases ead
        have hbw:=below_then HB.out HB.out.size HR.out.rq.below
        have hx:=pw_cell_below hbw hx0
        have hy:=pw_cell_below hbw hy0
        have HR2:=Aside0.mk (HR.out.below_ (below_alloc (Below.refl _ _) (.cells #[.int .i64 (g.rules[j]'hlt).left,.slice B1 (g.rules[j]'hlt).right.length d1] 56 (0,0))))
        have HBW2:=Aside0.mk (below_then HB.out HB.out.size HR2.out.rq.below)
        have HC2:=Aside0.mk (Kd.C_below hC1 HBW2.out)
        have HML:=Aside0.mk (HMEM.out (g.rules[j]'hlt) (List.getElem_mem _))
        have HCA:=Aside0.mk (HCALL.out (g.rules[j]'hlt) (List.getElem_mem _))
        have HTK:=Lib.hid (List.take_succ_eq_append_getElem hlt)
        have HIN:=Aside0.mk (List.getElem_mem hlt)
        have HN1:=Aside0.mk (blk_new wi (.cells #[.int .i64 (g.rules[j]'hlt).left,.slice B1 (g.rules[j]'hlt).right.length d1] 56 (0,0)))
        obtain ⟨xr,hxr⟩ : ∃ xr,xr = g.rules[j]'hlt:=⟨_,rfl⟩
        rw [← hxr] at hx hy hd1 hC1 HR2 HBW2 HC2 HML HCA HTK HIN HN1
        have HD1:=Aside0.mk hd1
        have HCW:=Aside0.mk hC1
        have hr8:=HML.out.2.2.1
        have i2 : (j : Int) < (g.rules.length : Int):=by omega
        clear hxr hx0 hy0 hd1 hC1 hbw
        by_cases hl : xr.left = x
        · subst hl
          cases hok : ok xr
          · have hcf:=HCF.out
            go_wp2_with (refine (HCA.out _ B1 d1 HBW2.out HD1.out HC2.out).mono ?_;rw [hok];rintro e w5 ⟨rfl,hb5⟩)
            have HR5:=Aside0.mk (HR2.out.below_ hb5)
            have HOK:=Lib.hid hok
            clear hok hb5
            go_roundw
            case rel => exact ⟨j + 1,m',q',by omega,by go_num,HR5,⟨fun r hr ho => by
              rw [HTK.out,List.mem_append] at hr
              rcases hr with hr | hr
              · exact HD.out r hr ho
              · rw [List.mem_singleton.1 hr,HOK.out] at ho;cases ho⟩⟩
            case measure => simp [intOf];omega
          · have hcf:=HCF.out
            go_wp2_with (refine (HCA.out _ B1 d1 HBW2.out HD1.out HC2.out).mono ?_;rw [hok];rintro e w5 ⟨rfl,hb5⟩;have d0:=(blk_cell (blk_below HN1.out hb5) 1).trans rfl)
            have HR5:=Aside0.mk (HR2.out.below_ hb5)
            have HCU : Aside0 (getB m' xr.left = true):=⟨by
              rcases HR5.out.rc.cur with h | h
              · omega
              · exact h⟩
            have HOK:=Lib.hid hok
            clear hok hb5 hcf d0
            go_loopw [51] (fun kv wr => ∃ (k : Nat) (m2 : List Bool) (q2 : List Int),k ≤ xr.right.length ∧ kv = .int .i64 k ∧ Aside0 (RA wg wr b n g ok a0 m2 q2 (r + 1) xr.left) ∧ Aside0 (LeB m' m2) ∧ Aside0 (∀ y ∈ xr.right.take k,getB m2 y = true)) (fun kv _ => xr.right.length - (intOf kv).toNat)
            case atStart => exact ⟨0,_,_,Nat.zero_le _,rfl,HR5,⟨LeB.refl _⟩,⟨fun y hy => by simp at hy⟩⟩
            case round =>
              clear HR5 HR2 HC2 HBW2 HN1
              obtain ⟨k,m2,q2,hk,rfl,HR,HLE,HY⟩:=hrel
              rename World => wk
              by_cases hkl : k < xr.right.length
              · obtain ⟨bd,ebd,hyk⟩:=at_int (Kd.C_below HCW.out (below_then HB.out HB.out.size HR.out.rq.below)) k hkl
                cases ebd
                have k2 : (k : Int) < (xr.right.length : Int):=by omega
                have hsy:=HML.out.2.2.2 (xr.right[k]'hkl) (List.getElem_mem _)
                have HTK2:=Lib.hid (List.take_succ_eq_append_getElem hkl)
                have HI2:=Aside0.mk (List.getElem_mem hkl)
                obtain ⟨y,hy2⟩ : ∃ y,y = xr.right[k]'hkl:=⟨_,rfl⟩
                rw [← hy2] at hyk hsy HTK2 HI2
                rw [HN.out] at hsy
                clear hy2
                have HSY:=Aside0.mk hsy
                clear hsy
                go_wp2_with (go_at_call 91;go_loud (refine (add_c wg.heap.size wg b n _ _ (r + 1) y _ HR.out.rq HSY.out.1 HSY.out.2).mono ?_;rintro e w6 ⟨rfl,hrq⟩))
                have HR6 : Aside0 (RA wg w6 b n g ok a0 (addM m2 y) (addQ m2 q2 y) (r + 1) xr.left):=⟨⟨hrq,HR.out.rc.add HIN.out HOK.out (HLE.out.2 _ HCU.out) HI2.out HSY.out.1 HSY.out.2⟩⟩
                have HL6 : Aside0 (LeB m2 (addM m2 y)):=⟨LeB.set m2 HSY.out.1 (by rw [HR.out.rc.len];exact HSY.out.2)⟩
                have HY6 : Aside0 (∀ z ∈ xr.right.take (k + 1),getB (addM m2 y) z = true):=⟨fun z hz => by
                  rw [HTK2.out,List.mem_append] at hz
                  rcases hz with hz | hz
                  · exact HL6.out.2 _ (HY.out z hz)
                  · rw [List.mem_singleton.1 hz,addM,getB_set HSY.out.1 (by rw [HR.out.rc.len];exact HSY.out.2)];simp⟩
                clear hrq
                go_roundw
                case rel => exact ⟨k + 1,_,_,by omega,by go_num,HR6,⟨HLE.out.trans HL6.out⟩,HY6⟩
                case measure => simp [intOf];omega
              · have HR7:=HR
                have hke : xr.right.take k = xr.right:=List.take_of_length_le (by omega)
                rw [hke] at HY
                clear hke
                go_wp2
                go_roundw
                case rel => exact ⟨j + 1,m2,q2,by omega,by go_num,HR7,⟨fun r hr ho hrl y hy => by
                  rw [HTK.out,List.mem_append] at hr
                  rcases hr with hr | hr
                  · exact HLE.out.2 _ (HD.out r hr ho hrl y hy)
                  · rw [List.mem_singleton.1 hr] at hy;exact HY.out y hy⟩⟩
                case measure => simp [intOf];omega
        · have hne : (xr.left != x) = true:=by rw [bne_iff_ne];exact hl
          have HNE:=Aside0.mk hl
          clear hl
          go_wp2
          go_roundw
          case rel => exact ⟨j + 1,m',q',by omega,by go_num,HR2,⟨fun r hr ho hrl => by
            rw [HTK.out,List.mem_append] at hr
            rcases hr with hr | hr
            · exact HD.out r hr ho hrl
            · rw [List.mem_singleton.1 hr] at hrl;exact absurd hrl HNE.out⟩⟩
          case measure => simp [intOf];omega
      · have HSH : Aside0 (Shut g ok m' x):=⟨fun r hr => HD.out r (by rw [List.take_of_length_le (by omega)];exact hr)⟩
        have HFI : Aside0 (RA wg wi b n g ok a0 m' q' (r + 1) (-1)):=⟨⟨HR.out.rq,HR.out.rc.shut HSH.out⟩⟩
        have HLT2 : Aside0 (n - rcvd wi (b + 2) < n - rcvd W (b + 2)):=⟨by have:=HFI.out.rq.rcvd;rw [this];exact HLT.out⟩
        go_wp2
        exact ⟨⟨_,_,_,_,_,_,_,_,_,_,_,_,_,_,_,_,_,_,_,_,_,_,_,_,_,_,_,_,_,_,_,_,_,_,_,_,_,_,_,_,_,_,_,_,_,_,_,_,_,_,_,_,_,_,m',q',r + 1,rfl,HFI.out⟩,HLT2.out⟩
end Go.Proofs.Ytphmmppmhphgeaa

/- The contract of the program's answer which symbols are productive. -/
set_option linter.unusedVariables false
set_option linter.unusedSimpArgs false
namespace Go.Proofs.Ytphmmppmhphgeaa
open Go.RowKit Go.Proofs.YtphmmppmhphgeaaW.PrintWords Go.Proofs.YtphmmppmhphgeaaW.PrintLast

def isT : Value → Bool
  | .bool true => true
  | _ => false
/-- How many truths lie in a block. -/
def cntW (W : World) (b : Nat) : Nat:=match W.heap[b]? with | some (.cells cs _ _) => cs.toList.countP isT | _ => 0
theorem BB.cntW {W : World} {b : Nat} {m : List Bool} (h : BB W b m) : cntW W b = cnt m:=by
  unfold Go.Proofs.Ytphmmppmhphgeaa.cntW
  rw [h]
  simp only [List.countP_map,cnt]
  congr 1
  funext x
  cases x <;> rfl
def AnsB (w : World) (n : Nat) (m : List Bool) (e : Ending) (w' : World) : Prop:=∃ b,e = .returned (.slice (some ⟨b,0,none⟩) n n) ∧ BB w' b m ∧ w.heap.size ≤ b
set_option maxRecDepth 100000 in
set_option maxHeartbeats 2000000 in
theorem prod_no (g : Gram) (A1 A2 A3 : Option Addr) (c1 c2 c3 : Nat) (w : World) (hg : RepG w g A1 A2 A3 c1 c2 c3) (hno : goodF g = false) :
    Calls Try.prog 40 #[.agg #[.slice A1 g.terms.length c1,.slice A2 g.names.length c2,.slice A3 g.rules.length c3]] w fun e w' => e = .returned (.slice none 0 0) ∧ Below w.heap.size w w':=by
  have HB:=Aside0.mk ((Below.refl w.heap.size w).alloc (Nat.le_refl _) (.cells #[.slice A1 g.terms.length c1,.slice A2 g.names.length c2,.slice A3 g.rules.length c3] 25 (0,0)))
  have HG:=Aside0.mk (hg.below_ (below_alloc (Below.refl _ _) (.cells #[.slice A1 g.terms.length c1,.slice A2 g.names.length c2,.slice A3 g.rules.length c3] 25 (0,0))))
  clear hg
  go_enter Try.func40,Try.ntmps40
  go_wp2_with (go_at_call 23;go_loud (refine (good_v g A1 A2 A3 c1 c2 c3 _ HG.out hno).mono ?_;rintro e w1 ⟨rfl,hb1⟩))
  go_ret
  exact ⟨rfl,below_then HB.out HB.out.size hb1⟩
set_option maxRecDepth 100000 in
set_option maxHeartbeats 4000000 in
theorem prod_yes (g : Gram) (A1 A2 A3 : Option Addr) (c1 c2 c3 : Nat) (w : World) (hg : RepG w g A1 A2 A3 c1 c2 c3) (hgd : goodF g = true) {n : Nat} (hn : nsym g = n) :
    Calls Try.prog 40 #[.agg #[.slice A1 g.terms.length c1,.slice A2 g.names.length c2,.slice A3 g.rules.length c3]] w fun e w' => AnsB w n (prodF g) e w' ∧ Below w.heap.size w w':=by
  obtain ⟨q1,q2,q3,q4⟩:=goodF_small hgd
  have HGD:=Aside0.mk hgd
  have HN:=Aside0.mk hn
  have HMEM:=Aside0.mk (goodF_mem hgd)
  have hn80 : n ≤ 80:=by rw [← hn];unfold nsym;omega
  have hTn : g.terms.length < n:=by rw [← hn];unfold nsym;omega
  have HB:=Aside0.mk ((Below.refl w.heap.size w).alloc (Nat.le_refl _) (.cells #[.slice A1 g.terms.length c1,.slice A2 g.names.length c2,.slice A3 g.rules.length c3] 25 (0,0)))
  have HG0:=Aside0.mk hg
  have HP0:=Aside0.mk (blk_new w (.cells #[.slice A1 g.terms.length c1,.slice A2 g.names.length c2,.slice A3 g.rules.length c3] 25 (0,0)))
  have HG:=Aside0.mk (hg.below_ (below_alloc (Below.refl _ _) (.cells #[.slice A1 g.terms.length c1,.slice A2 g.names.length c2,.slice A3 g.rules.length c3] 25 (0,0))))
  have hmk:=print_make_of (P:=Try.prog) 57 4 (.bool false) 1 Try.underlying57 (by kernel_rfl) rfl (by decide) n (by omega)
  clear hg hgd hn
  go_enter Try.func40,Try.ntmps40
  go_wp2_with (first | (have hx:=HB1.out;go_at_call 67;go_loud (refine (size_c g A1 A2 A3 c1 c2 c3 _ HN.out (by omega)).mono ?_;rintro e w2 ⟨rfl,hb2⟩;have HP2:=Aside0.mk (blk_below HP1.out hb2);have HB2:=Aside0.mk (below_then HB1.out HB1.out.size hb2);have hsz : w.heap.size < w2.heap.size:=(by have:=hb2.size;omega);clear hb2;have c0:=(blk_cell HP2.out 0).trans rfl)) | (go_at_call 23;go_loud (refine (good_v g A1 A2 A3 c1 c2 c3 _ HG.out HGD.out).mono ?_;rintro e w1 ⟨rfl,hb1⟩;have HP1:=Aside0.mk (blk_below HP0.out hb1);have HB1:=Aside0.mk (below_then HB.out HB.out.size hb1);have hsz1 : w.heap.size < w1.heap.size:=(by have:=hb1.size;simp at this;omega);clear hb1;have a1:=(blk_cell HP1.out 0).trans rfl;have a2:=(blk_cell HP1.out 1).trans rfl;have a3:=(blk_cell HP1.out 2).trans rfl)))
  have HS0:=Aside0.mk (RS.new (n:=n) HB2.out HP2.out hsz)
  obtain ⟨b,hb⟩ : ∃ b,b = w2.heap.size:=⟨_,rfl⟩
  obtain ⟨W0,hW0⟩ : ∃ W0,W0 = w2.alloc (.cells (madeCells #[.bool false] n) 4):=⟨_,rfl⟩
  rw [← hb,← hW0] at HS0 ⊢
  clear hmk a1 a2 a3 c0 hb hW0 hsz hsz1 HP1 HB1 HP2 HB2
  go_loopw [17] (fun i wr => ∃ k : Nat,k ≤ g.terms.length ∧ i = .int .i64 k ∧ Aside0 (RS w wr b n g A1 A2 A3 c1 c2 c3 (firstT k n))) (fun i _ => g.terms.length - (intOf i).toNat)
  case atStart => exact ⟨0,Nat.zero_le _,rfl,by simpa [firstT] using HS0⟩
  case round =>
    clear HS0
    obtain ⟨k,hk,rfl,HS⟩:=hrel
    rename World => wi
    by_cases hlt : k < g.terms.length
    · have i1 : (k : Int) < (n : Int):=by omega
      obtain ⟨z,hz⟩ : ∃ z,wi.cell? ⟨b,k,none⟩ = some (.bool z):=⟨_,HS.out.bb.cell (by rw [HS.out.len];omega)⟩
      have fz:=HS.out.bb.fz k
      have HS3 : Aside0 (RS w (wi.setCell ⟨b,k,none⟩ (.bool true)) b n g A1 A2 A3 c1 c2 c3 (firstT (k + 1) n)):=⟨by
        have:=HS.out.set k
        rw [setB,Int.toNat_natCast,firstT_set (by omega)] at this
        exact this⟩
      go_wp2
      go_roundw
      case rel => exact ⟨k + 1,by omega,by go_num,HS3⟩
      case measure => simp [intOf];omega
    · have hk2 : k = g.terms.length:=by omega
      have HS1 : Aside0 (RS w wi b n g A1 A2 A3 c1 c2 c3 (firstT g.terms.length n)):=⟨by rw [← hk2];exact HS.out⟩
      clear HS hk2
      go_wp2
      go_loopw [5] (fun mv wr => ∃ (m : List Bool) (mb : Bool),mv = .bool mb ∧ Aside0 (RS w wr b n g A1 A2 A3 c1 c2 c3 m) ∧ Aside0 (Sound (hornN g) (termI g) m) ∧ Aside0 (LeB (firstT g.terms.length n) m) ∧ Aside0 (mb = false → roundF (hornN g) m = m)) (fun mv wr => 2 * (n - cntW wr b) + (if isT mv = true then 1 else 0))
      case atStart => exact ⟨_,true,rfl,HS1,⟨fun s hs => .init (by rw [getB_first (by omega),decide_eq_true_eq] at hs;exact hs)⟩,⟨LeB.refl _⟩,⟨fun h => by cases h⟩⟩
      case round =>
        clear HS1
        obtain ⟨m,mb,rfl,HS,HSO,HLE,HFX⟩:=hrel
        rename World => wo
        cases mb
        · have hm : m = prodF g:=(stand_is (hornN_in HGD.out) (by rw [HS.out.len,HN.out]) HSO.out (fun s hs => HLE.out.2 s (by rw [getB_first (by omega)];exact decide_eq_true (show 0 ≤ s ∧ s < (g.terms.length : Int) from hs))) (HFX.out rfl)).unique (prodF_is HGD.out)
          have HE : Aside0 (AnsB w n (prodF g) (.returned (.slice (some ⟨b,0,none⟩) n n)) wo):=⟨⟨b,rfl,by rw [← hm];exact HS.out.bb,by have:=HS.out.size;omega⟩⟩
          clear hm
          go_wp2
          go_ret
          exact ⟨HE.out,HS.out.below⟩
        · have a3:=(blk_cell HS.out.box 2).trans rfl
          have hml : m.length = n:=HS.out.len
          have HCW : Aside0 (cntW wo b = cnt m):=⟨HS.out.bb.cntW⟩
          have HCN : Aside0 (∀ m' : List Bool,m'.length = n → cnt m' ≤ n):=⟨fun m' h => by have:=cnt_le m';omega⟩
          go_wp2
          go_loopw [28,5] (fun i mv wr => ∃ (j : Nat) (mb : Bool),j ≤ g.rules.length ∧ i = .int .i64 j ∧ mv = .bool mb ∧ Aside0 (RS w wr b n g A1 A2 A3 c1 c2 c3 (roundF ((hornN g).take j) m)) ∧ Aside0 (Sound (hornN g) (termI g) (roundF ((hornN g).take j) m)) ∧ Aside0 (LeB m (roundF ((hornN g).take j) m)) ∧ Aside0 (mb = false → roundF ((hornN g).take j) m = m) ∧ Aside0 (mb = true → cnt m < cnt (roundF ((hornN g).take j) m))) (fun i _ _ => g.rules.length - (intOf i).toNat)
          case atStart => exact ⟨0,false,Nat.zero_le _,rfl,rfl,HS,HSO,⟨LeB.refl _⟩,⟨fun _ => rfl⟩,⟨fun h => by cases h⟩⟩
          case round =>
            clear HS HSO a3
            obtain ⟨j,mb,hj,rfl,rfl,HS,HSO,HL2,HF0,HF1⟩:=hrel
            rename World => wi2
            by_cases hlt : j < g.rules.length
            · obtain ⟨ad,B1,d1,ead,hx0,hy0,hd1,hC1⟩:=at_rule HG0.out.rules j hlt
              cases ead
              have hx:=pw_cell_below HS.out.below hx0
              have hy:=pw_cell_below HS.out.below hy0
              clear hx0 hy0
              have hmem:=HMEM.out (g.rules[j]'hlt) (List.getElem_mem _)
              have HT:=Lib.hid (roundF_take (R:=hornN g) (m:=m) (j:=j) (by simpa [hornN] using hlt))
              obtain ⟨x,hx1⟩ : ∃ x,x = g.rules[j]'hlt:=⟨_,rfl⟩
              have hxh : (hornN g)[j]'(by simpa [hornN] using hlt) = (x.right,x.left):=by rw [hx1];simp [hornN]
              rw [hxh] at HT
              have HX:=Aside0.mk (show x ∈ g.rules by rw [hx1];exact List.getElem_mem _)
              rw [← hx1] at hx hy hd1 hC1 hmem
              clear hx1 hxh
              obtain ⟨lf,hlf⟩:=Int.eq_ofNat_of_zero_le (by omega : 0 ≤ x.left)
              have l2 : (lf : Int) < (n : Int):=by rw [← HN.out];omega
              have l3 : lf < n:=by omega
              have HHM : Aside0 ((x.right,(lf : Int)) ∈ hornN g):=⟨List.mem_map.2 ⟨x,HX.out,by rw [hlf]⟩⟩
              rw [hlf] at hx HT
              have HXS : Aside0 (∀ s ∈ x.right,0 ≤ s ∧ s < n):=⟨fun s hs => by have:=hmem.2.2.2 s hs;rw [HN.out] at this;exact this⟩
              clear hmem hlf
              obtain ⟨m1,hm1⟩ : ∃ m1,m1 = roundF ((hornN g).take j) m:=⟨_,rfl⟩
              rw [← hm1] at HS HT HSO HL2 HF0 HF1
              clear hm1
              have i2 : (j : Int) < (g.rules.length : Int):=by omega
              have HS2:=Aside0.mk (HS.out.below_ (below_alloc (Below.refl _ _) (.cells #[.int .i64 lf,.slice B1 x.right.length d1] 56 (0,0))))
              have HC2:=Aside0.mk (Kd.C_below hC1 HS2.out.below)
              have HN1:=Aside0.mk (blk_new wi2 (.cells #[.int .i64 lf,.slice B1 x.right.length d1] 56 (0,0)))
              clear hd1 hC1
              cases hgl : getB m1 (lf : Int)
              · have hz:=HS2.out.bb.cell' (by rw [HS2.out.len];exact l3) hgl
                obtain ⟨al,hal⟩ : ∃ al,allF m1 x.right = al:=⟨_,rfl⟩
                have HGL:=Lib.hid hgl
                have HAL:=Lib.hid hal
                clear hgl hal
                cases al
                · have HE : Aside0 (roundF ((hornN g).take (j + 1)) m = m1):=⟨by rw [HT.out,if_neg (by rw [HAL.out];decide)]⟩
                  go_wp2_with (go_at_call 71;go_loud (refine (whole_c _ _ n m1 _ x.right _ _ _ (HS2.out.bb.C' HS2.out.len (by omega)) HC2.out (fun s hs => by rw [HS2.out.len];exact HXS.out s hs) HAL.out).mono ?_;rintro e w5 ⟨rfl,hb5⟩))
                  have HS5:=Aside0.mk (HS2.out.below_ hb5)
                  clear hb5
                  go_roundw
                  case rel => exact ⟨j + 1,mb,by omega,by go_num,rfl,by rw [HE.out];exact HS5,by rw [HE.out];exact HSO,by rw [HE.out];exact HL2,by rw [HE.out];exact HF0,by rw [HE.out];exact HF1⟩
                  case measure => simp [intOf];omega
                · have HE : Aside0 (roundF ((hornN g).take (j + 1)) m = setB m1 (lf : Int)):=⟨by rw [HT.out,if_pos HAL.out]⟩
                  go_wp2_with (go_at_call 71;go_loud (refine (whole_c _ _ n m1 _ x.right _ _ _ (HS2.out.bb.C' HS2.out.len (by omega)) HC2.out (fun s hs => by rw [HS2.out.len];exact HXS.out s hs) HAL.out).mono ?_;rintro e w5 ⟨rfl,hb5⟩;have HS5:=Aside0.mk (HS2.out.below_ hb5);have d0:=(blk_cell (blk_below HN1.out hb5) 0).trans rfl;have fz:=HS5.out.bb.fz lf;have hz5:=HS5.out.bb.cell' (by rw [HS5.out.len];exact l3) HGL.out))
                  have HS6:=Aside0.mk (HS5.out.set lf)
                  have HSO6 : Aside0 (Sound (hornN g) (termI g) (setB m1 (lf : Int))):=⟨HSO.out.set HHM.out HAL.out ⟨by omega,by rw [HS5.out.len];omega⟩⟩
                  have HL6 : Aside0 (LeB m (setB m1 (lf : Int))):=⟨HL2.out.trans (LeB.set m1 (by omega) (by rw [HS5.out.len];omega))⟩
                  have HF6 : Aside0 (cnt m < cnt (setB m1 (lf : Int))):=⟨by rw [cnt_set (by omega) (by rw [HS5.out.len];omega) HGL.out];have:=HL2.out.cnt_le;omega⟩
                  clear hb5 d0 fz hz5 hz
                  go_roundw
                  case rel => exact ⟨j + 1,true,by omega,by go_num,rfl,by rw [HE.out];exact HS6,by rw [HE.out];exact HSO6,by rw [HE.out];exact HL6,⟨fun h => by cases h⟩,by rw [HE.out];exact ⟨fun _ => HF6.out⟩⟩
                  case measure => simp [intOf];omega
              · have hz:=HS2.out.bb.cell' (by rw [HS2.out.len];exact l3) hgl
                have HE : Aside0 (roundF ((hornN g).take (j + 1)) m = m1):=⟨by rw [HT.out];split;exact setB_self hgl;rfl⟩
                clear hgl
                go_wp2
                go_roundw
                case rel => exact ⟨j + 1,mb,by omega,by go_num,rfl,by rw [HE.out];exact HS2,by rw [HE.out];exact HSO,by rw [HE.out];exact HL2,by rw [HE.out];exact HF0,by rw [HE.out];exact HF1⟩
                case measure => simp [intOf];omega
            · have hfull : (hornN g).take j = hornN g:=List.take_of_length_le (by simp [hornN];omega)
              rw [hfull] at HS HSO HL2 HF0 HF1
              clear hfull
              have HFX2 : Aside0 (mb = false → roundF (hornN g) (roundF (hornN g) m) = roundF (hornN g) m):=⟨fun h => by rw [HF0.out h,HF0.out h]⟩
              have HMS : Aside0 (2 * (n - cntW wi2 b) + (if isT (.bool mb) = true then 1 else 0) < 2 * (n - cntW wo b) + (if isT (.bool true) = true then 1 else 0)):=⟨by
                rw [HCW.out,HS.out.bb.cntW]
                have h1:=HCN.out m hml
                have h2:=HCN.out _ HS.out.len
                cases mb
                · rw [HF0.out rfl];simp [isT]
                · have:=HF1.out rfl;simp [isT];omega⟩
              go_wp2
              go_roundw
              case rel => exact ⟨_,mb,rfl,HS,HSO,⟨HLE.out.trans HL2.out⟩,HFX2⟩
              case measure => exact HMS.out
end Go.Proofs.Ytphmmppmhphgeaa

/- The contracts of the program's answers what a symbol reaches,what is useful. -/
set_option linter.unusedVariables false
set_option linter.unusedSimpArgs false
namespace Go.Proofs.Ytphmmppmhphgeaa
open Go.RowKit Go.Proofs.YtphmmppmhphgeaaW.PrintWords Go.Proofs.YtphmmppmhphgeaaW.PrintLast

theorem eql_nil (a : Option Addr) (n c : Nat) : ∀ W : World,(binOp .eql 57 (.slice a n c) (.slice none 0 0)).run Try.prog W = .ok (.bool a.isNone) W:=fun W => by
  simp only [binOp]
  simp [Op.equal,Op.maxDepth,Lib.run_equalIn_slice_nil W 9999 57 4 a n c 0 0 Try.underlying57]
def inG (g : Gram) (a : Int) : Bool:=goodF g && decide (0 ≤ a) && decide (a < nsym g)
set_option maxRecDepth 100000 in
set_option maxHeartbeats 4000000 in
theorem reachU_no (g : Gram) (A1 A2 A3 : Option Addr) (c1 c2 c3 : Nat) (a : Int) (w : World) (hg : RepG w g A1 A2 A3 c1 c2 c3) (hno : inG g a = false) :
    Calls Try.prog 38 #[.agg #[.slice A1 g.terms.length c1,.slice A2 g.names.length c2,.slice A3 g.rules.length c3],.int .i64 a] w fun e w' => e = .returned (.slice none 0 0) ∧ Below w.heap.size w w':=by
  obtain ⟨v0,hv0⟩ : ∃ v0 : World,v0 = w.alloc (.cells #[.slice A1 g.terms.length c1,.slice A2 g.names.length c2,.slice A3 g.rules.length c3] 25 (0,0)):=⟨_,rfl⟩
  have HB0 : Aside0 (Below w.heap.size w v0):=⟨by rw [hv0];exact (Below.refl w.heap.size w).alloc (Nat.le_refl _) _⟩
  have HP0 : Aside0 (v0.heap[w.heap.size]? = some (.cells #[.slice A1 g.terms.length c1,.slice A2 g.names.length c2,.slice A3 g.rules.length c3] 25 (0,0))):=⟨by rw [hv0];exact blk_new w _⟩
  have HG0:=Aside0.mk (hg.below_ HB0.out)
  clear hg
  cases hgd : goodF g
  · clear hno
    go_enter Try.func38,Try.ntmps38
    go_upto_region 1 with (fail)
    simp only [← hv0]
    refine pl_start ?_
    refine pl_held (B:=v0.heap.size) (v:=v0) (Below.refl _ _) (fun hHeld => ?_)
    refine pl_pure (N:=(some 5)) (v:=?v3) (by rfl) rfl ?h3 ?_
    case h3 => (have d0:=(blk_cell (blk_below HP0.out hHeld) 0).trans rfl;have d1:=(blk_cell (blk_below HP0.out hHeld) 1).trans rfl;have d2:=(blk_cell (blk_below HP0.out hHeld) 2).trans rfl;go_simp;rfl)
    simp only [Act.put,List.setIfInBounds_toArray,List.set_cons_zero,List.set_cons_succ]
    refine goesCL_ (N:=(some 6)) Try.func23 (by kernel_rfl) rfl (by rfl) rfl rfl (good_v g A1 A2 A3 c1 c2 c3 _ (HG0.out.below_ hHeld) hgd) (by simp [Act.eval]) ?_
    rintro e x1_1 ⟨rfl,hb1_1⟩
    refine ⟨_,rfl,?_⟩
    simp only [Act.put,List.setIfInBounds_toArray,List.set_cons_zero,List.set_cons_succ]
    refine pl_held (B:=v0.heap.size) (v:=v0) (below_then hHeld hHeld.size hb1_1) (fun hHeld => ?_)
    refine pl_pure (N:=(some 7)) (v:=?v5) (by rfl) rfl ?h5 ?_
    case h5 => (go_simp;rfl)
    simp only [Act.put,List.setIfInBounds_toArray,List.set_cons_zero,List.set_cons_succ]
    refine pl_pure (N:=(some 8)) (v:=?v6) (by rfl) rfl ?h6 ?_
    case h6 => (go_simp;rfl)
    simp only [Act.put,List.setIfInBounds_toArray,List.set_cons_zero,List.set_cons_succ]
    refine pl_off (N:=(some 9)) (by rfl) rfl ?_
    simp only [Act.put,List.setIfInBounds_toArray,List.set_cons_zero,List.set_cons_succ]
    refine pl_off (N:=(some 10)) (by rfl) rfl ?_
    simp only [Act.put,List.setIfInBounds_toArray,List.set_cons_zero,List.set_cons_succ]
    refine pl_pure (N:=(some 11)) (v:=?v9) (by rfl) rfl ?h9 ?_
    case h9 => (go_simp;rfl)
    simp only [Act.put,List.setIfInBounds_toArray,List.set_cons_zero,List.set_cons_succ]
    refine pl_pure (N:=(some 12)) (v:=?v10) (by rfl) rfl ?h10 ?_
    case h10 => (go_simp;rfl)
    simp only [Act.put,List.setIfInBounds_toArray,List.set_cons_zero,List.set_cons_succ]
    refine pl_off (N:=(some 13)) (by rfl) rfl ?_
    simp only [Act.put,List.setIfInBounds_toArray,List.set_cons_zero,List.set_cons_succ]
    refine pl_off (N:=(some 14)) (by rfl) rfl ?_
    simp only [Act.put,List.setIfInBounds_toArray,List.set_cons_zero,List.set_cons_succ]
    refine pl_off (N:=(some 15)) (by rfl) rfl ?_
    simp only [Act.put,List.setIfInBounds_toArray,List.set_cons_zero,List.set_cons_succ]
    refine pl_off (N:=(some 16)) (by rfl) rfl ?_
    simp only [Act.put,List.setIfInBounds_toArray,List.set_cons_zero,List.set_cons_succ]
    refine pl_pure (N:=(some 17)) (v:=?v15) (by rfl) rfl ?h15 ?_
    case h15 => (go_simp;rfl)
    simp only [Act.put,List.setIfInBounds_toArray,List.set_cons_zero,List.set_cons_succ]
    refine pl_nil ?_
    go_wp2
    go_ret
    exact ⟨rfl,below_then HB0.out HB0.out.size hHeld⟩
  · obtain ⟨n,hn⟩ : ∃ n,nsym g = n:=⟨_,rfl⟩
    have q:=goodF_small hgd
    have hn80 : n ≤ 80:=by rw [← hn];unfold nsym;omega
    by_cases h0 : 0 ≤ a
    · have h1 : (n : Int) ≤ a:=by rw [inG,hgd,hn,decide_eq_true h0] at hno;simpa using hno
      have d0 : decide (a < 0) = false:=by simp;omega
      have d1 : decide ((n : Int) ≤ a) = true:=by simp;omega
      clear hno
      have HGD:=Lib.hid hgd
      have HN:=Lib.hid hn
      clear hgd hn q
      go_enter Try.func38,Try.ntmps38
      go_upto_region 1 with (fail)
      simp only [← hv0]
      refine pl_start ?_
      refine pl_held (B:=v0.heap.size) (v:=v0) (Below.refl _ _) (fun hHeld => ?_)
      refine pl_pure (N:=(some 5)) (v:=?v16) (by rfl) rfl ?h16 ?_
      case h16 => (have d0:=(blk_cell (blk_below HP0.out hHeld) 0).trans rfl;have d1:=(blk_cell (blk_below HP0.out hHeld) 1).trans rfl;have d2:=(blk_cell (blk_below HP0.out hHeld) 2).trans rfl;go_simp;rfl)
      simp only [Act.put,List.setIfInBounds_toArray,List.set_cons_zero,List.set_cons_succ]
      refine goesCL_ (N:=(some 6)) Try.func23 (by kernel_rfl) rfl (by rfl) rfl rfl (good_v g A1 A2 A3 c1 c2 c3 _ (HG0.out.below_ hHeld) HGD.out) (by simp [Act.eval]) ?_
      rintro e x1_1 ⟨rfl,hb1_1⟩
      refine ⟨_,rfl,?_⟩
      simp only [Act.put,List.setIfInBounds_toArray,List.set_cons_zero,List.set_cons_succ]
      refine pl_held (B:=v0.heap.size) (v:=v0) (below_then hHeld hHeld.size hb1_1) (fun hHeld => ?_)
      refine pl_pure (N:=(some 7)) (v:=?v18) (by rfl) rfl ?h18 ?_
      case h18 => (go_simp;rfl)
      simp only [Act.put,List.setIfInBounds_toArray,List.set_cons_zero,List.set_cons_succ]
      refine pl_pure (N:=(some 8)) (v:=?v19) (by rfl) rfl ?h19 ?_
      case h19 => (go_simp;rfl)
      simp only [Act.put,List.setIfInBounds_toArray,List.set_cons_zero,List.set_cons_succ]
      refine pl_pure (N:=(some 9)) (v:=?v20) (by rfl) rfl ?h20 ?_
      case h20 => (go_simp;rfl)
      simp only [Act.put,List.setIfInBounds_toArray,List.set_cons_zero,List.set_cons_succ]
      refine pl_pure (N:=(some 10)) (v:=?v21) (by rfl) rfl ?h21 ?_
      case h21 => (go_simp;rfl)
      simp only [Act.put,List.setIfInBounds_toArray,List.set_cons_zero,List.set_cons_succ]
      refine pl_pure (N:=(some 11)) (v:=?v22) (by rfl) rfl ?h22 ?_
      case h22 => (go_simp;rfl)
      simp only [Act.put,List.setIfInBounds_toArray,List.set_cons_zero,List.set_cons_succ]
      refine pl_pure (N:=(some 12)) (v:=?v23) (by rfl) rfl ?h23 ?_
      case h23 => (go_simp;rfl)
      simp only [Act.put,List.setIfInBounds_toArray,List.set_cons_zero,List.set_cons_succ]
      refine pl_pure (N:=(some 13)) (v:=?v24) (by rfl) rfl ?h24 ?_
      case h24 => (go_simp;rfl)
      simp only [Act.put,List.setIfInBounds_toArray,List.set_cons_zero,List.set_cons_succ]
      refine pl_pure (N:=(some 14)) (v:=?v25) (by rfl) rfl ?h25 ?_
      case h25 => (have d0:=(blk_cell (blk_below HP0.out hHeld) 0).trans rfl;have d1:=(blk_cell (blk_below HP0.out hHeld) 1).trans rfl;have d2:=(blk_cell (blk_below HP0.out hHeld) 2).trans rfl;go_simp;rfl)
      simp only [Act.put,List.setIfInBounds_toArray,List.set_cons_zero,List.set_cons_succ]
      refine goesCL_ (N:=(some 15)) Try.func67 (by kernel_rfl) rfl (by rfl) rfl rfl (size_c g A1 A2 A3 c1 c2 c3 _ HN.out (by omega)) (by simp [Act.eval]) ?_
      rintro e x1_10 ⟨rfl,hb1_10⟩
      refine ⟨_,rfl,?_⟩
      simp only [Act.put,List.setIfInBounds_toArray,List.set_cons_zero,List.set_cons_succ]
      refine pl_held (B:=v0.heap.size) (v:=v0) (below_then hHeld hHeld.size hb1_10) (fun hHeld => ?_)
      refine pl_pure (N:=(some 16)) (v:=?v27) (by rfl) rfl ?h27 ?_
      case h27 => (go_simp;rfl)
      simp only [Act.put,List.setIfInBounds_toArray,List.set_cons_zero,List.set_cons_succ]
      refine pl_pure (N:=(some 17)) (v:=?v28) (by rfl) rfl ?h28 ?_
      case h28 => (go_simp;rfl)
      simp only [Act.put,List.setIfInBounds_toArray,List.set_cons_zero,List.set_cons_succ]
      refine pl_nil ?_
      go_wp2
      go_ret
      exact ⟨rfl,below_then HB0.out HB0.out.size hHeld⟩
    · have d0 : decide (a < 0) = true:=by simp;omega
      have hlt : a < 0:=by omega
      clear hno
      have HGD:=Lib.hid hgd
      clear hgd hn q
      go_enter Try.func38,Try.ntmps38
      go_upto_region 1 with (fail)
      simp only [← hv0]
      refine pl_start ?_
      refine pl_held (B:=v0.heap.size) (v:=v0) (Below.refl _ _) (fun hHeld => ?_)
      refine pl_pure (N:=(some 5)) (v:=?v29) (by rfl) rfl ?h29 ?_
      case h29 => (have d0:=(blk_cell (blk_below HP0.out hHeld) 0).trans rfl;have d1:=(blk_cell (blk_below HP0.out hHeld) 1).trans rfl;have d2:=(blk_cell (blk_below HP0.out hHeld) 2).trans rfl;go_simp;rfl)
      simp only [Act.put,List.setIfInBounds_toArray,List.set_cons_zero,List.set_cons_succ]
      refine goesCL_ (N:=(some 6)) Try.func23 (by kernel_rfl) rfl (by rfl) rfl rfl (good_v g A1 A2 A3 c1 c2 c3 _ (HG0.out.below_ hHeld) HGD.out) (by simp [Act.eval]) ?_
      rintro e x1_1 ⟨rfl,hb1_1⟩
      refine ⟨_,rfl,?_⟩
      simp only [Act.put,List.setIfInBounds_toArray,List.set_cons_zero,List.set_cons_succ]
      refine pl_held (B:=v0.heap.size) (v:=v0) (below_then hHeld hHeld.size hb1_1) (fun hHeld => ?_)
      refine pl_pure (N:=(some 7)) (v:=?v31) (by rfl) rfl ?h31 ?_
      case h31 => (go_simp;rfl)
      simp only [Act.put,List.setIfInBounds_toArray,List.set_cons_zero,List.set_cons_succ]
      refine pl_pure (N:=(some 8)) (v:=?v32) (by rfl) rfl ?h32 ?_
      case h32 => (go_simp;rfl)
      simp only [Act.put,List.setIfInBounds_toArray,List.set_cons_zero,List.set_cons_succ]
      refine pl_pure (N:=(some 9)) (v:=?v33) (by rfl) rfl ?h33 ?_
      case h33 => (go_simp;rfl)
      simp only [Act.put,List.setIfInBounds_toArray,List.set_cons_zero,List.set_cons_succ]
      refine pl_pure (N:=(some 10)) (v:=?v34) (by rfl) rfl ?h34 ?_
      case h34 => (go_simp;rfl)
      simp only [Act.put,List.setIfInBounds_toArray,List.set_cons_zero,List.set_cons_succ]
      refine pl_pure (N:=(some 11)) (v:=?v35) (by rfl) rfl ?h35 ?_
      case h35 => (go_simp;rfl)
      simp only [Act.put,List.setIfInBounds_toArray,List.set_cons_zero,List.set_cons_succ]
      refine pl_pure (N:=(some 12)) (v:=?v36) (by rfl) rfl ?h36 ?_
      case h36 => (go_simp;rfl)
      simp only [Act.put,List.setIfInBounds_toArray,List.set_cons_zero,List.set_cons_succ]
      refine pl_off (N:=(some 13)) (by rfl) rfl ?_
      simp only [Act.put,List.setIfInBounds_toArray,List.set_cons_zero,List.set_cons_succ]
      refine pl_off (N:=(some 14)) (by rfl) rfl ?_
      simp only [Act.put,List.setIfInBounds_toArray,List.set_cons_zero,List.set_cons_succ]
      refine pl_off (N:=(some 15)) (by rfl) rfl ?_
      simp only [Act.put,List.setIfInBounds_toArray,List.set_cons_zero,List.set_cons_succ]
      refine pl_off (N:=(some 16)) (by rfl) rfl ?_
      simp only [Act.put,List.setIfInBounds_toArray,List.set_cons_zero,List.set_cons_succ]
      refine pl_pure (N:=(some 17)) (v:=?v41) (by rfl) rfl ?h41 ?_
      case h41 => (go_simp;rfl)
      simp only [Act.put,List.setIfInBounds_toArray,List.set_cons_zero,List.set_cons_succ]
      refine pl_nil ?_
      go_wp2
      go_ret
      exact ⟨rfl,below_then HB0.out HB0.out.size hHeld⟩
set_option maxRecDepth 100000 in
set_option maxHeartbeats 4000000 in
theorem reachU_yes (g : Gram) (A1 A2 A3 : Option Addr) (c1 c2 c3 : Nat) (a : Int) (w : World) (hg : RepG w g A1 A2 A3 c1 c2 c3) (hgd : goodF g = true) {n : Nat} (hn : nsym g = n) (h0 : 0 ≤ a) (h1 : a < n) :
    Calls Try.prog 38 #[.agg #[.slice A1 g.terms.length c1,.slice A2 g.names.length c2,.slice A3 g.rules.length c3],.int .i64 a] w fun e w' => AnsB w n (reachF g allOk a) e w' ∧ Below w.heap.size w w':=by
  obtain ⟨v0,hv0⟩ : ∃ v0 : World,v0 = w.alloc (.cells #[.slice A1 g.terms.length c1,.slice A2 g.names.length c2,.slice A3 g.rules.length c3] 25 (0,0)):=⟨_,rfl⟩
  have HB0 : Aside0 (Below w.heap.size w v0):=⟨by rw [hv0];exact (Below.refl w.heap.size w).alloc (Nat.le_refl _) _⟩
  have HP0 : Aside0 (v0.heap[w.heap.size]? = some (.cells #[.slice A1 g.terms.length c1,.slice A2 g.names.length c2,.slice A3 g.rules.length c3] 25 (0,0))):=⟨by rw [hv0];exact blk_new w _⟩
  have HG0:=Aside0.mk (hg.below_ HB0.out)
  have q:=goodF_small hgd
  have hn80 : n ≤ 80:=by rw [← hn];unfold nsym;omega
  have d0 : decide (a < 0) = false:=by simp;omega
  have d1 : decide ((n : Int) ≤ a) = false:=by simp;omega
  have e0 : ¬ a < 0:=by omega
  have e1 : ¬ (n : Int) ≤ a:=by omega
  have HGD:=Lib.hid hgd
  have HN:=Lib.hid hn
  clear hg hgd hn q
  go_enter Try.func38,Try.ntmps38
  go_upto_region 1 with (fail)
  simp only [← hv0]
  refine pl_start ?_
  refine pl_held (B:=v0.heap.size) (v:=v0) (Below.refl _ _) (fun hHeld => ?_)
  refine pl_pure (N:=(some 5)) (v:=?v42) (by rfl) rfl ?h42 ?_
  case h42 => (have d0:=(blk_cell (blk_below HP0.out hHeld) 0).trans rfl;have d1:=(blk_cell (blk_below HP0.out hHeld) 1).trans rfl;have d2:=(blk_cell (blk_below HP0.out hHeld) 2).trans rfl;go_simp;rfl)
  simp only [Act.put,List.setIfInBounds_toArray,List.set_cons_zero,List.set_cons_succ]
  refine goesCL_ (N:=(some 6)) Try.func23 (by kernel_rfl) rfl (by rfl) rfl rfl (good_v g A1 A2 A3 c1 c2 c3 _ (HG0.out.below_ hHeld) HGD.out) (by simp [Act.eval]) ?_
  rintro e x1_1 ⟨rfl,hb1_1⟩
  refine ⟨_,rfl,?_⟩
  simp only [Act.put,List.setIfInBounds_toArray,List.set_cons_zero,List.set_cons_succ]
  refine pl_held (B:=v0.heap.size) (v:=v0) (below_then hHeld hHeld.size hb1_1) (fun hHeld => ?_)
  refine pl_pure (N:=(some 7)) (v:=?v44) (by rfl) rfl ?h44 ?_
  case h44 => (go_simp;rfl)
  simp only [Act.put,List.setIfInBounds_toArray,List.set_cons_zero,List.set_cons_succ]
  refine pl_pure (N:=(some 8)) (v:=?v45) (by rfl) rfl ?h45 ?_
  case h45 => (go_simp;rfl)
  simp only [Act.put,List.setIfInBounds_toArray,List.set_cons_zero,List.set_cons_succ]
  refine pl_pure (N:=(some 9)) (v:=?v46) (by rfl) rfl ?h46 ?_
  case h46 => (go_simp;rfl)
  simp only [Act.put,List.setIfInBounds_toArray,List.set_cons_zero,List.set_cons_succ]
  refine pl_pure (N:=(some 10)) (v:=?v47) (by rfl) rfl ?h47 ?_
  case h47 => (go_simp;rfl)
  simp only [Act.put,List.setIfInBounds_toArray,List.set_cons_zero,List.set_cons_succ]
  refine pl_pure (N:=(some 11)) (v:=?v48) (by rfl) rfl ?h48 ?_
  case h48 => (go_simp;rfl)
  simp only [Act.put,List.setIfInBounds_toArray,List.set_cons_zero,List.set_cons_succ]
  refine pl_pure (N:=(some 12)) (v:=?v49) (by rfl) rfl ?h49 ?_
  case h49 => (go_simp;rfl)
  simp only [Act.put,List.setIfInBounds_toArray,List.set_cons_zero,List.set_cons_succ]
  refine pl_pure (N:=(some 13)) (v:=?v50) (by rfl) rfl ?h50 ?_
  case h50 => (go_simp;rfl)
  simp only [Act.put,List.setIfInBounds_toArray,List.set_cons_zero,List.set_cons_succ]
  refine pl_pure (N:=(some 14)) (v:=?v51) (by rfl) rfl ?h51 ?_
  case h51 => (have d0:=(blk_cell (blk_below HP0.out hHeld) 0).trans rfl;have d1:=(blk_cell (blk_below HP0.out hHeld) 1).trans rfl;have d2:=(blk_cell (blk_below HP0.out hHeld) 2).trans rfl;go_simp;rfl)
  simp only [Act.put,List.setIfInBounds_toArray,List.set_cons_zero,List.set_cons_succ]
  refine goesCL_ (N:=(some 15)) Try.func67 (by kernel_rfl) rfl (by rfl) rfl rfl (size_c g A1 A2 A3 c1 c2 c3 _ HN.out (by omega)) (by simp [Act.eval]) ?_
  rintro e x1_10 ⟨rfl,hb1_10⟩
  refine ⟨_,rfl,?_⟩
  simp only [Act.put,List.setIfInBounds_toArray,List.set_cons_zero,List.set_cons_succ]
  refine pl_held (B:=v0.heap.size) (v:=v0) (below_then hHeld hHeld.size hb1_10) (fun hHeld => ?_)
  refine pl_pure (N:=(some 16)) (v:=?v53) (by rfl) rfl ?h53 ?_
  case h53 => (go_simp;rfl)
  simp only [Act.put,List.setIfInBounds_toArray,List.set_cons_zero,List.set_cons_succ]
  refine pl_pure (N:=(some 17)) (v:=?v54) (by rfl) rfl ?h54 ?_
  case h54 => (go_simp;rfl)
  simp only [Act.put,List.setIfInBounds_toArray,List.set_cons_zero,List.set_cons_succ]
  refine pl_nil ?_
  have HX:=Aside0.mk hHeld
  go_upto_region 3 with (fail)
  refine pl_start ?_
  refine pl_held (B:=v0.heap.size) (v:=v0) (HX.out) (fun hHeld => ?_)
  refine pl_pure (N:=(some 18)) (v:=?v55) (by rfl) rfl ?h55 ?_
  case h55 => (have d0:=(blk_cell (blk_below HP0.out hHeld) 0).trans rfl;have d1:=(blk_cell (blk_below HP0.out hHeld) 1).trans rfl;have d2:=(blk_cell (blk_below HP0.out hHeld) 2).trans rfl;go_simp;rfl)
  simp only [Act.put,List.setIfInBounds_toArray,List.set_cons_zero,List.set_cons_succ]
  refine pl_pure (N:=(some 19)) (v:=?v56) (by rfl) rfl ?h56 ?_
  case h56 => (go_simp;rfl)
  simp only [Act.put,List.setIfInBounds_toArray,List.set_cons_zero,List.set_cons_succ]
  refine goesCL_ (N:=(some 20)) Try.func68 (by kernel_rfl) rfl (by rfl) rfl rfl (reach_c g A1 A2 A3 c1 c2 c3 a _ allOk _ (HG0.out.below_ hHeld) HGD.out HN.out h0 h1 (pred_all _ _)) (by simp [Act.eval]) ?_
  rintro e x3_2 ⟨⟨b,rfl,hbb,hbs⟩,hb3_2⟩
  refine ⟨_,rfl,?_⟩
  simp only [Act.put,List.setIfInBounds_toArray,List.set_cons_zero,List.set_cons_succ]
  refine pl_held (B:=v0.heap.size) (v:=v0) (below_then hHeld hHeld.size hb3_2) (fun hHeld => ?_)
  refine pl_pure (N:=(some 4)) (v:=?v58) (by rfl) rfl ?h58 ?_
  case h58 => (go_simp;rfl)
  simp only [Act.put,List.setIfInBounds_toArray,List.set_cons_zero,List.set_cons_succ]
  refine pl_nil ?_
  have HE : Aside0 (AnsB w n (reachF g allOk a) (.returned (.slice (some ⟨b,0,none⟩) n n)) x3_2):=⟨⟨b,rfl,hbb,by have h1:=HB0.out.size;have h2:=HX.out.size;omega⟩⟩
  go_wp2
  go_ret
  exact ⟨HE.out,below_then HB0.out HB0.out.size hHeld⟩
set_option maxRecDepth 100000 in
set_option maxHeartbeats 4000000 in
theorem useful_no (g : Gram) (A1 A2 A3 : Option Addr) (c1 c2 c3 : Nat) (w : World) (hg : RepG w g A1 A2 A3 c1 c2 c3) (hno : goodF g = false) :
    Calls Try.prog 42 #[.agg #[.slice A1 g.terms.length c1,.slice A2 g.names.length c2,.slice A3 g.rules.length c3]] w fun e w' => e = .returned (.slice none 0 0) ∧ Below w.heap.size w w':=by
  have HB:=Aside0.mk ((Below.refl w.heap.size w).alloc (Nat.le_refl _) (.cells #[.slice A1 g.terms.length c1,.slice A2 g.names.length c2,.slice A3 g.rules.length c3] 25 (0,0)))
  have HG:=Aside0.mk (hg.below_ (below_alloc (Below.refl _ _) (.cells #[.slice A1 g.terms.length c1,.slice A2 g.names.length c2,.slice A3 g.rules.length c3] 25 (0,0))))
  clear hg
  have hen:=eql_nil none 0 0
  simp only [Option.isNone_none] at hen
  go_enter Try.func42,Try.ntmps42
  go_wp2_with (go_at_call 40;go_loud (refine (prod_no g A1 A2 A3 c1 c2 c3 _ HG.out hno).mono ?_;rintro e w1 ⟨rfl,hb1⟩))
  go_ret
  exact ⟨rfl,below_alloc (below_then HB.out HB.out.size hb1) _⟩
set_option maxRecDepth 100000 in
set_option maxHeartbeats 4000000 in
theorem useful_yes (g : Gram) (A1 A2 A3 : Option Addr) (c1 c2 c3 : Nat) (w : World) (hg : RepG w g A1 A2 A3 c1 c2 c3) (hgd : goodF g = true) {n : Nat} (hn : nsym g = n) :
    Calls Try.prog 42 #[.agg #[.slice A1 g.terms.length c1,.slice A2 g.names.length c2,.slice A3 g.rules.length c3]] w fun e w' => AnsB w n (usefulF g) e w' ∧ Below w.heap.size w w':=by
  obtain ⟨v0,hv0⟩ : ∃ v0 : World,v0 = w.alloc (.cells #[.slice A1 g.terms.length c1,.slice A2 g.names.length c2,.slice A3 g.rules.length c3] 25 (0,0)):=⟨_,rfl⟩
  have HB0 : Aside0 (Below w.heap.size w v0):=⟨by rw [hv0];exact (Below.refl w.heap.size w).alloc (Nat.le_refl _) _⟩
  have HP0 : Aside0 (v0.heap[w.heap.size]? = some (.cells #[.slice A1 g.terms.length c1,.slice A2 g.names.length c2,.slice A3 g.rules.length c3] 25 (0,0))):=⟨by rw [hv0];exact blk_new w _⟩
  have HG0:=Aside0.mk (hg.below_ HB0.out)
  have q:=goodF_small hgd
  have hn80 : n ≤ 80:=by rw [← hn];unfold nsym;omega
  have hTn : g.terms.length < n:=by rw [← hn];unfold nsym;omega
  have HPL : Aside0 ((prodF g).length = n):=⟨by rw [(prodF_is hgd).1,hn]⟩
  have HMEM : Aside0 (∀ r ∈ g.rules,∀ s ∈ r.right,0 ≤ s ∧ s < (prodF g).length):=⟨fun r hr s hs => by rw [(prodF_is hgd).1];exact (goodF_mem hgd r hr).2.2.2 s hs⟩
  have HGD:=Lib.hid hgd
  have HN:=Lib.hid hn
  have hmk:=print_make_of (P:=Try.prog) 57 4 (.bool false) 1 Try.underlying57 (by kernel_rfl) rfl (by decide) n (by omega)
  have HMK:=Aside0.mk hmk
  clear hg hgd hn q hmk
  go_enter Try.func42,Try.ntmps42
  go_upto_region 1 with (fail)
  simp only [← hv0]
  refine pl_start ?_
  refine pl_held (B:=v0.heap.size) (v:=v0) (Below.refl _ _) (fun hHeld => ?_)
  refine pl_pure (N:=(some 5)) (v:=?v59) (by rfl) rfl ?h59 ?_
  case h59 => (have d0:=(blk_cell (blk_below HP0.out hHeld) 0).trans rfl;have d1:=(blk_cell (blk_below HP0.out hHeld) 1).trans rfl;have d2:=(blk_cell (blk_below HP0.out hHeld) 2).trans rfl;go_simp;rfl)
  simp only [Act.put,List.setIfInBounds_toArray,List.set_cons_zero,List.set_cons_succ]
  refine goesCL_ (N:=(some 6)) Try.func40 (by kernel_rfl) rfl (by rfl) rfl rfl (prod_yes g A1 A2 A3 c1 c2 c3 _ (HG0.out.below_ hHeld) HGD.out HN.out) (by simp [Act.eval]) ?_
  rintro e x1_1 ⟨⟨b,rfl,hbb,hbs⟩,hb1_1⟩
  refine ⟨_,rfl,?_⟩
  simp only [Act.put,List.setIfInBounds_toArray,List.set_cons_zero,List.set_cons_succ]
  refine pl_held (B:=v0.heap.size) (v:=v0) (below_then hHeld hHeld.size hb1_1) (fun hHeld => ?_)
  refine pl_value (N:=(some 3)) (v:=?v61) (w1:=?w61) (by rfl) rfl ?h61 ?_
  case h61 => (go_simp;first | rfl | (constructor;rfl;rfl))
  simp only [Act.put,List.setIfInBounds_toArray,List.set_cons_zero,List.set_cons_succ]
  refine pl_skip (w1:=?w62) (by rfl) rfl ?h62 ?_
  case h62 => (go_simp;rfl)
  refine pl_world ?_
  intro x1_3 hb1_3 hx1_3 hs1_3 hq1_3
  refine pl_held (B:=v0.heap.size) (v:=v0) (below_then hHeld hHeld.size hb1_3) (fun hHeld => ?_)
  refine pl_nil ?_
  have HX:=Aside0.mk hHeld
  have K1:=Aside0.mk (blk_below HP0.out hHeld)
  have K2:=Aside0.mk hx1_3
  have HBB:=Aside0.mk (hbb.below hb1_3)
  have HG1:=Aside0.mk (HG0.out.below_ hHeld)
  have HV1:=Aside0.mk (below_then HB0.out HB0.out.size hHeld)
  have a1:=(blk_cell K1.out 0).trans rfl
  have a2:=(blk_cell K2.out 0).trans rfl
  have hen:=eql_nil (some ⟨b,0,none⟩) n n
  simp only [Option.isNone_some] at hen
  clear hbb hbs hb1_1 hb1_3 hx1_3 hs1_3 hq1_3 hHeld
  cases hst : getB (prodF g) (g.terms.length : Int)
  · have hz:=HBB.out.cell' (by rw [HPL.out];exact hTn) hst
    have HU : Aside0 (usefulF g = List.replicate n false):=⟨by rw [usefulF,hst,if_neg (by decide),HN.out]⟩
    clear hst
    go_upto_region 6 with (fail)
    have hmk:=HMK.out
    clear a1 a2 hz hen
    refine pl_start ?_
    refine pl_held (B:=x1_3.heap.size) (v:=x1_3) (Below.refl _ _) (fun hHeld => ?_)
    refine pl_pure (N:=(some 17)) (v:=?v63) (by rfl) rfl ?h63 ?_
    case h63 => (have d0:=(blk_cell (blk_below K1.out hHeld) 0).trans rfl;have d1:=(blk_cell (blk_below K1.out hHeld) 1).trans rfl;have d2:=(blk_cell (blk_below K1.out hHeld) 2).trans rfl;go_simp;rfl)
    simp only [Act.put,List.setIfInBounds_toArray,List.set_cons_zero,List.set_cons_succ]
    refine goesCL_ (N:=(some 18)) Try.func67 (by kernel_rfl) rfl (by rfl) rfl rfl (size_c g A1 A2 A3 c1 c2 c3 _ HN.out (by omega)) (by simp [Act.eval]) ?_
    rintro e x6_1 ⟨rfl,hb6_1⟩
    refine ⟨_,rfl,?_⟩
    simp only [Act.put,List.setIfInBounds_toArray,List.set_cons_zero,List.set_cons_succ]
    refine pl_held (B:=x1_3.heap.size) (v:=x1_3) (below_then hHeld hHeld.size hb6_1) (fun hHeld => ?_)
    refine pl_alloc (N:=(some 19)) (v:=?v1) (o:=?o1) (by rfl) rfl ?h1 ?_
    case h1 => (go_simp;first | rfl | (constructor;rfl;rfl))
    intro x6_2 hb6_2 hx6_2 hs6_2 hq6_2
    simp only [Act.put,List.setIfInBounds_toArray,List.set_cons_zero,List.set_cons_succ]
    refine pl_held (B:=x1_3.heap.size) (v:=x1_3) (below_then hHeld hHeld.size hb6_2) (fun hHeld => ?_)
    refine pl_pure (N:=(some 2)) (v:=?v2) (by rfl) rfl ?h2 ?_
    case h2 => (go_simp;rfl)
    simp only [Act.put,List.setIfInBounds_toArray,List.set_cons_zero,List.set_cons_succ]
    refine pl_nil ?_
    have HE : Aside0 (AnsB w n (usefulF g) (.returned (.slice (some ⟨x6_1.heap.size,0,none⟩) n n)) x6_2):=⟨⟨_,rfl,by rw [HU.out,hq6_2.out];exact BB.new x6_1 n,by have h1:=HV1.out.size;have h2:=hb6_1.size;omega⟩⟩
    clear hmk
    go_wp2
    go_ret
    exact ⟨HE.out,below_then HV1.out HV1.out.size hHeld⟩
  · have hz:=HBB.out.cell' (by rw [HPL.out];exact hTn) hst
    have HU : Aside0 (usefulF g = reachF g (prodOk g) g.terms.length):=⟨by rw [usefulF,hst,if_pos rfl]⟩
    clear hst
    have hmf : ∀ (fn : Fn) (first cap : Array Value) (w : World),(Instr.makeFunc fn first cap).run Try.prog w = .ok (.func fn first cap) w:=fun _ _ _ _ => rfl
    go_upto_region 7 with (fail)
    clear a1 a2 hz hen
    refine pl_start ?_
    refine pl_held (B:=x1_3.heap.size) (v:=x1_3) (Below.refl _ _) (fun hHeld => ?_)
    refine pl_pure (N:=(some 20)) (v:=?v65) (by rfl) rfl ?h65 ?_
    case h65 => (have d0:=(blk_cell (blk_below K1.out hHeld) 0).trans rfl;have d1:=(blk_cell (blk_below K1.out hHeld) 1).trans rfl;have d2:=(blk_cell (blk_below K1.out hHeld) 2).trans rfl;go_simp;rfl)
    simp only [Act.put,List.setIfInBounds_toArray,List.set_cons_zero,List.set_cons_succ]
    refine pl_pure (N:=(some 21)) (v:=?v66) (by rfl) rfl ?h66 ?_
    case h66 => (go_simp;rfl)
    simp only [Act.put,List.setIfInBounds_toArray,List.set_cons_zero,List.set_cons_succ]
    refine pl_pure (N:=some 22) (v:=?vf) (by rfl) rfl ?hf ?_
    case hf => (go_simp;rfl)
    simp only [Act.put,List.setIfInBounds_toArray,List.set_cons_zero,List.set_cons_succ]
    refine goesCL_ (N:=(some 23)) Try.func68 (by kernel_rfl) rfl (by rfl) rfl rfl (reach_c g A1 A2 A3 c1 c2 c3 (g.terms.length : Int) _ (prodOk g) _ (HG1.out.below_ hHeld) HGD.out HN.out (by omega) (by omega) (pred_useful _ _ _ n (prodF g) _ _ (blk_below K2.out hHeld) ((HBB.out.below hHeld).C' HPL.out (by omega)) HMEM.out)) (by simp [Act.eval]) ?_
    rintro e x7_3 ⟨⟨b2,rfl,hbb2,hbs2⟩,hb7_3⟩
    refine ⟨_,rfl,?_⟩
    simp only [Act.put,List.setIfInBounds_toArray,List.set_cons_zero,List.set_cons_succ]
    refine pl_held (B:=x1_3.heap.size) (v:=x1_3) (below_then hHeld hHeld.size hb7_3) (fun hHeld => ?_)
    refine pl_pure (N:=(some 2)) (v:=?v69) (by rfl) rfl ?h69 ?_
    case h69 => (go_simp;rfl)
    simp only [Act.put,List.setIfInBounds_toArray,List.set_cons_zero,List.set_cons_succ]
    refine pl_nil ?_
    have HE : Aside0 (AnsB w n (usefulF g) (.returned (.slice (some ⟨b2,0,none⟩) n n)) x7_3):=⟨⟨b2,rfl,by rw [HU.out];exact hbb2,by have h1:=HV1.out.size;omega⟩⟩
    clear hmf
    go_wp2
    go_ret
    exact ⟨HE.out,below_then HV1.out HV1.out.size hHeld⟩
end Go.Proofs.Ytphmmppmhphgeaa

/- What is useful: reached by productive rules from a productive start. -/
set_option linter.unusedVariables false
set_option linter.unusedSimpArgs false
namespace Go.Proofs.Ytphmmppmhphgeaa

theorem start_in {g : Gram} (h : goodF g = true) : (0 : Int) ≤ (g.terms.length : Int) ∧ (g.terms.length : Int) < nsym g:=by
  have:=goodF_small h
  unfold nsym
  omega
theorem reach_prod {g : Gram} (h : goodF g = true) (hs : getB (prodF g) g.terms.length = true) {s : Int} (hr : getB (reachF g (prodOk g) g.terms.length) s = true) : getB (prodF g) s = true:=by
  have hd:=((reachF_is h (prodOk g) (start_in h).1 (start_in h).2).2 s).1 hr
  cases hd with
  | init hi => rw [show s = _ from hi];exact hs
  | step hm _ =>
    obtain ⟨r,hr,hok,_,hx⟩:=hornR_mem hm
    rw [prodOk,allF,List.all_eq_true] at hok
    exact hok _ hx
theorem useful_and {g : Gram} (h : goodF g = true) (s : Int) : (getB (reachF g (prodOk g) g.terms.length) s && getB (prodF g) s && getB (prodF g) g.terms.length) = getB (usefulF g) s:=by
  unfold usefulF
  cases hp : getB (prodF g) g.terms.length
  · rw [if_neg (by decide),getB_replicate,Bool.and_false]
  · rw [if_pos rfl,Bool.and_true]
    cases hr : getB (reachF g (prodOk g) g.terms.length) s
    · rfl
    · rw [reach_prod h hp hr];rfl
theorem usefulF_len {g : Gram} (h : goodF g = true) : (usefulF g).length = nsym g:=by
  unfold usefulF
  split
  · exact (reachF_is h (prodOk g) (start_in h).1 (start_in h).2).1
  · simp
theorem getB_of {m m' : List Bool} {n : Nat} (h1 : m.length = n) (h2 : m'.length = n) (h : ∀ t : Nat,t < n → getB m (t : Int) = getB m' (t : Int)) : m = m' :=
  getB_ext (h1.trans h2.symm) (fun i hi => by rw [h i (by omega)])
end Go.Proofs.Ytphmmppmhphgeaa

/- The wakes of law 07 answer true. -/
set_option linter.unusedVariables false
set_option linter.unusedSimpArgs false
namespace Go.Proofs.Ytphmmppmhphgeaa
open Go.RowKit Go.Proofs.YtphmmppmhphgeaaW.PrintWords Go.Proofs.YtphmmppmhphgeaaW.PrintLast

def wake7S : ByteArray:=⟨#[83,32,61,32,65,32,39,120,39,32,124,32,39,97,39,32,66,32,59,32,65,32,61,32,65,32,39,98,39,32,59,32,66,32,61,32,59,32,67,32,61,32,83,32,59]⟩
def wake7G : Gram:=⟨[⟨#[120]⟩,⟨#[97]⟩,⟨#[98]⟩],[⟨#[83]⟩,⟨#[65]⟩,⟨#[66]⟩,⟨#[67]⟩],[⟨3,[4,0]⟩,⟨3,[1,5]⟩,⟨4,[4,2]⟩,⟨5,[]⟩,⟨6,[3]⟩]⟩
theorem BB.Cn {W : World} {b n : Nat} {m : List Bool} (h : BB W b m) (hl : m.length = n) (hs : n ≤ 9223372036854775807) : Kd.bool.C W (some ⟨b,0,none⟩) n m:=by subst hl;exact h.C hs
theorem wake7_of : ofF wake7S = .ok wake7G:=by kernel_rfl
theorem wake7_good : goodF wake7G = true:=by kernel_rfl
theorem wake7_n : nsym wake7G = 7:=by kernel_rfl
theorem wake7_reach : reachF wake7G allOk 3 = [true,true,true,true,true,true,false]:=by kernel_rfl
theorem wake7_prod : prodF wake7G = [true,true,true,true,false,true,true]:=by kernel_rfl
theorem wake7_use : usefulF wake7G = [false,true,false,true,false,true,false]:=by kernel_rfl
theorem wake7_out : inG wake7G 7 = false:=by kernel_rfl
set_option maxRecDepth 100000 in
set_option maxHeartbeats 8000000 in
theorem wakes07_c (w : World) : Calls Try.prog 37 #[] w fun e w' => e = .returned (.bool true) ∧ Below w.heap.size w w':=by
  obtain ⟨wg,hwg⟩ : ∃ g,g = wake7G:=⟨_,rfl⟩
  have HOF : Aside0 (ofF wake7S = .ok wg):=⟨by rw [hwg];exact wake7_of⟩
  have HGD : Aside0 (goodF wg = true):=⟨by rw [hwg];exact wake7_good⟩
  have HN : Aside0 (nsym wg = 7):=⟨by rw [hwg];exact wake7_n⟩
  have HR : Aside0 (reachF wg allOk 3 = [true,true,true,true,true,true,false]):=⟨by rw [hwg];exact wake7_reach⟩
  have HP : Aside0 (prodF wg = [true,true,true,true,false,true,true]):=⟨by rw [hwg];exact wake7_prod⟩
  have HU : Aside0 (usefulF wg = [false,true,false,true,false,true,false]):=⟨by rw [hwg];exact wake7_use⟩
  have HO : Aside0 (inG wg 7 = false):=⟨by rw [hwg];exact wake7_out⟩
  clear hwg
  go_enter Try.func37,Try.ntmps37
  go_upto_region 2 with (go_at_call 17;go_loud (refine (of_ok HOF.out w).mono ?_;rintro e w1 ⟨⟨A1,A2,A3,c1,c2,c3,rfl,hg1⟩,hb1⟩;have HB1:=Aside0.mk hb1;have HG1:=Aside0.mk hg1;clear hg1 hb1))
  obtain ⟨v,hv⟩ : ∃ v,v = (w1.alloc (.cells #[.slice A1 wg.terms.length c1,.slice A2 wg.names.length c2,.slice A3 wg.rules.length c3] 25 (0,0))).alloc (.cells #[.int .i64 0,.int .i64 0] 30 (0,0)):=⟨_,rfl⟩
  have K1 : Aside0 (v.heap[w1.heap.size]? = some (.cells #[.slice A1 wg.terms.length c1,.slice A2 wg.names.length c2,.slice A3 wg.rules.length c3] 25 (0,0))):=⟨by rw [hv];exact blk_alloc (blk_new w1 _) _⟩
  have K2 : Aside0 (v.heap[w1.heap.size + 1]? = some (.cells #[.int .i64 0,.int .i64 0] 30 (0,0))):=⟨by rw [hv];exact blk_snd w1 _ _⟩
  have HG : Aside0 (RepG v wg A1 A2 A3 c1 c2 c3):=⟨by rw [hv];exact HG1.out.below_ (below_alloc (below_alloc (Below.refl _ _) _) _)⟩
  have HB : Aside0 (Below w.heap.size w v):=⟨by rw [hv];exact (HB1.out.alloc HB1.out.size _).alloc (by simp;have:=HB1.out.size;omega) _⟩
  simp only [← hv]
  clear hv HG1 HB1
  refine pl_start ?_
  refine pl_held (B:=v.heap.size) (v:=v) (Below.refl _ _) (fun hHeld => ?_)
  refine pl_pure (N:=(some 7)) (v:=?v1) (by rfl) rfl ?h1 ?_
  case h1 => (go_simp;rfl)
  simp only [Act.put,List.setIfInBounds_toArray,List.set_cons_zero,List.set_cons_succ]
  refine pl_pure (N:=(some 8)) (v:=?v2) (by rfl) rfl ?h2 ?_
  case h2 => (have d0:=(blk_cell (blk_below K1.out hHeld) 0).trans rfl;have d1:=(blk_cell (blk_below K1.out hHeld) 1).trans rfl;have d2:=(blk_cell (blk_below K1.out hHeld) 2).trans rfl;have d3:=(blk_cell (blk_below K2.out hHeld) 0).trans rfl;have d4:=(blk_cell (blk_below K2.out hHeld) 1).trans rfl;go_simp;rfl)
  simp only [Act.put,List.setIfInBounds_toArray,List.set_cons_zero,List.set_cons_succ]
  refine pl_pure (N:=(some 9)) (v:=?v3) (by rfl) rfl ?h3 ?_
  case h3 => (go_simp;rfl)
  simp only [Act.put,List.setIfInBounds_toArray,List.set_cons_zero,List.set_cons_succ]
  refine pl_pure (N:=(some 10)) (v:=?v4) (by rfl) rfl ?h4 ?_
  case h4 => (go_simp;rfl)
  simp only [Act.put,List.setIfInBounds_toArray,List.set_cons_zero,List.set_cons_succ]
  refine pl_pure (N:=(some 11)) (v:=?v5) (by rfl) rfl ?h5 ?_
  case h5 => (have d0:=(blk_cell (blk_below K1.out hHeld) 0).trans rfl;have d1:=(blk_cell (blk_below K1.out hHeld) 1).trans rfl;have d2:=(blk_cell (blk_below K1.out hHeld) 2).trans rfl;have d3:=(blk_cell (blk_below K2.out hHeld) 0).trans rfl;have d4:=(blk_cell (blk_below K2.out hHeld) 1).trans rfl;go_simp;rfl)
  simp only [Act.put,List.setIfInBounds_toArray,List.set_cons_zero,List.set_cons_succ]
  refine goesCL_ (N:=(some 12)) Try.func38 (by kernel_rfl) rfl (by rfl) rfl rfl (reachU_yes wg A1 A2 A3 c1 c2 c3 3 _ (HG.out.below_ hHeld) HGD.out HN.out (by decide) (by decide)) (by simp [Act.eval]) ?_
  rintro e x2_5 ⟨⟨b5,rfl,hbb5,hbs5⟩,hb2_5⟩
  refine ⟨_,rfl,?_⟩
  simp only [Act.put,List.setIfInBounds_toArray,List.set_cons_zero,List.set_cons_succ]
  refine pl_held (B:=v.heap.size) (v:=v) (below_then hHeld hHeld.size hb2_5) (fun hHeld => ?_)
  refine pl_alloc (N:=(some 13)) (v:=?v7) (o:=?o7) (by rfl) rfl ?h7 ?_
  case h7 => (go_simp;first | rfl | (constructor;rfl;rfl))
  intro x2_6 hb2_6 hx2_6 hs2_6 hq2_6
  simp only [Act.put,List.setIfInBounds_toArray,List.set_cons_zero,List.set_cons_succ]
  refine pl_held (B:=v.heap.size) (v:=v) (below_then hHeld hHeld.size hb2_6) (fun hHeld => ?_)
  refine goesCL_ (N:=(some 14)) Try.func29 (by kernel_rfl) rfl (by rfl) rfl rfl (keepBools_v (some ⟨b5,0,none⟩) (some ⟨x2_5.heap.size,0,none⟩) 7 7 7 7 _ [true,true,true,true,true,true,false] _ ((hbb5.below hb2_6).Cn (by rw [HR.out];rfl) (by decide)) ((show BB _ _ [true,true,true,true,true,true,false] from hx2_6).C (by decide)) (decide_eq_true HR.out)) (by simp [Act.eval]) ?_
  rintro e x2_7 ⟨rfl,hb2_7⟩
  refine ⟨_,rfl,?_⟩
  simp only [Act.put,List.setIfInBounds_toArray,List.set_cons_zero,List.set_cons_succ]
  refine pl_held (B:=v.heap.size) (v:=v) (below_then hHeld hHeld.size hb2_7) (fun hHeld => ?_)
  refine pl_pure (N:=(some 15)) (v:=?v9) (by rfl) rfl ?h9 ?_
  case h9 => (go_simp;rfl)
  simp only [Act.put,List.setIfInBounds_toArray,List.set_cons_zero,List.set_cons_succ]
  refine pl_pure (N:=(some 16)) (v:=?v10) (by rfl) rfl ?h10 ?_
  case h10 => (go_simp;rfl)
  simp only [Act.put,List.setIfInBounds_toArray,List.set_cons_zero,List.set_cons_succ]
  refine pl_pure (N:=(some 17)) (v:=?v11) (by rfl) rfl ?h11 ?_
  case h11 => (have d0:=(blk_cell (blk_below K1.out hHeld) 0).trans rfl;have d1:=(blk_cell (blk_below K1.out hHeld) 1).trans rfl;have d2:=(blk_cell (blk_below K1.out hHeld) 2).trans rfl;have d3:=(blk_cell (blk_below K2.out hHeld) 0).trans rfl;have d4:=(blk_cell (blk_below K2.out hHeld) 1).trans rfl;go_simp;rfl)
  simp only [Act.put,List.setIfInBounds_toArray,List.set_cons_zero,List.set_cons_succ]
  refine goesCL_ (N:=(some 18)) Try.func40 (by kernel_rfl) rfl (by rfl) rfl rfl (prod_yes wg A1 A2 A3 c1 c2 c3 _ (HG.out.below_ hHeld) HGD.out HN.out) (by simp [Act.eval]) ?_
  rintro e x2_11 ⟨⟨b11,rfl,hbb11,hbs11⟩,hb2_11⟩
  refine ⟨_,rfl,?_⟩
  simp only [Act.put,List.setIfInBounds_toArray,List.set_cons_zero,List.set_cons_succ]
  refine pl_held (B:=v.heap.size) (v:=v) (below_then hHeld hHeld.size hb2_11) (fun hHeld => ?_)
  refine pl_alloc (N:=(some 19)) (v:=?v13) (o:=?o13) (by rfl) rfl ?h13 ?_
  case h13 => (go_simp;first | rfl | (constructor;rfl;rfl))
  intro x2_12 hb2_12 hx2_12 hs2_12 hq2_12
  simp only [Act.put,List.setIfInBounds_toArray,List.set_cons_zero,List.set_cons_succ]
  refine pl_held (B:=v.heap.size) (v:=v) (below_then hHeld hHeld.size hb2_12) (fun hHeld => ?_)
  refine goesCL_ (N:=(some 20)) Try.func29 (by kernel_rfl) rfl (by rfl) rfl rfl (keepBools_v (some ⟨b11,0,none⟩) (some ⟨x2_11.heap.size,0,none⟩) 7 7 7 7 _ [true,true,true,true,false,true,true] _ ((hbb11.below hb2_12).Cn (by rw [HP.out];rfl) (by decide)) ((show BB _ _ [true,true,true,true,false,true,true] from hx2_12).C (by decide)) (decide_eq_true HP.out)) (by simp [Act.eval]) ?_
  rintro e x2_13 ⟨rfl,hb2_13⟩
  refine ⟨_,rfl,?_⟩
  simp only [Act.put,List.setIfInBounds_toArray,List.set_cons_zero,List.set_cons_succ]
  refine pl_held (B:=v.heap.size) (v:=v) (below_then hHeld hHeld.size hb2_13) (fun hHeld => ?_)
  refine pl_pure (N:=(some 21)) (v:=?v15) (by rfl) rfl ?h15 ?_
  case h15 => (go_simp;rfl)
  simp only [Act.put,List.setIfInBounds_toArray,List.set_cons_zero,List.set_cons_succ]
  refine pl_pure (N:=(some 22)) (v:=?v16) (by rfl) rfl ?h16 ?_
  case h16 => (go_simp;rfl)
  simp only [Act.put,List.setIfInBounds_toArray,List.set_cons_zero,List.set_cons_succ]
  refine pl_pure (N:=(some 23)) (v:=?v17) (by rfl) rfl ?h17 ?_
  case h17 => (have d0:=(blk_cell (blk_below K1.out hHeld) 0).trans rfl;have d1:=(blk_cell (blk_below K1.out hHeld) 1).trans rfl;have d2:=(blk_cell (blk_below K1.out hHeld) 2).trans rfl;have d3:=(blk_cell (blk_below K2.out hHeld) 0).trans rfl;have d4:=(blk_cell (blk_below K2.out hHeld) 1).trans rfl;go_simp;rfl)
  simp only [Act.put,List.setIfInBounds_toArray,List.set_cons_zero,List.set_cons_succ]
  refine goesCL_ (N:=(some 24)) Try.func42 (by kernel_rfl) rfl (by rfl) rfl rfl (useful_yes wg A1 A2 A3 c1 c2 c3 _ (HG.out.below_ hHeld) HGD.out HN.out) (by simp [Act.eval]) ?_
  rintro e x2_17 ⟨⟨b17,rfl,hbb17,hbs17⟩,hb2_17⟩
  refine ⟨_,rfl,?_⟩
  simp only [Act.put,List.setIfInBounds_toArray,List.set_cons_zero,List.set_cons_succ]
  refine pl_held (B:=v.heap.size) (v:=v) (below_then hHeld hHeld.size hb2_17) (fun hHeld => ?_)
  refine pl_alloc (N:=(some 25)) (v:=?v19) (o:=?o19) (by rfl) rfl ?h19 ?_
  case h19 => (go_simp;first | rfl | (constructor;rfl;rfl))
  intro x2_18 hb2_18 hx2_18 hs2_18 hq2_18
  simp only [Act.put,List.setIfInBounds_toArray,List.set_cons_zero,List.set_cons_succ]
  refine pl_held (B:=v.heap.size) (v:=v) (below_then hHeld hHeld.size hb2_18) (fun hHeld => ?_)
  refine goesCL_ (N:=(some 26)) Try.func29 (by kernel_rfl) rfl (by rfl) rfl rfl (keepBools_v (some ⟨b17,0,none⟩) (some ⟨x2_17.heap.size,0,none⟩) 7 7 7 7 _ [false,true,false,true,false,true,false] _ ((hbb17.below hb2_18).Cn (by rw [HU.out];rfl) (by decide)) ((show BB _ _ [false,true,false,true,false,true,false] from hx2_18).C (by decide)) (decide_eq_true HU.out)) (by simp [Act.eval]) ?_
  rintro e x2_19 ⟨rfl,hb2_19⟩
  refine ⟨_,rfl,?_⟩
  simp only [Act.put,List.setIfInBounds_toArray,List.set_cons_zero,List.set_cons_succ]
  refine pl_held (B:=v.heap.size) (v:=v) (below_then hHeld hHeld.size hb2_19) (fun hHeld => ?_)
  refine pl_pure (N:=(some 27)) (v:=?v21) (by rfl) rfl ?h21 ?_
  case h21 => (go_simp;rfl)
  simp only [Act.put,List.setIfInBounds_toArray,List.set_cons_zero,List.set_cons_succ]
  refine pl_pure (N:=(some 28)) (v:=?v22) (by rfl) rfl ?h22 ?_
  case h22 => (go_simp;rfl)
  simp only [Act.put,List.setIfInBounds_toArray,List.set_cons_zero,List.set_cons_succ]
  refine pl_pure (N:=(some 29)) (v:=?v23) (by rfl) rfl ?h23 ?_
  case h23 => (have d0:=(blk_cell (blk_below K1.out hHeld) 0).trans rfl;have d1:=(blk_cell (blk_below K1.out hHeld) 1).trans rfl;have d2:=(blk_cell (blk_below K1.out hHeld) 2).trans rfl;have d3:=(blk_cell (blk_below K2.out hHeld) 0).trans rfl;have d4:=(blk_cell (blk_below K2.out hHeld) 1).trans rfl;go_simp;rfl)
  simp only [Act.put,List.setIfInBounds_toArray,List.set_cons_zero,List.set_cons_succ]
  refine goesCL_ (N:=(some 30)) Try.func38 (by kernel_rfl) rfl (by rfl) rfl rfl (reachU_no wg A1 A2 A3 c1 c2 c3 7 _ (HG.out.below_ hHeld) HO.out) (by simp [Act.eval]) ?_
  rintro e x2_23 ⟨rfl,hb2_23⟩
  refine ⟨_,rfl,?_⟩
  simp only [Act.put,List.setIfInBounds_toArray,List.set_cons_zero,List.set_cons_succ]
  refine pl_held (B:=v.heap.size) (v:=v) (below_then hHeld hHeld.size hb2_23) (fun hHeld => ?_)
  refine pl_pure (N:=(some 31)) (v:=?v25) (by rfl) rfl ?h25 ?_
  case h25 => (go_simp;rfl)
  simp only [Act.put,List.setIfInBounds_toArray,List.set_cons_zero,List.set_cons_succ]
  refine pl_pure (N:=(some 32)) (v:=?v26) (by rfl) rfl ?h26 ?_
  case h26 => (go_simp;rfl)
  simp only [Act.put,List.setIfInBounds_toArray,List.set_cons_zero,List.set_cons_succ]
  refine pl_pure (N:=(some 33)) (v:=?v27) (by rfl) rfl ?h27 ?_
  case h27 => (go_simp;rfl)
  simp only [Act.put,List.setIfInBounds_toArray,List.set_cons_zero,List.set_cons_succ]
  refine pl_pure (N:=(some 0)) (v:=?v28) (by rfl) rfl ?h28 ?_
  case h28 => (go_simp;rfl)
  simp only [Act.put,List.setIfInBounds_toArray,List.set_cons_zero,List.set_cons_succ]
  refine pl_nil ?_
  go_wp2
  go_ret
  exact ⟨ret_bool rfl,below_then HB.out HB.out.size hHeld⟩
end Go.Proofs.Ytphmmppmhphgeaa

/- What is reached,productive,useful: the plain laws of UsefulHolds and UsefulMore. -/
set_option linter.unusedVariables false
set_option linter.unusedSimpArgs false
namespace Go.Proofs.Ytphmmppmhphgeaa

def someP (m : List Bool) (l : List Rule) (s : Int) : Bool:=l.any fun r => decide (r.left = s) && allF m r.right
theorem someP_take {m : List Bool} {l : List Rule} {s : Int} {k : Nat} (h : k < l.length) : someP m (l.take (k + 1)) s = (someP m (l.take k) s || (decide ((l[k]'h).left = s) && allF m (l[k]'h).right)):=by
  rw [someP,List.take_succ_eq_append_getElem h,List.any_append]
  simp [someP]
theorem prod_some {g : Gram} (h : goodF g = true) {s : Int} (hs : (g.terms.length : Int) ≤ s) : getB (prodF g) s = someP (prodF g) g.rules s:=by
  have hd:=prodF_is h
  rw [Bool.eq_iff_iff,someP,List.any_eq_true]
  constructor
  · intro hs'
    rcases ((hd.2 s).1 hs').cases_ with h0 | ⟨b,hb,ha⟩
    · have:=h0.2;omega
    · obtain ⟨r,hr,he⟩:=List.mem_map.1 hb
      injection he with h1 h2
      exact ⟨r,hr,by rw [Bool.and_eq_true,decide_eq_true_eq];exact ⟨h2,by rw [h1];exact (hd.all b).2 ha⟩⟩
  · rintro ⟨r,hr,hrs⟩
    rw [Bool.and_eq_true,decide_eq_true_eq] at hrs
    exact (hd.2 s).2 (.step (List.mem_map.2 ⟨r,hr,by rw [hrs.1]⟩) ((hd.all _).1 hrs.2))
theorem prod_term {g : Gram} (h : goodF g = true) {s : Int} (h0 : 0 ≤ s) (hs : s < g.terms.length) : getB (prodF g) s = true :=
  ((prodF_is h).2 s).2 (.init ⟨h0,hs⟩)
theorem reach_self {g : Gram} (h : goodF g = true) (ok : Rule → Bool) {a : Int} (h0 : 0 ≤ a) (h1 : a < nsym g) : getB (reachF g ok a) a = true :=
  ((reachF_is h ok h0 h1).2 a).2 (.init rfl)
theorem Der.from_ {R : Horn} {I : Int → Prop} {b s : Int} (hb : Der R I b) (h : Der R (fromI b) s) : Der R I s:=by
  induction h with
  | init h => rw [show _ = b from h];exact hb
  | step hm _ ih => exact .step hm ih
theorem reach_trans {g : Gram} (h : goodF g = true) (ok : Rule → Bool) {a b c : Int} (h0 : 0 ≤ a) (h1 : a < nsym g) (hb : getB (reachF g ok a) b = true) (hc : getB (reachF g ok b) c = true) : getB (reachF g ok a) c = true:=by
  have ha:=reachF_is h ok h0 h1
  have hbi:=getB_in hb
  rw [ha.1] at hbi
  have hbb:=reachF_is h ok hbi.1 hbi.2
  exact (ha.2 c).2 (Der.from_ ((ha.2 b).1 hb) ((hbb.2 c).1 hc))
theorem reach_ok_mono {g h : Gram} (hg : goodF g = true) (hh : goodF h = true) {ok ok' : Rule → Bool} (hr : ∀ r ∈ g.rules,ok r = true → r ∈ h.rules ∧ ok' r = true) {a : Int} (h0 : 0 ≤ a) (h1 : a < nsym g) (h2 : a < nsym h) {s : Int} (hs : getB (reachF g ok a) s = true) : getB (reachF h ok' a) s = true:=by
  refine ((reachF_is hh ok' h0 h2).2 s).2 ((((reachF_is hg ok h0 h1).2 s).1 hs).mono (fun x hx => ?_) (fun _ h => h))
  obtain ⟨r,hr',hok,e1,e2⟩:=hornR_mem hx
  obtain ⟨m1,m2⟩:=hr r hr' hok
  have:=mem_hornR m1 m2 e2
  rwa [← e1] at this
theorem useful_reach {g : Gram} (h : goodF g = true) {s : Int} (hs : getB (usefulF g) s = true) : getB (reachF g allOk g.terms.length) s = true ∧ getB (prodF g) s = true:=by
  rw [← useful_and h,Bool.and_eq_true,Bool.and_eq_true] at hs
  exact ⟨reach_ok_mono h h (fun r hr _ => ⟨hr,rfl⟩) (start_in h).1 (start_in h).2 (start_in h).2 hs.1.1,hs.1.2⟩
/-! ### one rule more -/
theorem prod_more {g h : Gram} (hg : goodF g = true) (hh : goodF h = true) (ht : h.terms = g.terms) (hr : ∀ r ∈ g.rules,r ∈ h.rules) {s : Int} (hs : getB (prodF g) s = true) : getB (prodF h) s = true:=by
  refine ((prodF_is hh).2 s).2 ((((prodF_is hg).2 s).1 hs).mono (fun x hx => ?_) (fun _ h => by unfold termI at *;rw [ht];exact h))
  obtain ⟨r,hr',rfl⟩:=List.mem_map.1 hx
  exact List.mem_map.2 ⟨r,hr r hr',rfl⟩
theorem reach_more {g h : Gram} (hg : goodF g = true) (hh : goodF h = true) (ht : h.terms = g.terms) (hr : ∀ r ∈ g.rules,r ∈ h.rules) {s : Int} (hs : getB (reachF g allOk g.terms.length) s = true) : getB (reachF h allOk h.terms.length) s = true:=by
  have h3:=start_in hh
  rw [ht] at h3 ⊢
  exact reach_ok_mono hg hh (fun r hr' _ => ⟨hr r hr',rfl⟩) (start_in hg).1 (start_in hg).2 h3.2 hs
theorem useful_more {g h : Gram} (hg : goodF g = true) (hh : goodF h = true) (ht : h.terms = g.terms) (hr : ∀ r ∈ g.rules,r ∈ h.rules) {s : Int} (hs : getB (usefulF g) s = true) : getB (usefulF h) s = true:=by
  rw [← useful_and hg,Bool.and_eq_true,Bool.and_eq_true] at hs
  have h3:=start_in hh
  rw [← useful_and hh,Bool.and_eq_true,Bool.and_eq_true]
  rw [ht] at h3 ⊢
  refine ⟨⟨reach_ok_mono hg hh (fun r hr' hok => ⟨hr r hr',?_⟩) (start_in hg).1 (start_in hg).2 h3.2 hs.1.1,prod_more hg hh ht hr hs.1.2⟩,prod_more hg hh ht hr hs.2⟩
  rw [prodOk,allF,List.all_eq_true] at hok ⊢
  exact fun x hx => prod_more hg hh ht hr (hok x hx)
theorem useful_all {g : Gram} (hg : goodF g = true) (hp : ∀ s : Nat,s < nsym g → getB (prodF g) s = true) : usefulF g = reachF g allOk g.terms.length:=by
  have hs:=start_in hg
  rw [usefulF,if_pos (hp _ (by have:=hs.2;omega))]
  refine (reachF_is hg (prodOk g) hs.1 hs.2).unique ?_
  refine ⟨(reachF_is hg allOk hs.1 hs.2).1,fun s => ⟨fun h => ((reachF_is hg (prodOk g) hs.1 hs.2).2 s).1 (reach_ok_mono hg hg (fun r hr _ => ⟨hr,?_⟩) hs.1 hs.2 hs.2 h),fun h => ((((reachF_is hg allOk hs.1 hs.2).2 s).2 (h.mono (fun x hx => ?_) (fun _ h => h))))⟩⟩
  · rw [prodOk,allF,List.all_eq_true]
    intro x hx
    have hm:=(goodF_mem hg r hr).2.2.2 x hx
    obtain ⟨k,rfl⟩:=Int.eq_ofNat_of_zero_le hm.1
    exact hp k (by have:=hm.2;omega)
  · obtain ⟨r,hr,_,e1,e2⟩:=hornR_mem hx
    have:=mem_hornR (ok:=allOk) hr rfl e2
    rwa [← e1] at this
end Go.Proofs.Ytphmmppmhphgeaa
