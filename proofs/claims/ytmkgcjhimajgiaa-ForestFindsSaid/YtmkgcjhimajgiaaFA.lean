/- Contracts of functions of the program, and plain laws (texts X0, Wd, B1, B2, A1, A2, A3, B3, B4, Wa, B5, Wc, C1, C2, C3, C4, C5), joined: each theorem says what it proves. -/
import Derived.Test.YtmkgcjhimajgiaaFW
import Derived.Test.YtmkgcjhimajgiaaProg
import Derived.Lib.Hide
import Derived.Deep.QuietTactic
import Derived.BigQuiet
import Derived.WalkLawsBesides
import Derived.WalkSpells
import Derived.Deep.RegionHeld3
import Derived.StillTailTactics
import Derived.Deep.LoopGhost
import Derived.Recover
set_option linter.unusedVariables false
set_option linter.unusedSimpArgs false
namespace Go.Proofs.Ytmkgcjhimajgiaa
open Go.RowKit Go.Proofs.YtmkgcjhimajgiaaW.PrintLast
section
variable {P : Program} {ops : Array Oper} {Q : Exit → Act → World → Prop} {md : Region.Mode} {S : World → Prop} {ds : List Nat} {oi : Oper} {fuel : Nat} {l : Array Bool} {a : Act} {w : World}
theorem pu_ (v : Value) (a' : Act) (i : Nat) (N : Option Tmp) (l' : Array Bool) (h : wpAnyLast P md ops Q S ds fuel l' a' w) (hi : ops[i]? = some oi:=by rfl) (hN : oi.dst = N:=by rfl) (hc : anyB md ops l l' i = true:=by kernel_rfl)
    (hw : Region.wanted oi (yielded ops a.tmps) = true:=by rfl) (hy : ∀ w,(execOp a.eval oi).run P w = .ok (.value v) w:=by intro w';go_simp;with_reducible rfl)
    (ha : a.put N v = a':=by simp only [Act.put,List.setIfInBounds_toArray,List.set_cons_zero,List.set_cons_succ];rfl) (hQ : ∀ c a w,Q (.panic c) (a.put oi.dst v) w → Q (.panic c) a w:=by exact fun _ _ _ h => h) : wpAnyLast P md ops Q S ds (fuel + 1) l a w :=
  pure_ l' hi hN hc hQ (Or.inl ⟨hw,hy⟩) ha h
theorem po_ (a' : Act) (i : Nat) (N : Option Tmp) (l' : Array Bool) (h : wpAnyLast P md ops Q S ds fuel l' a' w) (hi : ops[i]? = some oi:=by rfl) (hN : oi.dst = N:=by rfl) (hc : anyB md ops l l' i = true:=by kernel_rfl)
    (hw : Region.wanted oi (yielded ops a.tmps) = false:=by rfl)
    (ha : a.put N undef = a':=by simp only [Act.put,List.setIfInBounds_toArray,List.set_cons_zero,List.set_cons_succ];rfl) (hQ : ∀ c a w,Q (.panic c) (a.put oi.dst undef) w → Q (.panic c) a w:=by exact fun _ _ _ h => h) : wpAnyLast P md ops Q S ds (fuel + 1) l a w :=
  pure_ l' hi hN hc hQ (Or.inr ⟨hw,rfl⟩) ha h
theorem ta_ (v : Value) (a' : Act) (i : Nat) (N : Option Tmp) (l' : Array Bool) (hS : S w) (h : wpAnyLast P md ops Q S ds fuel l' a' w) (hi : ops[i]? = some oi:=by rfl) (hN : oi.dst = N:=by rfl) (hc : takeB md ops ds l l' i = true:=by kernel_rfl)
    (hw : Region.wanted oi (yielded ops a.tmps) = true:=by rfl) (y : ∀ w,S w → (execOp a.eval oi).run P w = .ok (.value v) w)
    (ha : a.put N v = a':=by simp only [Act.put,List.setIfInBounds_toArray,List.set_cons_zero,List.set_cons_succ];rfl) (hQ : ∀ c a w,Q (.panic c) (a.put oi.dst v) w → Q (.panic c) a w:=by exact fun _ _ _ h => h) : wpAnyLast P md ops Q S ds (fuel + 1) l a w :=
  take_ l' hi hN hc hQ (Or.inl ⟨hw,y⟩) hS ha h
theorem on_ (i : Nat) (N : Option Tmp) (l' : Array Bool) (h : ∀ K : Act → World → Prop,Shut (∀ a' w',S w' → (S w' → wpAnyLast P md ops Q S ds fuel l' a' w') → K a' w') → if Region.wanted oi (yielded ops a.tmps) = true then Oper.wp P oi a w K Q else K (a.put N undef) w)
    (hi : ops[i]? = some oi:=by rfl) (hN : oi.dst = N:=by rfl) (hc : readyB md ops l l' i = true:=by kernel_rfl) (hd : i ∉ ds:=by decide) : wpAnyLast P md ops Q S ds (fuel + 1) l a w:=one_ l' hi hN hc hd h
theorem ls_ (i : Nat) (N : Option Tmp) (l' : Array Bool) (h : ∀ K : Act → World → Prop,Shut (∀ a' w',wpAnyLast P md ops Q S ds fuel l' a' w' → K a' w') → if Region.wanted oi (yielded ops a.tmps) = true then Oper.wp P oi a w K Q else K (a.put N undef) w)
    (hi : ops[i]? = some oi:=by rfl) (hN : oi.dst = N:=by rfl) (hc : readyB md ops l l' i = true:=by kernel_rfl) (hd : i ∈ ds:=by decide) : wpAnyLast P md ops Q S ds (fuel + 1) l a w:=last_ l' hi hN hc hd h
theorem nm_ {v : Value} (a' : Act) (N : Option Tmp) (h : wpAnyLast P md ops Q S ds fuel l a' w) (ha : a.put N v = a':=by simp only [Act.put,List.setIfInBounds_toArray,List.set_cons_zero,List.set_cons_succ];rfl) : wpAnyLast P md ops Q S ds fuel l (a.put N v) w:=norm_ ha h
theorem va_ (v : Value) (w1 : World) {N : Option Tmp} {K : Act → World → Prop} (h : K (a.put N v) w1) (hw : Region.wanted oi (yielded ops a.tmps) = true:=by rfl) (hN : oi.dst = N:=by rfl) (y : (execOp a.eval oi).run P w = .ok (.value v) w1:=by go_simp;first | with_reducible rfl | (constructor;rfl;rfl)) :
    if Region.wanted oi (yielded ops a.tmps) = true then Oper.wp P oi a w K Q else K (a.put N undef) w:=value_ hw hN y h
end
end Go.Proofs.Ytmkgcjhimajgiaa


set_option linter.unusedVariables false
set_option linter.unusedSimpArgs false
namespace Go.Proofs.Ytmkgcjhimajgiaa
open Go.RowKit Go.Proofs.YtmkgcjhimajgiaaW.PrintWords

theorem ret_int {k : IntKind} {a b : Int} (h : a = b) : Ending.returned (.int k a) = .returned (.int k b):=by rw [h]
theorem ret_bool {a b : Bool} (h : a = b) : Ending.returned (.bool a) = .returned (.bool b):=by rw [h]
def bsl (s : ByteArray) : List UInt8:=s.data.toList
def ofL (l : List UInt8) : ByteArray:=⟨l.toArray⟩
@[simp] theorem bsl_ofL (l : List UInt8) : bsl (ofL l) = l:=rfl
@[simp] theorem ofL_bsl (s : ByteArray) : ofL (bsl s) = s:=by simp [ofL,bsl]
theorem ba_ext {a b : ByteArray} (h : bsl a = bsl b) : a = b:=by rw [← ofL_bsl a,← ofL_bsl b,h]
theorem str_beq (a b : ByteArray) : (a.toList == b.toList) = decide (a = b):=by
  rw [ByteArray.toList_eq,ByteArray.toList_eq,Bool.eq_iff_iff,beq_iff_eq,decide_eq_true_eq]
  exact ⟨ba_ext,fun h => by rw [h]⟩
theorem bsl_extract (s : ByteArray) (a b : Nat) : bsl (s.extract a b) = ((bsl s).take b).drop a:=by
  simp [bsl,ByteArray.data_extract,List.extract_eq_take_drop,List.drop_take]
theorem size_data (s : ByteArray) : (bsl s).length = s.size:=by unfold bsl;rw [Array.length_toList];rfl
theorem below_set {B : Nat} {a w : World} (h : Below B a w) {g : Nat} (hg : B ≤ g) (i : Nat) (u : Value) : Below B a (w.setCell ⟨g,i,none⟩ u):=h.setCell (p:=⟨g,i,none⟩) hg u
theorem grown_set (W : World) (g i : Nat) (u : Value) : W.grownBy (W.setCell ⟨g,i,none⟩ u) (some g) :=
  ⟨rfl,rfl,rfl,by simp [World.setCell],fun k _ hne => Below.heap_setCell W ⟨g,i,none⟩ u k (fun h => hne (by rw [h]))⟩
theorem grown_alloc {W W1 : World} {row : Option Nat} (h : W.grownBy W1 row) (o : Obj) : W.grownBy (W1.alloc o) row:=World.grownBy.trans h (World.grownBy_alloc W1 o row)

structure Rule where
  left : Int
  right : List Int
deriving DecidableEq,Repr,Inhabited
structure Tok where
  kind : Int
  text : ByteArray
  pos : Int
deriving DecidableEq,Inhabited
structure Alt where
  left : Tok
  right : List Tok
deriving DecidableEq,Inhabited
structure Gram where
  terms : List ByteArray
  names : List ByteArray
  rules : List Rule
deriving DecidableEq,Inhabited

abbrev kInt : Kd Int:=Kd.int .i64
abbrev kStr : Kd ByteArray:=Kd.string
def kRule : Kd Rule:=Kd.iso (Kd.pair kInt (Kd.slice 3 kInt)) (fun x : Rule => (x.left,x.right))
def kTok : Kd Tok:=Kd.iso (Kd.pair kInt (Kd.pair kStr kInt)) (fun x : Tok => (x.kind,x.text,x.pos))
def kAlt : Kd Alt:=Kd.iso (Kd.pair kTok (Kd.slice 138 kTok)) (fun x : Alt => (x.left,x.right))

theorem infoInt : (Try.prog.info? 3).map (fun i => (i.zero,i.size,i.bytes)) = some (some (.int .i64 0),1,8):=by kernel_rfl
theorem infoStr : (Try.prog.info? 9).map (fun i => (i.zero,i.size,i.bytes)) = some (some (.string ⟨#[]⟩),1,16):=by kernel_rfl
theorem infoTok : (Try.prog.info? 138).map (fun i => (i.zero,i.size,i.bytes)) = some (some (.agg #[.int .i64 0,.string ⟨#[]⟩,.int .i64 0]),3,32):=by kernel_rfl
theorem infoRule : (Try.prog.info? 46).map (fun i => (i.zero,i.size,i.bytes)) = some (some (.agg #[.int .i64 0,.slice none 0 0]),2,32):=by kernel_rfl
theorem infoAlt : (Try.prog.info? 140).map (fun i => (i.zero,i.size,i.bytes)) = some (some (.agg #[.int .i64 0,.string ⟨#[]⟩,.int .i64 0,.slice none 0 0]),4,56):=by kernel_rfl
theorem M_tok (w : World) (base : Nat) (ok : Nat → Prop) (x : Tok) : kTok.M w base ok x [.int .i64 x.kind,.string x.text,.int .i64 x.pos]:=⟨[.int .i64 x.kind],[.string x.text,.int .i64 x.pos],rfl,rfl,⟨[.string x.text],[.int .i64 x.pos],rfl,rfl,rfl⟩⟩
theorem M_alt {w : World} {base : Nat} {ok : Nat → Prop} {x : Alt} {u : Value} (h : kTok.R 138 w base ok u x.right) : kAlt.M w base ok x [.int .i64 x.left.kind,.string x.left.text,.int .i64 x.left.pos,u] :=
  ⟨[.int .i64 x.left.kind,.string x.left.text,.int .i64 x.left.pos],[u],rfl,M_tok w base ok x.left,⟨u,rfl,h⟩⟩
theorem M_rule {w : World} {base : Nat} {ok : Nat → Prop} {x : Rule} {u : Value} (h : kInt.R 3 w base ok u x.right) : kRule.M w base ok x [.int .i64 x.left,u] :=
  ⟨[.int .i64 x.left],[u],rfl,rfl,⟨u,rfl,h⟩⟩
theorem C_lit (W : World) (xs : List Int) (hm : xs.length ≤ 9223372036854775807) : kInt.C (W.alloc (.cells (nums .i64 xs).toArray 3)) (some ⟨W.heap.size,0,none⟩) xs.length xs:=by
  have h:=own_lit W 0 3 .i64 xs (Nat.zero_le _) hm
  obtain ⟨A,c,e,hr⟩:=own_reads h
  injection e with e1 e2 e3
  rw [e1]
  exact Kd.C_of_reads hr

section
variable {α : Type} {w : World} {A : Option Addr} {n : Nat}
theorem C_at {d : Kd α} {xs : List α} (h : d.C w A n xs) (k : Nat) (hk : k < xs.length) :
    ∃ ad c,A = some ad ∧ c.length = d.sz ∧ d.K w xs[k] c ∧ ∀ j u,c[j]? = some u → w.cell? (ad.add (k * d.sz + j)) = some u:=by
  obtain ⟨ad,c,e,hl,hK,hc⟩:=Kd.C_get h xs[k] (k : Int) (by omega) (by have:=h.1;omega)
  refine ⟨ad,c,e,hl,?_,by simpa using hc⟩
  rw [List.getD_eq_getElem?_getD,Int.toNat_natCast,List.getElem?_eq_getElem hk] at hK
  exact hK
theorem C_len {d : Kd α} {xs : List α} (h : d.C w A n xs) : xs.length = n:=h.1
theorem C_max {d : Kd α} {xs : List α} (h : d.C w A n xs) : n ≤ 9223372036854775807:=h.2.1
theorem at_int {xs : List Int} {k : IntKind} (h : (Kd.int k).C w A n xs) (i : Nat) (hi : i < xs.length) : ∃ ad,A = some ad ∧ w.cell? (ad.add i) = some (.int k xs[i]):=by
  obtain ⟨ad,c,e,_,rfl,hc⟩:=C_at h i hi
  exact ⟨ad,e,by simpa [Kd.int,Kd.scalar] using hc 0 _ rfl⟩
theorem at_str {xs : List ByteArray} (h : Kd.string.C w A n xs) (i : Nat) (hi : i < xs.length) : ∃ ad,A = some ad ∧ w.cell? (ad.add i) = some (.string xs[i]):=by
  obtain ⟨ad,c,e,_,rfl,hc⟩:=C_at h i hi
  exact ⟨ad,e,by simpa [Kd.string,Kd.scalar] using hc 0 _ rfl⟩
theorem K_rule {x : Rule} {cs : List Value} (h : kRule.K w x cs) : ∃ A1 c1,cs = [.int .i64 x.left,.slice A1 x.right.length c1] ∧ x.right.length ≤ c1 ∧ kInt.C w A1 x.right.length x.right:=by
  obtain ⟨_,_,rfl,rfl,⟨A1,c1,rfl,l1,g1⟩⟩:=h
  exact ⟨A1,c1,rfl,l1,g1⟩
theorem K_tok {x : Tok} {cs : List Value} (h : kTok.K w x cs) : cs = [.int .i64 x.kind,.string x.text,.int .i64 x.pos]:=by
  obtain ⟨_,_,rfl,rfl,⟨_,_,rfl,rfl,rfl⟩⟩:=h
  rfl
theorem K_alt {x : Alt} {cs : List Value} (h : kAlt.K w x cs) : ∃ A1 c1,cs = [.int .i64 x.left.kind,.string x.left.text,.int .i64 x.left.pos,.slice A1 x.right.length c1] ∧ x.right.length ≤ c1 ∧ kTok.C w A1 x.right.length x.right:=by
  obtain ⟨_,_,rfl,h1,⟨A1,c1,rfl,l1,g1⟩⟩:=h
  obtain rfl:=K_tok h1
  exact ⟨A1,c1,rfl,l1,g1⟩
theorem at_rule {xs : List Rule} (h : kRule.C w A n xs) (i : Nat) (hi : i < xs.length) :
    ∃ ad A1 c1,A = some ad ∧ w.cell? (ad.add (i * 2)) = some (.int .i64 xs[i].left) ∧ w.cell? ⟨(ad.add (i * 2)).block,(ad.add (i * 2)).off + 1,none⟩ = some (.slice A1 xs[i].right.length c1) ∧ xs[i].right.length ≤ c1 ∧ kInt.C w A1 xs[i].right.length xs[i].right:=by
  obtain ⟨ad,c,e,_,hK,hc0⟩:=C_at h i hi
  obtain ⟨A1,c1,rfl,h1,h2⟩:=K_rule hK
  have hc : ∀ j u,_ → w.cell? (ad.add (i * 2 + j)) = some u:=hc0
  exact ⟨ad,A1,c1,e,hc 0 _ rfl,by rw [← add_field _ _ 1 (by omega)];exact hc 1 _ rfl,h1,h2⟩
theorem at_tok {xs : List Tok} (h : kTok.C w A n xs) (i : Nat) (hi : i < xs.length) :
    ∃ ad,A = some ad ∧ w.cell? (ad.add (i * 3)) = some (.int .i64 xs[i].kind) ∧ w.cell? ⟨(ad.add (i * 3)).block,(ad.add (i * 3)).off + 1,none⟩ = some (.string xs[i].text) ∧ w.cell? ⟨(ad.add (i * 3)).block,(ad.add (i * 3)).off + 2,none⟩ = some (.int .i64 xs[i].pos):=by
  obtain ⟨ad,c,e,_,hK,hc0⟩:=C_at h i hi
  obtain rfl:=K_tok hK
  have hc : ∀ j u,_ → w.cell? (ad.add (i * 3 + j)) = some u:=hc0
  exact ⟨ad,e,hc 0 _ rfl,by rw [← add_field _ _ 1 (by omega)];exact hc 1 _ rfl,by rw [← add_field _ _ 2 (by omega)];exact hc 2 _ rfl⟩
theorem at_alt {xs : List Alt} (h : kAlt.C w A n xs) (i : Nat) (hi : i < xs.length) :
    ∃ ad A1 c1,A = some ad ∧ w.cell? (ad.add (i * 4)) = some (.int .i64 xs[i].left.kind) ∧ w.cell? ⟨(ad.add (i * 4)).block,(ad.add (i * 4)).off + 1,none⟩ = some (.string xs[i].left.text) ∧ w.cell? ⟨(ad.add (i * 4)).block,(ad.add (i * 4)).off + 2,none⟩ = some (.int .i64 xs[i].left.pos) ∧ w.cell? ⟨(ad.add (i * 4)).block,(ad.add (i * 4)).off + 3,none⟩ = some (.slice A1 xs[i].right.length c1) ∧ xs[i].right.length ≤ c1 ∧ kTok.C w A1 xs[i].right.length xs[i].right:=by
  obtain ⟨ad,c,e,_,hK,hc0⟩:=C_at h i hi
  obtain ⟨A1,c1,rfl,h1,h2⟩:=K_alt hK
  have hc : ∀ j u,_ → w.cell? (ad.add (i * 4 + j)) = some u:=hc0
  exact ⟨ad,A1,c1,e,hc 0 _ rfl,by rw [← add_field _ _ 1 (by omega)];exact hc 1 _ rfl,by rw [← add_field _ _ 2 (by omega)];exact hc 2 _ rfl,by rw [← add_field _ _ 3 (by omega)];exact hc 3 _ rfl,h1,h2⟩
end

end Go.Proofs.Ytmkgcjhimajgiaa


set_option linter.unusedVariables false
set_option linter.unusedSimpArgs false
namespace Go.Proofs.Ytmkgcjhimajgiaa
open Go.RowKit Go.Proofs.YtmkgcjhimajgiaaW.PrintWords

/-- The first place,from k on,at which p holds;-1: none. -/
def posF {α : Type} (p : α → Bool) : List α → Nat → Int
  | [],_ => -1
  | a :: l,k => if p a = true then k else posF p l (k + 1)
theorem posF_step {α : Type} {p : α → Bool} {l : List α} {k : Nat} {R : Int} (hk : k < l.length) (h : posF p (l.drop k) k = R) (hp : p (l[k]'hk) = false) : posF p (l.drop (k + 1)) (k + 1) = R:=by
  rw [List.drop_eq_getElem_cons hk,posF,if_neg (by rw [hp];simp)] at h
  exact h
theorem posF_hit {α : Type} {p : α → Bool} {l : List α} {k : Nat} {R : Int} (hk : k < l.length) (h : posF p (l.drop k) k = R) (hp : p (l[k]'hk) = true) : R = k:=by
  rw [List.drop_eq_getElem_cons hk,posF,if_pos hp] at h
  exact h.symm
theorem posF_end {α : Type} {p : α → Bool} {l : List α} {k : Nat} {R : Int} (hk : l.length ≤ k) (h : posF p (l.drop k) k = R) : R = -1:=by
  rw [List.drop_eq_nil_of_le hk,posF] at h
  exact h.symm
theorem posF_ge {α : Type} (p : α → Bool) (l : List α) (k : Nat) : posF p l k = -1 ∨ (k : Int) ≤ posF p l k ∧ posF p l k < k + l.length:=by
  induction l generalizing k with
  | nil => exact .inl rfl
  | cons a l ih =>
    unfold posF
    split
    · right;simp;omega
    · rcases ih (k + 1) with h | h
      · exact .inl h
      · right;simp;omega
theorem posF_any {α : Type} (p : α → Bool) (l : List α) (k : Nat) : decide (0 ≤ posF p l k) = l.any p:=by
  induction l generalizing k with
  | nil => rfl
  | cons a l ih =>
    unfold posF
    by_cases h : p a = true
    · rw [if_pos h];simp [h]
    · rw [if_neg h,ih,List.any_cons,Bool.eq_false_iff.2 h,Bool.false_or]

set_option maxRecDepth 100000 in
set_option maxHeartbeats 1000000 in
theorem indexInt_c (A : Option Addr) (c : Nat) (l : List Int) (x : Int) (w : World) (hr : kInt.C w A l.length l) :
    Calls Try.prog 116 #[.slice A l.length c,.int .i64 x] w fun e w' => e = .returned (.int .i64 (posF (fun y => x == y) l 0)) ∧ w = w':=by
  have hm:=C_max hr
  have HR:=Aside0.mk hr
  clear hr
  obtain ⟨R,hR⟩ : ∃ R,posF (fun y => x == y) l 0 = R:=⟨_,rfl⟩
  rw [hR]
  have HE:=Aside0.mk hR
  clear hR
  go_enter Try.func116,Try.ntmps116
  go_wp2
  go_loop [8] (fun i => ∃ k : Nat,k ≤ l.length ∧ i = .int .i64 k ∧ Aside0 (posF (fun y => x == y) (l.drop k) k = R)) (fun i => l.length - (intOf i).toNat)
  case atStart => exact ⟨0,Nat.zero_le _,rfl,⟨HE.out⟩⟩
  case round =>
    obtain ⟨k,hk,rfl,HI⟩:=hrel
    by_cases hlt : k < l.length
    · obtain ⟨ad,ead,hx⟩:=at_int HR.out k hlt
      cases ead
      cases hp : (x == (l[k]'hlt))
      · have HS:=Aside0.mk (posF_step hlt HI.out hp)
        go_wp2
        go_round
        case rel => exact ⟨k + 1,by omega,by go_num,HS⟩
        case measure => simp [intOf];omega
      · have HS:=Aside0.mk (posF_hit hlt HI.out hp)
        go_wp2
        go_ret
        exact ⟨ret_int HS.out.symm,rfl⟩
    · have HS:=Aside0.mk (posF_end (by omega) HI.out)
      go_wp2
      go_ret
      exact ⟨ret_int HS.out.symm,rfl⟩
theorem containsInt_c (A : Option Addr) (c : Nat) (l : List Int) (x : Int) (w : World) (hr : kInt.C w A l.length l) :
    Calls Try.prog 115 #[.slice A l.length c,.int .i64 x] w fun e w' => e = .returned (.bool (l.any fun y => x == y)) ∧ w = w':=by
  have HR:=Aside0.mk hr
  clear hr
  go_enter Try.func115,Try.ntmps115
  go_wp2_with (go_at_call 116;refine (indexInt_c _ _ _ _ _ HR.out).mono ?_;rintro e w' ⟨rfl,rfl⟩)
  go_ret
  exact ⟨ret_bool (posF_any _ _ _),rfl⟩

theorem containsInt_n (A : Option Addr) (c n : Nat) (l : List Int) (x : Int) (w : World) (hr : kInt.C w A n l) :
    Calls Try.prog 115 #[.slice A n c,.int .i64 x] w fun e w' => e = .returned (.bool (l.any fun y => x == y)) ∧ w = w':=by
  obtain rfl:=C_len hr
  exact containsInt_c A c l x w hr

set_option maxRecDepth 100000 in
set_option maxHeartbeats 1000000 in
theorem indexStr_c (A : Option Addr) (c : Nat) (l : List ByteArray) (x : ByteArray) (w : World) (hr : kStr.C w A l.length l) :
    Calls Try.prog 95 #[.slice A l.length c,.string x] w fun e w' => e = .returned (.int .i64 (posF (fun y => decide (x = y)) l 0)) ∧ w = w':=by
  have hm:=C_max hr
  have HR:=Aside0.mk hr
  clear hr
  obtain ⟨R,hR⟩ : ∃ R,posF (fun y => decide (x = y)) l 0 = R:=⟨_,rfl⟩
  rw [hR]
  have HE:=Aside0.mk hR
  clear hR
  go_enter Try.func95,Try.ntmps95
  go_wp2
  go_loop [8] (fun i => ∃ k : Nat,k ≤ l.length ∧ i = .int .i64 k ∧ Aside0 (posF (fun y => decide (x = y)) (l.drop k) k = R)) (fun i => l.length - (intOf i).toNat)
  case atStart => exact ⟨0,Nat.zero_le _,rfl,⟨HE.out⟩⟩
  case round =>
    obtain ⟨k,hk,rfl,HI⟩:=hrel
    by_cases hlt : k < l.length
    · obtain ⟨ad,ead,hx⟩:=at_str HR.out k hlt
      cases ead
      cases hp : (x.toList == (l[k]'hlt).toList)
      · have HS:=Aside0.mk (posF_step hlt HI.out (by rw [← str_beq];exact hp))
        go_wp2
        go_round
        case rel => exact ⟨k + 1,by omega,by go_num,HS⟩
        case measure => simp [intOf];omega
      · have HS:=Aside0.mk (posF_hit hlt HI.out (by rw [← str_beq];exact hp))
        go_wp2
        go_ret
        exact ⟨ret_int HS.out.symm,rfl⟩
    · have HS:=Aside0.mk (posF_end (by omega) HI.out)
      go_wp2
      go_ret
      exact ⟨ret_int HS.out.symm,rfl⟩
theorem containsStr_c (A : Option Addr) (c : Nat) (l : List ByteArray) (x : ByteArray) (w : World) (hr : kStr.C w A l.length l) :
    Calls Try.prog 94 #[.slice A l.length c,.string x] w fun e w' => e = .returned (.bool (l.any fun y => decide (x = y))) ∧ w = w':=by
  have HR:=Aside0.mk hr
  clear hr
  go_enter Try.func94,Try.ntmps94
  go_wp2_with (go_at_call 95;refine (indexStr_c _ _ _ _ _ HR.out).mono ?_;rintro e w' ⟨rfl,rfl⟩)
  go_ret
  exact ⟨ret_bool (posF_any _ _ _),rfl⟩

/-- A function value that answers a question on whole numbers,of those in a list,in whatever world lies above w0. -/
structure PredI (w0 : World) (fv : Value) (p : Int → Bool) (l : List Int) : Prop where
  ex : ∃ f first cap,fv = .func (.func f) first cap ∧ (∀ args w,(callFunc f args).run Try.prog w = .ok (.enter f args) w) ∧ ∀ x,x ∈ l → ∀ W,Below w0.heap.size w0 W → Calls Try.prog f (first.push (.int .i64 x) ++ cap) W fun e W' => e = .returned (.bool (p x)) ∧ Below W.heap.size W W'

set_option maxRecDepth 100000 in
set_option maxHeartbeats 1000000 in
theorem indexFuncInt_c (A : Option Addr) (c : Nat) (l : List Int) (fv : Value) (p : Int → Bool) (w : World) (hr : kInt.C w A l.length l) (hp : PredI w fv p l) :
    Calls Try.prog 113 #[.slice A l.length c,fv] w fun e w' => e = .returned (.int .i64 (posF p l 0)) ∧ Below w.heap.size w w':=by
  have hm:=C_max hr
  have HR:=Aside0.mk hr
  clear hr
  obtain ⟨f,first,cap,rfl,hcf,hcall⟩:=hp.ex
  have HC:=Aside0.mk hcall
  clear hcall hp
  obtain ⟨R,hR⟩ : ∃ R,posF p l 0 = R:=⟨_,rfl⟩
  rw [hR]
  have HE:=Aside0.mk hR
  clear hR
  go_enter Try.func113,Try.ntmps113
  go_wp2
  go_loopw [8] (fun i wr => ∃ k : Nat,k ≤ l.length ∧ i = .int .i64 k ∧ Aside0 (posF p (l.drop k) k = R) ∧ Aside0 (Below w.heap.size w wr)) (fun i _ => l.length - (intOf i).toNat)
  case atStart => exact ⟨0,Nat.zero_le _,rfl,⟨HE.out⟩,⟨Below.refl _ _⟩⟩
  case round =>
    obtain ⟨k,hk,rfl,HI,HB⟩:=hrel
    by_cases hlt : k < l.length
    · obtain ⟨ad,ead,hx⟩:=at_int (Kd.C_below HR.out HB.out) k hlt
      cases ead
      have HK:=Aside0.mk (HC.out (l[k]'hlt) (List.getElem_mem _) wr HB.out)
      cases hp : p (l[k]'hlt)
      · have HS:=Aside0.mk (posF_step hlt HI.out hp)
        go_wp2_with (refine HK.out.mono ?_;rw [hp];rintro e w1 ⟨rfl,hb1⟩)
        go_roundw
        case rel => exact ⟨k + 1,by omega,by go_num,HS,⟨below_then HB.out HB.out.size hb1⟩⟩
        case measure => simp [intOf];omega
      · have HS:=Aside0.mk (posF_hit hlt HI.out hp)
        go_wp2_with (refine HK.out.mono ?_;rw [hp];rintro e w1 ⟨rfl,hb1⟩)
        go_ret
        exact ⟨ret_int HS.out.symm,below_then HB.out HB.out.size hb1⟩
    · have HS:=Aside0.mk (posF_end (by omega) HI.out)
      go_wp2
      go_ret
      exact ⟨ret_int HS.out.symm,HB.out⟩
theorem containsFuncInt_c (A : Option Addr) (c : Nat) (l : List Int) (fv : Value) (p : Int → Bool) (w : World) (hr : kInt.C w A l.length l) (hp : PredI w fv p l) :
    Calls Try.prog 103 #[.slice A l.length c,fv] w fun e w' => e = .returned (.bool (l.any p)) ∧ Below w.heap.size w w':=by
  have HR:=Aside0.mk hr
  have HP:=Aside0.mk hp
  clear hr hp
  go_enter Try.func103,Try.ntmps103
  go_wp2_with (go_at_call 113;refine (indexFuncInt_c _ _ _ _ _ _ HR.out HP.out).mono ?_;rintro e w1 ⟨rfl,hb1⟩)
  go_ret
  exact ⟨ret_bool (posF_any _ _ _),hb1⟩
end Go.Proofs.Ytmkgcjhimajgiaa


set_option linter.unusedVariables false
set_option linter.unusedSimpArgs false
namespace Go.Proofs.Ytmkgcjhimajgiaa
open Go.RowKit Go.Proofs.YtmkgcjhimajgiaaW.PrintWords

theorem below_drewN {B : Nat} {w W : World} (h : Below B w W) (n : Nat) : Below B w (W.drewN n):=⟨h.os,h.tape,h.output,h.size,h.block⟩
theorem eq_take {xs ys : List Int} (hl : xs.length = ys.length) (h : ∀ j (hj : j < xs.length),xs[j] = ys[j]'(by omega)) : xs = ys:=List.ext_getElem hl (fun i h1 h2 => h i h1)

set_option maxRecDepth 100000 in
set_option maxHeartbeats 1000000 in
theorem equalInt_c (A B : Option Addr) (c d : Nat) (xs ys : List Int) (w : World) (hr : kInt.C w A xs.length xs) (hs : kInt.C w B ys.length ys) :
    Calls Try.prog 112 #[.slice A xs.length c,.slice B ys.length d] w fun e w' => e = .returned (.bool (decide (xs = ys))) ∧ Below w.heap.size w w':=by
  have hm:=C_max hr
  have hm2:=C_max hs
  have HR:=Aside0.mk hr
  have HS:=Aside0.mk hs
  clear hr hs
  by_cases hl : xs.length = ys.length
  · have hlb : ((xs.length : Int) != (ys.length : Int)) = false:=by rw [hl];simp
    have HL:=Lib.hid hl
    clear hl
    go_enter Try.func112,Try.ntmps112
    go_wp2
    go_loopw [13] (fun i wr => ∃ k : Nat,k ≤ xs.length ∧ i = .int .i64 k ∧ Aside0 (∀ j (hj : j < xs.length),j < k → xs[j] = ys[j]'(by have:=HL.out;omega)) ∧ Aside0 (Below w.heap.size w wr)) (fun i _ => xs.length - (intOf i).toNat)
    case atStart => exact ⟨0,Nat.zero_le _,rfl,⟨by intro j hj h;omega⟩,⟨Below.refl _ _⟩⟩
    case round =>
      obtain ⟨k,hk,rfl,HI,HB⟩:=hrel
      by_cases hlt : k < xs.length
      · have hlt2 : k < ys.length:=by have:=HL.out;omega
        obtain ⟨ad,ead,hx⟩:=at_int (Kd.C_below HR.out HB.out) k hlt
        obtain ⟨bd,ebd,hy⟩:=at_int (Kd.C_below HS.out HB.out) k hlt2
        cases ead
        cases ebd
        have i1 : (0 : Int) ≤ (k : Int):=by omega
        have i2 : (k : Int) < (xs.length : Int):=by omega
        have i3 : (k : Int) < (ys.length : Int):=by omega
        cases hp : ((xs[k]'hlt) != (ys[k]'hlt2))
        · have HE : Aside0 ((xs[k]'hlt) = (ys[k]'hlt2)):=⟨by simpa using hp⟩
          go_wp2
          go_quiet (fail)
          go_wp2
          go_roundw
          case rel => exact ⟨k + 1,by omega,by go_num,⟨fun j hj hjk => by
            rcases Nat.lt_or_ge j k with h | h
            · exact HI.out j hj h
            · obtain rfl : j = k:=by omega
              exact HE.out⟩,⟨below_drewN HB.out _⟩⟩
          case measure => simp [intOf];omega
        · have HE : Aside0 (¬ (xs[k]'hlt) = (ys[k]'hlt2)):=⟨by simpa using hp⟩
          go_wp2
          go_quiet (fail)
          go_wp2
          go_ret
          exact ⟨ret_bool (by symm;rw [decide_eq_false_iff_not];rintro rfl;exact HE.out rfl),below_drewN HB.out _⟩
      · go_wp2
        go_ret
        exact ⟨ret_bool (by symm;rw [decide_eq_true_eq];exact eq_take HL.out (fun j hj => HI.out j hj (by omega))),HB.out⟩
  · have hlb : ((xs.length : Int) != (ys.length : Int)) = true:=by simp;omega
    have HL:=Aside0.mk hl
    clear hl
    go_enter Try.func112,Try.ntmps112
    go_wp2
    go_ret
    exact ⟨ret_bool (by symm;rw [decide_eq_false_iff_not];rintro rfl;exact HL.out rfl),Below.refl _ _⟩

/-- A function value that answers a question on rules,of those in a list,in whatever world lies above w0. -/
structure PredR (w0 : World) (fv : Value) (p : Rule → Bool) (l : List Rule) : Prop where
  ex : ∃ f first cap,fv = .func (.func f) first cap ∧ (∀ args w,(callFunc f args).run Try.prog w = .ok (.enter f args) w) ∧ ∀ x,x ∈ l → ∀ W A c,Below w0.heap.size w0 W → x.right.length ≤ c → kInt.C W A x.right.length x.right →
    Calls Try.prog f (first.push (.agg #[.int .i64 x.left,.slice A x.right.length c]) ++ cap) W fun e W' => e = .returned (.bool (p x)) ∧ Below W.heap.size W W'

set_option maxRecDepth 100000 in
set_option maxHeartbeats 1000000 in
theorem indexFuncRule_c (A : Option Addr) (c : Nat) (l : List Rule) (fv : Value) (p : Rule → Bool) (w : World) (hr : kRule.C w A l.length l) (hp : PredR w fv p l) :
    Calls Try.prog 111 #[.slice A l.length c,fv] w fun e w' => e = .returned (.int .i64 (posF p l 0)) ∧ Below w.heap.size w w':=by
  have hm:=C_max hr
  have HR:=Aside0.mk hr
  clear hr
  obtain ⟨f,first,cap,rfl,hcf,hcall⟩:=hp.ex
  have HC:=Aside0.mk hcall
  clear hcall hp
  obtain ⟨R,hR⟩ : ∃ R,posF p l 0 = R:=⟨_,rfl⟩
  rw [hR]
  have HE:=Aside0.mk hR
  clear hR
  go_enter Try.func111,Try.ntmps111
  go_wp2
  go_loopw [8] (fun i wr => ∃ k : Nat,k ≤ l.length ∧ i = .int .i64 k ∧ Aside0 (posF p (l.drop k) k = R) ∧ Aside0 (Below w.heap.size w wr)) (fun i _ => l.length - (intOf i).toNat)
  case atStart => exact ⟨0,Nat.zero_le _,rfl,⟨HE.out⟩,⟨Below.refl _ _⟩⟩
  case round =>
    obtain ⟨k,hk,rfl,HI,HB⟩:=hrel
    by_cases hlt : k < l.length
    · obtain ⟨ad,A1,c1,ead,hx,hy,hc1,hC1⟩:=at_rule (Kd.C_below HR.out HB.out) k hlt
      cases ead
      have HK:=Aside0.mk (HC.out (l[k]'hlt) (List.getElem_mem _) wr A1 c1 HB.out hc1 hC1)
      clear hc1 hC1
      cases hp : p (l[k]'hlt)
      · have HS:=Aside0.mk (posF_step hlt HI.out hp)
        go_wp2_with (refine HK.out.mono ?_;rw [hp];rintro e w1 ⟨rfl,hb1⟩)
        go_roundw
        case rel => exact ⟨k + 1,by omega,by go_num,HS,⟨below_then HB.out HB.out.size hb1⟩⟩
        case measure => simp [intOf];omega
      · have HS:=Aside0.mk (posF_hit hlt HI.out hp)
        go_wp2_with (refine HK.out.mono ?_;rw [hp];rintro e w1 ⟨rfl,hb1⟩)
        go_ret
        exact ⟨ret_int HS.out.symm,below_then HB.out HB.out.size hb1⟩
    · have HS:=Aside0.mk (posF_end (by omega) HI.out)
      go_wp2
      go_ret
      exact ⟨ret_int HS.out.symm,HB.out⟩
theorem containsFuncRule_c (A : Option Addr) (c : Nat) (l : List Rule) (fv : Value) (p : Rule → Bool) (w : World) (hr : kRule.C w A l.length l) (hp : PredR w fv p l) :
    Calls Try.prog 96 #[.slice A l.length c,fv] w fun e w' => e = .returned (.bool (l.any p)) ∧ Below w.heap.size w w':=by
  have HR:=Aside0.mk hr
  have HP:=Aside0.mk hp
  clear hr hp
  go_enter Try.func96,Try.ntmps96
  go_wp2_with (go_at_call 111;refine (indexFuncRule_c _ _ _ _ _ _ HR.out HP.out).mono ?_;rintro e w1 ⟨rfl,hb1⟩)
  go_ret
  exact ⟨ret_bool (posF_any _ _ _),hb1⟩

set_option maxRecDepth 100000 in
set_option maxHeartbeats 1000000 in
theorem alike_c (x y : Rule) (A B : Option Addr) (c d : Nat) (w : World) (hr : kInt.C w A x.right.length x.right) (hs : kInt.C w B y.right.length y.right) :
    Calls Try.prog 98 #[.agg #[.int .i64 x.left,.slice A x.right.length c],.agg #[.int .i64 y.left,.slice B y.right.length d]] w fun e w' => e = .returned (.bool (decide (x = y))) ∧ Below w.heap.size w w':=by
  have HR:=Aside0.mk hr
  have HS:=Aside0.mk hs
  clear hr hs
  have e0 : decide (x = y) = (decide (x.left = y.left) && decide (x.right = y.right)):=by
    rw [Bool.eq_iff_iff]
    simp only [decide_eq_true_eq,Bool.and_eq_true]
    cases x;cases y;simp
  have E0:=Lib.hid e0
  clear e0
  cases hb : (x.left == y.left)
  · go_enter Try.func98,Try.ntmps98
    go_wp2
    go_ret
    refine ⟨ret_bool (by rw [E0.out,(by simpa using hb : decide (x.left = y.left) = false),Bool.false_and]),?_⟩
    exact ((Below.refl _ _).alloc (Nat.le_refl _) _).alloc (by simp) _
  · have HB:=Aside0.mk (((Below.refl w.heap.size w).alloc (Nat.le_refl _) (.cells #[.int .i64 x.left,.slice A x.right.length c] 46 (0,0))).alloc (by simp) (.cells #[.int .i64 y.left,.slice B y.right.length d] 46 (0,0)))
    go_enter Try.func98,Try.ntmps98
    go_wp2_with (go_at_call 112;refine (equalInt_c _ _ _ _ _ _ _ (Kd.C_below HR.out HB.out) (Kd.C_below HS.out HB.out)).mono ?_;rintro e w1 ⟨rfl,hb1⟩)
    go_ret
    exact ⟨ret_bool (by rw [E0.out,(by simpa using hb : decide (x.left = y.left) = true),Bool.true_and]),below_then HB.out HB.out.size hb1⟩
end Go.Proofs.Ytmkgcjhimajgiaa


set_option linter.unusedVariables false
set_option linter.unusedSimpArgs false
namespace Go.Proofs.Ytmkgcjhimajgiaa
open Go.RowKit Go.Proofs.YtmkgcjhimajgiaaW.PrintWords

def letterB (c : Int) : Bool:=decide (97 ≤ c ∧ c ≤ 122 ∨ 65 ≤ c ∧ c ≤ 90)
def innerB (c : Int) : Bool:=letterB c || decide (48 ≤ c ∧ c ≤ 57) || c == 95
def insideB (c : Int) : Bool:=decide (32 ≤ c ∧ c ≤ 126) && c != 39
def noteB (c : Int) : Bool:=c != 10
def signF (c : Int) : Int:=if c = 61 then 3 else if c = 124 then 4 else if c = 59 then 5 else 0
def runF (l : List UInt8) (p : Int → Bool) : Nat:=(l.takeWhile fun c => p c.toNat).length
def isNameF (l : List UInt8) : Bool:=decide (l.length ≤ 16) && (match l with | [] => false | c :: _ => letterB c.toNat) && l.all fun c => innerB c.toNat
def isTermF (l : List UInt8) : Bool:=decide (1 ≤ l.length) && decide (l.length ≤ 16) && l.all fun c => insideB c.toNat

theorem runF_le (l : List UInt8) (p : Int → Bool) : runF l p ≤ l.length:=(List.takeWhile_sublist _).length_le
theorem runF_all (l : List UInt8) (p : Int → Bool) : (runF l p = l.length) ↔ l.all (fun c => p c.toNat) = true:=by
  unfold runF
  induction l with
  | nil => simp
  | cons a l ih =>
    rw [List.takeWhile_cons]
    by_cases h : p a.toNat = true
    · simp [h,ih]
    · simp [h]
theorem runF_ge {l : List UInt8} {p : Int → Bool} {k : Nat} (hk : k ≤ l.length) (h : ∀ j (hj : j < l.length),j < k → p l[j].toNat = true) : k ≤ runF l p:=by
  induction l generalizing k with
  | nil => simp at hk;omega
  | cons a l ih =>
    cases k with
    | zero => omega
    | succ k =>
      have h0 : p a.toNat = true:=h 0 (by simp) (by omega)
      have:=ih (k:=k) (by simp at hk;omega) (fun j hj hjk => h (j + 1) (by simp;omega) (by omega))
      unfold runF at this ⊢
      rw [List.takeWhile_cons,if_pos h0,List.length_cons]
      omega
theorem runF_stop {l : List UInt8} {p : Int → Bool} {k : Nat} (hk : k < l.length) (h : ∀ j (hj : j < l.length),j < k → p l[j].toNat = true) (hs : p l[k].toNat = false) : runF l p = k:=by
  induction l generalizing k with
  | nil => simp at hk
  | cons a l ih =>
    unfold runF at ih ⊢
    cases k with
    | zero =>
      have h0 : p a.toNat = false:=hs
      rw [List.takeWhile_cons,if_neg (by simp [h0])]
      rfl
    | succ k =>
      have h0 : p a.toNat = true:=h 0 (by simp) (by omega)
      rw [List.takeWhile_cons,if_pos h0,List.length_cons,ih (k:=k) (by simp at hk;omega) (fun j hj hjk => h (j + 1) (by simp;omega) (by omega)) hs]

theorem letter_c (c : Int) (w : World) : Calls Try.prog 99 #[.int .u8 c] w fun e w' => e = .returned (.bool (letterB c)) ∧ w = w':=by
  by_cases h1 : 97 ≤ c <;> by_cases h2 : c ≤ 122 <;> by_cases h3 : 65 ≤ c <;> by_cases h4 : c ≤ 90 <;> try omega
  all_goals
    go_enter Try.func99,Try.ntmps99
    go_wp2
    go_ret
    exact ⟨ret_bool (by simp [letterB, *] <;> omega),rfl⟩

theorem inner_c (c : Int) (w : World) : Calls Try.prog 101 #[.int .u8 c] w fun e w' => e = .returned (.bool (innerB c)) ∧ w = w':=by
  by_cases h0 : letterB c = true <;> by_cases h3 : 48 ≤ c <;> by_cases h4 : c ≤ 57 <;> try omega
  all_goals
    go_enter Try.func101,Try.ntmps101
    go_wp2_with (go_at_call 99;refine (letter_c _ _).mono ?_;rintro e w' ⟨rfl,rfl⟩)
    go_ret
    exact ⟨ret_bool (by simp [innerB, *] <;> try omega),rfl⟩

theorem inside_c (c : Int) (w : World) : Calls Try.prog 102 #[.int .u8 c] w fun e w' => e = .returned (.bool (insideB c)) ∧ w = w':=by
  by_cases h3 : 32 ≤ c <;> by_cases h4 : c ≤ 126 <;> try omega
  all_goals
    go_enter Try.func102,Try.ntmps102
    go_wp2
    go_ret
    exact ⟨ret_bool (by simp [insideB, *] <;> try omega),rfl⟩

theorem note_c (c : Int) (w : World) : Calls Try.prog 107 #[.int .u8 c] w fun e w' => e = .returned (.bool (noteB c)) ∧ w = w':=by
  go_enter Try.func107,Try.ntmps107
  go_wp2
  go_ret
  exact ⟨ret_bool rfl,rfl⟩

theorem signs_c (c : Int) (w : World) : Calls Try.prog 108 #[.int .u8 c] w fun e w' => e = .returned (.int .i64 (signF c)) ∧ w = w':=by
  by_cases h1 : c = 61
  · subst h1
    go_enter Try.func108,Try.ntmps108
    go_wp2
    go_ret
    exact ⟨ret_int rfl,rfl⟩
  by_cases h2 : c = 124
  · subst h2
    go_enter Try.func108,Try.ntmps108
    go_wp2
    go_ret
    exact ⟨ret_int rfl,rfl⟩
  by_cases h3 : c = 59
  · subst h3
    go_enter Try.func108,Try.ntmps108
    go_wp2
    go_ret
    exact ⟨ret_int rfl,rfl⟩
  go_enter Try.func108,Try.ntmps108
  go_wp2
  go_ret
  exact ⟨ret_int (by simp [signF, *]),rfl⟩

/-- A function value that answers a byte's question and leaves the world alone. -/
structure PredB (fv : Value) (p : Int → Bool) : Prop where
  ex : ∃ f first cap,fv = .func (.func f) first cap ∧ (∀ args w,(callFunc f args).run Try.prog w = .ok (.enter f args) w) ∧ ∀ c w,Calls Try.prog f (first.push (.int .u8 c) ++ cap) w fun e w' => e = .returned (.bool (p c)) ∧ w = w'
theorem pred_inner : PredB (.func (.func 101) #[] #[]) innerB:=⟨_,_,_,rfl,fun _ _ => by kernel_rfl,fun c w => inner_c c w⟩
theorem pred_inside : PredB (.func (.func 102) #[] #[]) insideB:=⟨_,_,_,rfl,fun _ _ => by kernel_rfl,fun c w => inside_c c w⟩
theorem pred_note : PredB (.func (.func 107) #[] #[]) noteB:=⟨_,_,_,rfl,fun _ _ => by kernel_rfl,fun c w => note_c c w⟩

set_option maxRecDepth 100000 in
set_option maxHeartbeats 1000000 in
theorem run_c (s : ByteArray) (fv : Value) (p : Int → Bool) (w : World) (hs : s.size ≤ maxLen) (hp : PredB fv p) :
    Calls Try.prog 100 #[.string s,fv] w fun e w' => e = .returned (.int .i64 (runF (bsl s) p)) ∧ w = w':=by
  unfold maxLen at hs
  obtain ⟨f,first,cap,rfl,hcf,hcall⟩:=hp.ex
  have HC:=Aside0.mk hcall
  clear hcall
  go_enter Try.func100,Try.ntmps100
  go_wp2
  go_loop [5] (fun i => ∃ k : Nat,k ≤ s.size ∧ i = .int .i64 k ∧ Aside0 (∀ j (hj : j < (bsl s).length),j < k → p (bsl s)[j].toNat = true)) (fun i => s.size - (intOf i).toNat)
  case atStart => exact ⟨0,Nat.zero_le _,rfl,⟨by simp⟩⟩
  case round =>
    obtain ⟨k,hk,rfl,HI⟩:=hrel
    by_cases hlt : k < s.size
    · have hl : k < (bsl s).length:=by rw [size_data];exact hlt
      cases hpk : p (s[k]'hlt).toNat
      · go_wp2_with (refine (HC.out _ _).mono ?_;rintro e w' ⟨rfl,rfl⟩)
        go_ret
        exact ⟨ret_int (by rw [runF_stop hl HI.out (by exact hpk)]),rfl⟩
      · go_wp2_with (refine (HC.out _ _).mono ?_;rintro e w' ⟨rfl,rfl⟩)
        go_round
        case rel => exact ⟨k + 1,by omega,by go_num,⟨fun j hj hjk => by
          rcases Nat.lt_or_ge j k with h | h
          · exact HI.out j hj h
          · obtain rfl : j = k:=by omega
            exact hpk⟩⟩
        case measure => simp [intOf];omega
    · go_wp2
      go_ret
      obtain rfl : k = s.size:=by omega
      exact ⟨ret_int (by rw [Nat.le_antisymm (runF_le (bsl s) p) (by rw [size_data];exact runF_ge (by rw [size_data];exact Nat.le_refl _) HI.out),size_data]),rfl⟩
end Go.Proofs.Ytmkgcjhimajgiaa


set_option linter.unusedVariables false
set_option linter.unusedSimpArgs false
namespace Go.Proofs.Ytmkgcjhimajgiaa
open Go.RowKit Go.Proofs.YtmkgcjhimajgiaaW.PrintWords

theorem nat_beq (a b : Nat) : ((a : Int) == (b : Int)) = (a == b):=by
  rw [Bool.eq_iff_iff,beq_iff_eq,beq_iff_eq]
  omega
theorem runF_beq (l : List UInt8) (p : Int → Bool) {n : Nat} (h : l.length = n) : ((runF l p : Int) == (n : Int)) = l.all fun c => p c.toNat:=by
  rw [nat_beq,← h,Bool.eq_iff_iff,beq_iff_eq]
  exact runF_all l p

set_option maxRecDepth 100000 in
set_option maxHeartbeats 1000000 in
theorem isName_c (s : ByteArray) (w : World) : Calls Try.prog 77 #[.string s] w fun e w' => e = .returned (.bool (isNameF (bsl s))) ∧ w = w':=by
  have hl:=size_data s
  by_cases h1 : 1 ≤ s.size
  · by_cases h2 : s.size ≤ 16
    · have h0 : 0 < s.size:=h1
      have hs : s.size ≤ maxLen:=by unfold maxLen;omega
      have hc : bsl s = s[0] :: (bsl s).tail:=by
        have h : bsl s = (bsl s)[0]'(by omega) :: (bsl s).tail:=by simpa using List.drop_eq_getElem_cons (l:=bsl s) (i:=0) (by omega)
        exact h
      have HE : Aside0 (isNameF (bsl s) = (letterB s[0].toNat && (bsl s).all fun c => innerB c.toNat)):=⟨by
        unfold isNameF
        rw [decide_eq_true (by omega : (bsl s).length ≤ 16),Bool.true_and]
        congr 1
        rw [hc]⟩
      clear hc
      by_cases h3 : letterB s[0].toNat = true
      · go_enter Try.func77,Try.ntmps77
        go_wp2_with (first | (go_at_call 99;refine (letter_c _ _).mono ?_;rintro e w' ⟨rfl,rfl⟩) | (go_at_call 100;refine (run_c _ _ _ _ hs pred_inner).mono ?_;rintro e w' ⟨rfl,rfl⟩))
        go_ret
        exact ⟨ret_bool (by rw [HE.out,h3,Bool.true_and];exact runF_beq _ _ hl),rfl⟩
      · go_enter Try.func77,Try.ntmps77
        go_wp2_with (first | (go_at_call 99;refine (letter_c _ _).mono ?_;rintro e w' ⟨rfl,rfl⟩) | (go_at_call 100;refine (run_c _ _ _ _ hs pred_inner).mono ?_;rintro e w' ⟨rfl,rfl⟩))
        go_ret
        exact ⟨ret_bool (by rw [HE.out,Bool.eq_false_iff.2 h3,Bool.false_and]),rfl⟩
    · go_enter Try.func77,Try.ntmps77
      go_wp2
      go_ret
      exact ⟨ret_bool (by unfold isNameF;rw [decide_eq_false (by omega)];rfl),rfl⟩
  · go_enter Try.func77,Try.ntmps77
    go_wp2
    go_ret
    exact ⟨ret_bool (by
      have : bsl s = []:=List.eq_nil_of_length_eq_zero (by omega)
      rw [this];rfl),rfl⟩

set_option maxRecDepth 100000 in
set_option maxHeartbeats 1000000 in
theorem isTerm_c (s : ByteArray) (w : World) : Calls Try.prog 78 #[.string s] w fun e w' => e = .returned (.bool (isTermF (bsl s))) ∧ w = w':=by
  have hl:=size_data s
  by_cases h1 : 1 ≤ s.size
  · by_cases h2 : s.size ≤ 16
    · have hs : s.size ≤ maxLen:=by unfold maxLen;omega
      go_enter Try.func78,Try.ntmps78
      go_wp2_with (go_at_call 100;refine (run_c _ _ _ _ hs pred_inside).mono ?_;rintro e w' ⟨rfl,rfl⟩)
      go_ret
      exact ⟨ret_bool (by unfold isTermF;rw [decide_eq_true (by omega),decide_eq_true (by omega)];exact runF_beq _ _ hl),rfl⟩
    · go_enter Try.func78,Try.ntmps78
      go_wp2
      go_ret
      exact ⟨ret_bool (by unfold isTermF;rw [decide_eq_false (by omega : ¬ (bsl s).length ≤ 16)];simp),rfl⟩
  · go_enter Try.func78,Try.ntmps78
    go_wp2
    go_ret
    exact ⟨ret_bool (by unfold isTermF;rw [decide_eq_false (by omega : ¬ 1 ≤ (bsl s).length)];rfl),rfl⟩

/-- How many bytes stand between tokens;'true': within a remark. -/
def skipF : Bool → List UInt8 → Nat
  | _,[] => 0
  | true,c :: r => if c.toNat = 10 then 1 + skipF false r else 1 + skipF true r
  | false,c :: r => if c.toNat = 32 ∨ c.toNat = 9 ∨ c.toNat = 10 then 1 + skipF false r else if c.toNat = 35 then 1 + skipF true r else 0
theorem skipF_le (b : Bool) (l : List UInt8) : skipF b l ≤ l.length:=by
  induction l generalizing b with
  | nil => cases b <;> simp [skipF]
  | cons a l ih =>
    have h1:=ih true
    have h2:=ih false
    cases b <;> simp only [skipF,List.length_cons] <;> split <;> (try split) <;> omega
theorem skipF_note (l : List UInt8) : skipF true l = runF l noteB + skipF false (l.drop (runF l noteB)):=by
  induction l with
  | nil => simp [skipF,runF]
  | cons a l ih =>
    by_cases h : a.toNat = 10
    · have : runF (a :: l) noteB = 0:=by simp [runF,noteB,h]
      rw [this]
      simp [skipF,h]
    · have : runF (a :: l) noteB = runF l noteB + 1:=by
        unfold runF
        rw [List.takeWhile_cons,if_pos (by simp [noteB];omega),List.length_cons]
      rw [this]
      simp only [skipF,if_neg h,List.drop_succ_cons]
      omega

theorem skip_step {l : List UInt8} {k : Nat} (hk : k < l.length) (HI : skipF false l = k + skipF false (l.drop k)) (h : l[k].toNat = 32 ∨ l[k].toNat = 9 ∨ l[k].toNat = 10) : skipF false l = (k + 1) + skipF false (l.drop (k + 1)):=by
  rw [HI,List.drop_eq_getElem_cons hk]
  simp only [skipF,if_pos h]
  omega
theorem skip_note {l : List UInt8} {k : Nat} (hk : k < l.length) (HI : skipF false l = k + skipF false (l.drop k)) (h1 : ¬ (l[k].toNat = 32 ∨ l[k].toNat = 9 ∨ l[k].toNat = 10)) (h : l[k].toNat = 35) :
    skipF false l = (k + runF (l.drop k) noteB) + skipF false (l.drop (k + runF (l.drop k) noteB)) ∧ 0 < runF (l.drop k) noteB:=by
  have h2:=skipF_note (l.drop k)
  have h3 : skipF false (l.drop k) = skipF true (l.drop k):=by
    rw [List.drop_eq_getElem_cons hk]
    simp only [skipF,if_neg h1,if_pos h,if_neg (show ¬ l[k].toNat = 10 by omega)]
  have h4 : runF (l.drop k) noteB = runF (l.drop (k + 1)) noteB + 1:=by
    rw [List.drop_eq_getElem_cons hk]
    unfold runF
    rw [List.takeWhile_cons,if_pos (by simp [noteB];omega),List.length_cons]
  rw [List.drop_drop] at h2
  omega
theorem skip_stop {l : List UInt8} {k : Nat} (hk : k < l.length) (HI : skipF false l = k + skipF false (l.drop k)) (h1 : ¬ (l[k].toNat = 32 ∨ l[k].toNat = 9 ∨ l[k].toNat = 10)) (h : ¬ l[k].toNat = 35) : skipF false l = k:=by
  rw [HI,List.drop_eq_getElem_cons hk]
  simp only [skipF,if_neg h1,if_neg h]
  rfl
theorem extract_to_size (s : ByteArray) (k : Nat) (hk : k ≤ s.size) : (s.extract k s.size).size = s.size - k:=by
  rw [← size_data,bsl_extract,List.length_drop,List.length_take,size_data];omega
theorem bsl_drop (s : ByteArray) (k : Nat) : bsl (s.extract k s.size) = (bsl s).drop k:=by
  rw [bsl_extract,List.take_of_length_le (by rw [size_data];exact Nat.le_refl _)]

set_option maxRecDepth 100000 in
set_option maxHeartbeats 1000000 in
theorem skipped_c (s : ByteArray) (w : World) (hs : s.size ≤ maxLen) : Calls Try.prog 90 #[.string s] w fun e w' => e = .returned (.int .i64 (skipF false (bsl s))) ∧ w = w':=by
  have hl:=size_data s
  unfold maxLen at hs
  go_enter Try.func90,Try.ntmps90
  go_wp2
  go_loop [3] (fun i => ∃ k : Nat,k ≤ s.size ∧ i = .int .i64 k ∧ Aside0 (skipF false (bsl s) = k + skipF false ((bsl s).drop k))) (fun i => s.size - (intOf i).toNat)
  case atStart => exact ⟨0,Nat.zero_le _,rfl,⟨by simp⟩⟩
  case round =>
    obtain ⟨k,hk,rfl,HI⟩:=hrel
    by_cases hlt : k < s.size
    · have hll : k < (bsl s).length:=by omega
      have hgk : (bsl s)[k] = s[k]'hlt:=rfl
      have HG:=Lib.hid hgk
      clear hgk
      have hr : runF ((bsl s).drop k) noteB ≤ s.size - k:=by have:=runF_le ((bsl s).drop k) noteB;rw [List.length_drop] at this;omega
      have HBD:=Lib.hid (bsl_drop s k)
      have hxs:=extract_to_size s k hk
      by_cases h1 : (s[k]'hlt).toNat = 32 ∨ (s[k]'hlt).toNat = 9 ∨ (s[k]'hlt).toNat = 10
      · have HS:=Aside0.mk (skip_step hll HI.out (by rw [HG.out];exact h1))
        rcases h1 with h1 | h1 | h1
        all_goals
          go_wp2
          go_round
          case rel => exact ⟨k + 1,by omega,by go_num,HS⟩
          case measure => simp [intOf];omega
      · by_cases h2 : (s[k]'hlt).toNat = 35
        · have HS:=Aside0.mk (skip_note hll HI.out (by rw [HG.out];exact h1) (by rw [HG.out];exact h2))
          have hm : (s.extract k s.size).size ≤ maxLen:=by unfold maxLen;omega
          clear hxs
          go_wp2_with (first | (go_at_call 100;refine (run_c _ _ _ _ hm pred_note).mono ?_;rw [HBD.out];rintro e w' ⟨rfl,rfl⟩))
          go_round
          case rel => exact ⟨k + runF ((bsl s).drop k) noteB,by omega,by go_num,⟨HS.out.1⟩⟩
          case measure => have:=HS.out.2;simp [intOf];omega
        · have HS:=Aside0.mk (skip_stop hll HI.out (by rw [HG.out];exact h1) (by rw [HG.out];exact h2))
          have h3 : ¬ (s[k]'hlt).toNat = 32:=fun h => h1 (.inl h)
          have h4 : ¬ (s[k]'hlt).toNat = 9:=fun h => h1 (.inr (.inl h))
          have h5 : ¬ (s[k]'hlt).toNat = 10:=fun h => h1 (.inr (.inr h))
          clear h1
          go_wp2
          go_ret
          exact ⟨ret_int (by rw [HS.out]),rfl⟩
    · go_wp2
      go_ret
      exact ⟨ret_int (by rw [HI.out,List.drop_eq_nil_of_le (by omega)];simp [skipF]),rfl⟩
end Go.Proofs.Ytmkgcjhimajgiaa


set_option linter.unusedVariables false
set_option linter.unusedSimpArgs false
namespace Go.Proofs.Ytmkgcjhimajgiaa
open Go.RowKit Go.Proofs.YtmkgcjhimajgiaaW.PrintWords

def tokenF (l : List UInt8) (at_ : Int) : Option (Tok × Nat) :=
  match l with
  | [] => none
  | c :: r =>
    if letterB c.toNat = true then
      if isNameF (l.take (runF l innerB)) = true then some (⟨1,ofL (l.take (runF l innerB)),at_⟩,runF l innerB) else none
    else if c.toNat = 39 then
      if isTermF (r.take (runF r insideB)) = true ∧ (r[runF r insideB]?).map UInt8.toNat = some 39 then some (⟨2,ofL (r.take (runF r insideB)),at_⟩,runF r insideB + 2) else none
    else if signF c.toNat = 0 then none else some (⟨signF c.toNat,ofL [c],at_⟩,1)

def TokenEnd (r : Option (Tok × Nat)) (at_ : Int) (e : Ending) : Prop :=
  match r with
  | some (t,n) => e = .returned (.tuple #[.agg #[.int .i64 t.kind,.string t.text,.int .i64 t.pos],.int .i64 n])
  | none => e = .panicked [{ v:=.iface 154 (.agg #[.int .i64 at_]),recovered:=false }]

theorem tokenF_cons (c : UInt8) (r : List UInt8) (at_ : Int) : tokenF (c :: r) at_ =
    if letterB c.toNat = true then
      if isNameF ((c :: r).take (runF (c :: r) innerB)) = true then some (⟨1,ofL ((c :: r).take (runF (c :: r) innerB)),at_⟩,runF (c :: r) innerB) else none
    else if c.toNat = 39 then
      if isTermF (r.take (runF r insideB)) = true ∧ (r[runF r insideB]?).map UInt8.toNat = some 39 then some (⟨2,ofL (r.take (runF r insideB)),at_⟩,runF r insideB + 2) else none
    else if signF c.toNat = 0 then none else some (⟨signF c.toNat,ofL [c],at_⟩,1):=rfl
theorem extract_take (s : ByteArray) (n : Nat) : s.extract 0 n = ofL ((bsl s).take n):=ba_ext (by rw [bsl_extract,bsl_ofL,List.drop_zero])
theorem extract_mid (s : ByteArray) (m n : Nat) : s.extract m (n + m) = ofL (((bsl s).drop m).take n):=ba_ext (by rw [bsl_extract,bsl_ofL,List.drop_take,Nat.add_sub_cancel])
theorem bsl_cons (s : ByteArray) (h0 : 0 < s.size) : bsl s = (s[0]'h0) :: (bsl s).drop 1:=by
  have hl:=size_data s
  have h : bsl s = (bsl s)[0]'(by omega) :: (bsl s).drop 1:=by simpa using List.drop_eq_getElem_cons (l:=bsl s) (i:=0) (by omega)
  exact h
theorem token_ret {r : Option (Tok × Nat)} {at_ : Int} {k p n : Int} {x : ByteArray} {t : Tok} {m : Nat} (h : r = some (t,m)) (hk : k = t.kind) (hx : x = t.text) (hp : p = t.pos) (hn : n = m) :
    TokenEnd r at_ (.returned (.tuple #[.agg #[.int .i64 k,.string x,.int .i64 p],.int .i64 n])):=by
  subst h hk hx hp hn
  rfl
theorem token_panic {r : Option (Tok × Nat)} {at_ : Int} (h : r = none) : TokenEnd r at_ (.panicked [{ v:=.iface 154 (.agg #[.int .i64 at_]),recovered:=false }]):=by
  subst h
  rfl

set_option maxRecDepth 100000 in
set_option maxHeartbeats 4000000 in
theorem token_letter (s : ByteArray) (at_ : Int) (w : World) (hs : s.size ≤ maxLen) (h0 : 0 < s.size) (hA : letterB (s[0]'h0).toNat = true) : Calls Try.prog 91 #[.string s,.int .i64 at_] w fun e w' => TokenEnd (tokenF (bsl s) at_) at_ e ∧ Below w.heap.size w w':=by
  have hl:=size_data s
  have hn:=runF_le (bsl s) innerB
  have HT : Hid (tokenF (bsl s) at_ = if isNameF ((bsl s).take (runF (bsl s) innerB)) = true then some (⟨1,ofL ((bsl s).take (runF (bsl s) innerB)),at_⟩,runF (bsl s) innerB) else none):=Lib.hid (by
    have h:=tokenF_cons (s[0]'h0) ((bsl s).drop 1) at_
    rw [if_pos hA,← bsl_cons s h0] at h
    exact h)
  have hk : runF (bsl s) innerB ≤ s.size:=by omega
  have HX:=Lib.hid (extract_take s (runF (bsl s) innerB))
  clear hl
  cases hB : isNameF ((bsl s).take (runF (bsl s) innerB))
  · go_enter Try.func91,Try.ntmps91
    go_wp2_with (first | (go_at_call 99;refine (letter_c _ _).mono ?_;rintro e w' ⟨rfl,rfl⟩) | (go_at_call 100;refine (run_c _ _ _ _ hs pred_inner).mono ?_;rintro e w' ⟨rfl,rfl⟩) | (go_at_call 77;rw [HX.out];refine (isName_c _ _).mono ?_;rw [bsl_ofL,hB];rintro e w' ⟨rfl,rfl⟩))
    exact ⟨rfl,token_panic (by rw [HT.out,hB];rfl),(Below.refl _ _).alloc (Nat.le_refl _) _⟩
  · go_enter Try.func91,Try.ntmps91
    go_wp2_with (first | (go_at_call 99;refine (letter_c _ _).mono ?_;rintro e w' ⟨rfl,rfl⟩) | (go_at_call 100;refine (run_c _ _ _ _ hs pred_inner).mono ?_;rintro e w' ⟨rfl,rfl⟩) | (go_at_call 77;rw [HX.out];refine (isName_c _ _).mono ?_;rw [bsl_ofL,hB];rintro e w' ⟨rfl,rfl⟩))
    refine bodyPost_ret (v:=.tuple #[.agg #[.int .i64 1,.string (s.extract 0 (runF (bsl s) innerB)),.int .i64 at_],.int .i64 (runF (bsl s) innerB)]) (by simp [results,Try.results91,go_sem]) rfl ⟨token_ret (by rw [HT.out,hB];rfl) rfl HX.out rfl rfl,?_⟩
    exact ((Below.refl _ _).alloc (Nat.le_refl _) _)

set_option maxRecDepth 100000 in
set_option maxHeartbeats 4000000 in
theorem token_quote (s : ByteArray) (at_ : Int) (w : World) (hs : s.size ≤ maxLen) (h0 : 0 < s.size) (hA : letterB (s[0]'h0).toNat = false) (hQ : (s[0]'h0).toNat = 39) : Calls Try.prog 91 #[.string s,.int .i64 at_] w fun e w' => TokenEnd (tokenF (bsl s) at_) at_ e ∧ Below w.heap.size w w':=by
  have hl:=size_data s
  have hn:=runF_le ((bsl s).drop 1) insideB
  rw [List.length_drop,hl] at hn
  have hn1 : runF ((bsl s).drop 1) insideB + 1 ≤ s.size:=by omega
  clear hn
  have HT : Hid (tokenF (bsl s) at_ = if isTermF (((bsl s).drop 1).take (runF ((bsl s).drop 1) insideB)) = true ∧ (((bsl s).drop 1)[runF ((bsl s).drop 1) insideB]?).map UInt8.toNat = some 39 then some (⟨2,ofL (((bsl s).drop 1).take (runF ((bsl s).drop 1) insideB)),at_⟩,runF ((bsl s).drop 1) insideB + 2) else none):=Lib.hid (by
    have h:=tokenF_cons (s[0]'h0) ((bsl s).drop 1) at_
    rw [if_neg (by rw [hA];simp),if_pos hQ,← bsl_cons s h0] at h
    exact h)
  have HR:=Lib.hid (bsl_drop s 1)
  have hrs:=extract_to_size s 1 h0
  have hrm : (s.extract 1 s.size).size ≤ maxLen:=by unfold maxLen at hs ⊢;omega
  clear hrs
  have HX:=Lib.hid (extract_mid s 1 (runF ((bsl s).drop 1) insideB))
  have HG0 : ∀ (h : runF ((bsl s).drop 1) insideB + 1 < s.size),((bsl s).drop 1)[runF ((bsl s).drop 1) insideB]? = some (s[runF ((bsl s).drop 1) insideB + 1]'h):=fun h => by
    rw [List.getElem?_drop,Nat.add_comm,List.getElem?_eq_getElem (by omega)]
    rfl
  have HG:=Aside0.mk HG0
  clear HG0
  have HN0 : runF ((bsl s).drop 1) insideB + 1 = s.size → ((bsl s).drop 1)[runF ((bsl s).drop 1) insideB]? = none:=fun h => by
    rw [List.getElem?_drop,List.getElem?_eq_none (by omega)]
  have HN:=Aside0.mk HN0
  clear HN0
  have HQ:=Lib.hid hQ
  have hQb : (((s[0]'h0).toNat : Int) == 39) = true:=by rw [hQ];rfl
  clear hQ hl
  obtain ⟨n,en⟩ : ∃ n,n = runF ((bsl s).drop 1) insideB:=⟨_,rfl⟩
  rw [← en] at hn1 HT HX HG HN
  have HE:=Lib.hid en
  clear en
  have hm : s.size ≤ 9223372036854775807:=by unfold maxLen at hs;omega
  cases hB : isTermF (((bsl s).drop 1).take n)
  · go_enter Try.func91,Try.ntmps91
    go_wp2_with (first | (go_at_call 99;refine (letter_c _ _).mono ?_;rintro e w' ⟨rfl,rfl⟩) | (go_at_call 100;refine (run_c _ _ _ _ hrm pred_inside).mono ?_;rw [HR.out,← HE.out];rintro e w' ⟨rfl,rfl⟩) | (go_at_call 78;rw [HX.out];refine (isTerm_c _ _).mono ?_;rw [bsl_ofL,hB];rintro e w' ⟨rfl,rfl⟩))
    exact ⟨rfl,token_panic (by rw [HT.out,if_neg (by rw [hB];simp)]),(Below.refl _ _).alloc (Nat.le_refl _) _⟩
  · by_cases hC : n + 1 = s.size
    · have hCb : ((n : Int) + 1 == (s.size : Int)) = true:=by rw [beq_iff_eq];omega
      have HC:=Lib.hid hC
      clear hC
      go_enter Try.func91,Try.ntmps91
      go_wp2_with (first | (go_at_call 99;refine (letter_c _ _).mono ?_;rintro e w' ⟨rfl,rfl⟩) | (go_at_call 100;refine (run_c _ _ _ _ hrm pred_inside).mono ?_;rw [HR.out,← HE.out];rintro e w' ⟨rfl,rfl⟩) | (go_at_call 78;rw [HX.out];refine (isTerm_c _ _).mono ?_;rw [bsl_ofL,hB];rintro e w' ⟨rfl,rfl⟩))
      exact ⟨rfl,token_panic (by rw [HT.out,HN.out HC.out,if_neg (by simp)]),(Below.refl _ _).alloc (Nat.le_refl _) _⟩
    · have hlt : n + 1 < s.size:=by omega
      have hCb : ((n : Int) + 1 == (s.size : Int)) = false:=by rw [beq_eq_false_iff_ne];omega
      clear hC
      by_cases hD : (s[n + 1]'hlt).toNat = 39
      · have hDb : (((s[n + 1]'hlt).toNat : Int) != 39) = false:=by rw [hD];rfl
        have HD:=Lib.hid hD
        clear hD
        go_enter Try.func91,Try.ntmps91
        go_wp2_with (first | (go_at_call 99;refine (letter_c _ _).mono ?_;rintro e w' ⟨rfl,rfl⟩) | (go_at_call 100;refine (run_c _ _ _ _ hrm pred_inside).mono ?_;rw [HR.out,← HE.out];rintro e w' ⟨rfl,rfl⟩) | (go_at_call 78;rw [HX.out];refine (isTerm_c _ _).mono ?_;rw [bsl_ofL,hB];rintro e w' ⟨rfl,rfl⟩))
        refine bodyPost_ret (v:=.tuple #[.agg #[.int .i64 2,.string (s.extract 1 (n + 1)),.int .i64 at_],.int .i64 (n + 2)]) (by simp [results,Try.results91,go_sem]) rfl ⟨token_ret (by rw [HT.out,if_pos ⟨hB,by rw [HG.out hlt,Option.map_some,HD.out]⟩]) rfl HX.out rfl rfl,?_⟩
        exact ((Below.refl _ _).alloc (Nat.le_refl _) _)
      · have hDb : (((s[n + 1]'hlt).toNat : Int) != 39) = true:=by rw [bne_iff_ne];omega
        have HD:=Aside0.mk hD
        clear hD
        go_enter Try.func91,Try.ntmps91
        go_wp2_with (first | (go_at_call 99;refine (letter_c _ _).mono ?_;rintro e w' ⟨rfl,rfl⟩) | (go_at_call 100;refine (run_c _ _ _ _ hrm pred_inside).mono ?_;rw [HR.out,← HE.out];rintro e w' ⟨rfl,rfl⟩) | (go_at_call 78;rw [HX.out];refine (isTerm_c _ _).mono ?_;rw [bsl_ofL,hB];rintro e w' ⟨rfl,rfl⟩))
        exact ⟨rfl,token_panic (by rw [HT.out,if_neg (by rintro ⟨_,h⟩;rw [HG.out hlt,Option.map_some] at h;exact HD.out (Option.some.inj h))]),(Below.refl _ _).alloc (Nat.le_refl _) _⟩

set_option maxRecDepth 100000 in
set_option maxHeartbeats 4000000 in
theorem token_sign (s : ByteArray) (at_ : Int) (w : World) (hs : s.size ≤ maxLen) (h0 : 0 < s.size) (hA : letterB (s[0]'h0).toNat = false) (hQ : ¬ (s[0]'h0).toNat = 39) : Calls Try.prog 91 #[.string s,.int .i64 at_] w fun e w' => TokenEnd (tokenF (bsl s) at_) at_ e ∧ Below w.heap.size w w':=by
  have hl:=size_data s
  have HT : Hid (tokenF (bsl s) at_ = if signF (s[0]'h0).toNat = 0 then none else some (⟨signF (s[0]'h0).toNat,ofL [s[0]'h0],at_⟩,1)):=Lib.hid (by
    have h:=tokenF_cons (s[0]'h0) ((bsl s).drop 1) at_
    rw [if_neg (by rw [hA];simp),if_neg hQ,← bsl_cons s h0] at h
    exact h)
  have hQb : (((s[0]'h0).toNat : Int) == 39) = false:=by rw [beq_eq_false_iff_ne];omega
  have HX : Hid (s.extract 0 1 = ofL [s[0]'h0]):=Lib.hid (by rw [extract_take,bsl_cons s h0];rfl)
  clear hQ hl
  cases hB : (signF (s[0]'h0).toNat != 0)
  · go_enter Try.func91,Try.ntmps91
    go_wp2_with (first | (go_at_call 99;refine (letter_c _ _).mono ?_;rintro e w' ⟨rfl,rfl⟩) | (go_at_call 108;refine (signs_c _ _).mono ?_;rintro e w' ⟨rfl,rfl⟩))
    exact ⟨rfl,token_panic (by rw [HT.out,if_pos (by simpa using hB)]),(Below.refl _ _).alloc (Nat.le_refl _) _⟩
  · go_enter Try.func91,Try.ntmps91
    go_wp2_with (first | (go_at_call 99;refine (letter_c _ _).mono ?_;rintro e w' ⟨rfl,rfl⟩) | (go_at_call 108;refine (signs_c _ _).mono ?_;rintro e w' ⟨rfl,rfl⟩))
    go_region_with (go_at_call 108;refine (signs_c _ _).mono ?_;rintro e w' ⟨rfl,rfl⟩)
    all_goals
      go_wp2
      refine bodyPost_ret (v:=.tuple #[.agg #[.int .i64 (signF (s[0]'h0).toNat),.string (s.extract 0 1),.int .i64 at_],.int .i64 1]) (by simp [results,Try.results91,go_sem]) rfl ⟨token_ret (by rw [HT.out,if_neg (by simpa using hB)]) rfl HX.out rfl rfl,?_⟩
      exact ((Below.refl _ _).alloc (Nat.le_refl _) _).drew
theorem token_c (s : ByteArray) (at_ : Int) (w : World) (hs : s.size ≤ maxLen) (h0 : 0 < s.size) : Calls Try.prog 91 #[.string s,.int .i64 at_] w fun e w' => TokenEnd (tokenF (bsl s) at_) at_ e ∧ Below w.heap.size w w':=by
  cases hA : letterB (s[0]'h0).toNat
  · by_cases hQ : (s[0]'h0).toNat = 39
    · exact token_quote s at_ w hs h0 hA hQ
    · exact token_sign s at_ w hs h0 hA hQ
  · exact token_letter s at_ w hs h0 hA
end Go.Proofs.Ytmkgcjhimajgiaa


set_option linter.unusedVariables false
set_option linter.unusedSimpArgs false
namespace Go.Proofs.Ytmkgcjhimajgiaa
open Go.RowKit Go.Proofs.YtmkgcjhimajgiaaW.PrintWords

/-- A grammar as it lies in memory. -/
structure RepG (W : World) (g : Gram) (A1 A2 A3 : Option Addr) (c1 c2 c3 : Nat) : Prop where
  terms : kStr.C W A1 g.terms.length g.terms
  names : kStr.C W A2 g.names.length g.names
  rules : kRule.C W A3 g.rules.length g.rules
  termsCap : g.terms.length ≤ c1
  namesCap : g.names.length ≤ c2
  rulesCap : g.rules.length ≤ c3
theorem RepG.below_ {W W1 : World} {g : Gram} {A1 A2 A3 : Option Addr} {c1 c2 c3 : Nat} (h : RepG W g A1 A2 A3 c1 c2 c3) (hb : Below W.heap.size W W1) : RepG W1 g A1 A2 A3 c1 c2 c3 :=
  ⟨Kd.C_below h.terms hb,Kd.C_below h.names hb,Kd.C_below h.rules hb,h.termsCap,h.namesCap,h.rulesCap⟩
theorem containsStr_n (A : Option Addr) (c n : Nat) (l : List ByteArray) (x : ByteArray) (w : World) (hr : kStr.C w A n l) :
    Calls Try.prog 94 #[.slice A n c,.string x] w fun e w' => e = .returned (.bool (l.any fun y => decide (x = y))) ∧ w = w':=by
  obtain rfl:=C_len hr
  exact containsStr_c A c l x w hr
theorem C_take' {α : Type} {d : Kd α} {w : World} {A : Option Addr} {xs : List α} {m : Nat} (h : d.C w A xs.length xs) (hm : m ≤ xs.length) : d.C w A m (xs.take m):=by
  have h1:=Kd.C_take h hm
  rwa [List.length_take,Nat.min_eq_left hm] at h1

set_option maxRecDepth 100000 in
set_option maxHeartbeats 1000000 in
theorem hasIn_c (b : Nat) (x y : Rule) (A B : Option Addr) (c d : Nat) (w : World) (hr : kInt.C w A x.right.length x.right) (hs : kInt.C w B y.right.length y.right) (hb : w.heap[b]? = some (.cells #[.int .i64 y.left,.slice B y.right.length d] 46 (0,0))) :
    Calls Try.prog 97 #[.agg #[.int .i64 x.left,.slice A x.right.length c],.pointer (some ⟨b,0,none⟩)] w fun e w' => e = .returned (.bool (decide (x = y))) ∧ Below w.heap.size w w':=by
  have hb1:=blk_alloc hb (.cells #[.int .i64 x.left,.slice A x.right.length c] 46 (0,0))
  have d1:=blk_cell hb1 0
  have d2:=blk_cell hb1 1
  simp only [List.getElem?_toArray,List.getElem?_cons_zero,List.getElem?_cons_succ] at d1 d2
  have HB:=Aside0.mk ((Below.refl w.heap.size w).alloc (Nat.le_refl _) (.cells #[.int .i64 x.left,.slice A x.right.length c] 46 (0,0)))
  have HR:=Aside0.mk hr
  have HS:=Aside0.mk hs
  clear hr hs hb hb1
  go_enter Try.func97,Try.ntmps97
  go_wp2_with (go_at_call 98;refine (alike_c _ _ _ _ _ _ _ (Kd.C_below HR.out HB.out) (Kd.C_below HS.out HB.out)).mono ?_;rintro e w1 ⟨rfl,hb1⟩)
  go_ret
  exact ⟨ret_bool rfl,below_then HB.out HB.out.size hb1⟩

set_option maxRecDepth 100000 in
set_option maxHeartbeats 1000000 in
theorem has_c (A B : Option Addr) (c d n : Nat) (l : List Rule) (y : Rule) (w : World) (hr : kRule.C w A n l) (hd : y.right.length ≤ d) (hs : kInt.C w B y.right.length y.right) :
    Calls Try.prog 75 #[.slice A n c,.agg #[.int .i64 y.left,.slice B y.right.length d]] w fun e w' => e = .returned (.bool (l.any fun x => decide (x = y))) ∧ Below w.heap.size w w':=by
  obtain rfl:=C_len hr
  have hmf : ∀ (fn : Fn) (first cap : Array Value) (w : World),(Instr.makeFunc fn first cap).run Try.prog w = .ok (.func fn first cap) w:=fun _ _ _ _ => rfl
  have hb:=blk_new w (.cells #[.int .i64 y.left,.slice B y.right.length d] 46 (0,0))
  have HB:=Aside0.mk ((Below.refl w.heap.size w).alloc (Nat.le_refl _) (.cells #[.int .i64 y.left,.slice B y.right.length d] 46 (0,0)))
  have HP : Aside0 (PredR (w.alloc (.cells #[.int .i64 y.left,.slice B y.right.length d] 46 (0,0))) (.func (.func 97) #[] #[.pointer (some ⟨w.heap.size,0,none⟩)]) (fun x => decide (x = y)) l) :=
    ⟨⟨_,_,_,rfl,fun _ _ => by kernel_rfl,fun x _ W A c hW _ hx => hasIn_c _ x y A B c d W hx (Kd.C_below (Kd.C_below hs HB.out) hW) (blk_below hb hW)⟩⟩
  have HR:=Aside0.mk hr
  clear hr hs hb
  go_enter Try.func75,Try.ntmps75
  go_wp2_with (go_at_call 96;refine (containsFuncRule_c _ _ _ _ _ _ (Kd.C_below HR.out HB.out) HP.out).mono ?_;rintro e w1 ⟨rfl,hb1⟩)
  go_ret
  exact ⟨ret_bool rfl,below_then HB.out HB.out.size hb1⟩

def termF (g : Gram) (sym : Int) : Bool:=decide (0 ≤ sym ∧ sym < g.terms.length)
set_option maxRecDepth 100000 in
set_option maxHeartbeats 1000000 in
theorem term_c (g : Gram) (A1 A2 A3 : Option Addr) (c1 c2 c3 : Nat) (sym : Int) (w : World) :
    Calls Try.prog 45 #[.agg #[.slice A1 g.terms.length c1,.slice A2 g.names.length c2,.slice A3 g.rules.length c3],.int .i64 sym] w fun e w' => e = .returned (.bool (termF g sym)) ∧ Below w.heap.size w w':=by
  have HB:=Aside0.mk ((Below.refl w.heap.size w).alloc (Nat.le_refl _) (.cells #[.slice A1 g.terms.length c1,.slice A2 g.names.length c2,.slice A3 g.rules.length c3] 25 (0,0)))
  by_cases h1 : 0 ≤ sym <;> by_cases h2 : sym < g.terms.length
  all_goals
    go_enter Try.func45,Try.ntmps45
    go_wp2
    go_ret
    exact ⟨ret_bool (by simp [termF,h1,h2]),HB.out⟩

def nameF (g : Gram) (sym : Int) : Option ByteArray :=
  if sym < 0 then none else if sym < g.terms.length then g.terms[sym.toNat]? else g.names[sym.toNat - g.terms.length]?
def NameEnd (r : Option ByteArray) (e : Ending) : Prop :=
  match r with
  | some s => e = .returned (.tuple #[.string s,.bool true])
  | none => e = .returned (.tuple #[.string ⟨#[]⟩,.bool false])
theorem name_some {r : Option ByteArray} {s s' : ByteArray} (h : r = some s) (hs : s' = s) : NameEnd r (.returned (.tuple #[.string s',.bool true])):=by
  subst h hs
  rfl
theorem name_none {r : Option ByteArray} (h : r = none) : NameEnd r (.returned (.tuple #[.string ⟨#[]⟩,.bool false])):=by
  subst h
  rfl
set_option maxRecDepth 100000 in
set_option maxHeartbeats 2000000 in
theorem name_c (g : Gram) (A1 A2 A3 : Option Addr) (c1 c2 c3 : Nat) (sym : Int) (w : World) (hg : RepG w g A1 A2 A3 c1 c2 c3) (hsz : g.terms.length + g.names.length ≤ 4000000000000000) (hi : -9223372036854775808 ≤ sym ∧ sym ≤ 9223372036854775807) :
    Calls Try.prog 53 #[.agg #[.slice A1 g.terms.length c1,.slice A2 g.names.length c2,.slice A3 g.rules.length c3],.int .i64 sym] w fun e w' => NameEnd (nameF g sym) e ∧ Below w.heap.size w w':=by
  have HB:=Aside0.mk ((Below.refl w.heap.size w).alloc (Nat.le_refl _) (.cells #[.slice A1 g.terms.length c1,.slice A2 g.names.length c2,.slice A3 g.rules.length c3] 25 (0,0)))
  have HG:=Aside0.mk hg
  clear hg
  by_cases h1 : sym < 0
  · have HE : Aside0 (nameF g sym = none):=⟨by unfold nameF;rw [if_pos h1]⟩
    go_enter Try.func53,Try.ntmps53
    go_wp2
    go_ret2
    exact ⟨name_none HE.out,HB.out⟩
  · obtain ⟨k,rfl⟩:=Int.eq_ofNat_of_zero_le (by omega : 0 ≤ sym)
    by_cases h2 : k < g.terms.length + g.names.length
    · by_cases h3 : k < g.terms.length
      · obtain ⟨ad,ead,hx⟩:=at_str (Kd.C_below HG.out.terms HB.out) k h3
        cases ead
        have HE : Aside0 (nameF g (k : Int) = some (g.terms[k]'h3)):=⟨by unfold nameF;rw [if_neg h1,if_pos (by omega),Int.toNat_natCast,List.getElem?_eq_getElem h3]⟩
        go_enter Try.func53,Try.ntmps53
        go_wp2
        go_ret2
        exact ⟨name_some HE.out rfl,HB.out⟩
      · obtain ⟨m,rfl⟩ : ∃ m,k = m + g.terms.length:=⟨k - g.terms.length,by omega⟩
        have h4 : m < g.names.length:=by omega
        obtain ⟨ad,ead,hx⟩:=at_str (Kd.C_below HG.out.names HB.out) m h4
        cases ead
        have e1 : IntKind.i64.wrap ((↑(m + g.terms.length) : Int) - (g.terms.length : Int)) = (m : Int):=by rw [IntWalk.i64_in _ (by omega)];omega
        have HE : Aside0 (nameF g ((m + g.terms.length : Nat) : Int) = some (g.names[m]'h4)):=⟨by unfold nameF;rw [if_neg h1,if_neg (by omega),Int.toNat_natCast,Nat.add_sub_cancel,List.getElem?_eq_getElem h4]⟩
        go_enter Try.func53,Try.ntmps53
        go_wp2
        go_ret2
        exact ⟨name_some HE.out rfl,HB.out⟩
    · have HE : Aside0 (nameF g (k : Int) = none):=⟨by unfold nameF;rw [if_neg h1,if_neg (by omega),Int.toNat_natCast,List.getElem?_eq_none (by omega)]⟩
      go_enter Try.func53,Try.ntmps53
      go_wp2
      go_ret2
      exact ⟨name_none HE.out,HB.out⟩

def risF (upto : Int) : List Int → Int → Bool
  | [],fr => fr == upto
  | n :: l,fr => if fr < n then false else risF upto l (if n = fr then fr + 1 else fr)
theorem risF_drop {upto : Int} {l : List Int} {k : Nat} {fr : Int} {R : Bool} (hk : k < l.length) (h : risF upto (l.drop k) fr = R) : (if fr < l[k]'hk then false else risF upto (l.drop (k + 1)) (if l[k]'hk = fr then fr + 1 else fr)) = R:=by
  rw [List.drop_eq_getElem_cons hk,risF] at h
  exact h
set_option maxRecDepth 100000 in
set_option maxHeartbeats 1000000 in
theorem rising_c (A : Option Addr) (c n : Nat) (l : List Int) (fr upto : Int) (w : World) (hr : kInt.C w A n l) (hb : -4000000000000000000 ≤ fr ∧ fr ≤ 1000000000000000) (hn : n ≤ 1000000000000000) :
    Calls Try.prog 80 #[.slice A n c,.int .i64 fr,.int .i64 upto] w fun e w' => e = .returned (.bool (risF upto l fr)) ∧ w = w':=by
  obtain rfl:=C_len hr
  obtain ⟨b1,b2⟩:=hb
  have HR:=Aside0.mk hr
  clear hr
  obtain ⟨R,hR⟩ : ∃ R,risF upto l fr = R:=⟨_,rfl⟩
  rw [hR]
  have HE:=Aside0.mk hR
  clear hR
  go_enter Try.func80,Try.ntmps80
  go_wp2
  go_loop [11,1] (fun i f => ∃ (k : Nat) (x : Int),k ≤ l.length ∧ i = .int .i64 k ∧ f = .int .i64 x ∧ -4000000000000000000 ≤ x ∧ x ≤ 1000000000000000 + k ∧ Aside0 (risF upto (l.drop k) x = R)) (fun i _ => l.length - (intOf i).toNat)
  case atStart => exact ⟨0,fr,Nat.zero_le _,rfl,rfl,b1,by omega,⟨HE.out⟩⟩
  case round =>
    obtain ⟨k,x,hk,rfl,rfl,hx1,hx2,HI⟩:=hrel
    by_cases hlt : k < l.length
    · obtain ⟨ad,ead,hx⟩:=at_int HR.out k hlt
      cases ead
      have hS:=risF_drop hlt HI.out
      by_cases h1 : x < l[k]'hlt
      · rw [if_pos h1] at hS
        have HS:=Aside0.mk hS
        clear hS
        go_wp2
        go_ret
        exact ⟨ret_bool HS.out,rfl⟩
      · rw [if_neg h1] at hS
        by_cases h2 : l[k]'hlt = x
        · rw [if_pos h2] at hS
          have HS:=Aside0.mk hS
          have h2b : ((l[k]'hlt) == x) = true:=by rw [h2];simp
          clear hS h2
          go_wp2
          go_round
          case rel => exact ⟨k + 1,x + 1,by omega,by go_num,rfl,by omega,by omega,HS⟩
          case measure => simp [intOf];omega
        · rw [if_neg h2] at hS
          have HS:=Aside0.mk hS
          have h2b : ((l[k]'hlt) == x) = false:=by simpa using h2
          clear hS h2
          go_wp2
          go_round
          case rel => exact ⟨k + 1,x,by omega,by go_num,rfl,by omega,by omega,HS⟩
          case measure => simp [intOf];omega
    · have hS:=HI.out
      rw [List.drop_eq_nil_of_le (by omega),risF] at hS
      have HS:=Aside0.mk hS
      clear hS
      go_wp2
      go_ret
      exact ⟨ret_bool HS.out,rfl⟩

def distF (may : ByteArray → Bool) : List ByteArray → List ByteArray → Bool
  | _,[] => true
  | seen,s :: l => if may s = false then false else if (seen.any fun y => decide (s = y)) = true then false else distF may (seen ++ [s]) l
theorem distF_drop {may : ByteArray → Bool} {l : List ByteArray} {k : Nat} {R : Bool} (hk : k < l.length) (h : distF may (l.take k) (l.drop k) = R) :
    (if may (l[k]'hk) = false then false else if ((l.take k).any fun y => decide (l[k]'hk = y)) = true then false else distF may (l.take (k + 1)) (l.drop (k + 1))) = R:=by
  rw [List.drop_eq_getElem_cons hk,distF] at h
  rw [List.take_succ_eq_append_getElem hk]
  exact h
structure PredS (fv : Value) (p : ByteArray → Bool) : Prop where
  ex : ∃ f first cap,fv = .func (.func f) first cap ∧ (∀ args w,(callFunc f args).run Try.prog w = .ok (.enter f args) w) ∧ ∀ x w,Calls Try.prog f (first.push (.string x) ++ cap) w fun e w' => e = .returned (.bool (p x)) ∧ w = w'
theorem pred_isName : PredS (.func (.func 77) #[] #[]) (fun s => isNameF (bsl s)):=⟨_,_,_,rfl,fun _ _ => by kernel_rfl,fun s w => isName_c s w⟩
theorem pred_isTerm : PredS (.func (.func 78) #[] #[]) (fun s => isTermF (bsl s)):=⟨_,_,_,rfl,fun _ _ => by kernel_rfl,fun s w => isTerm_c s w⟩
set_option maxRecDepth 100000 in
set_option maxHeartbeats 1000000 in
theorem distinct_c (A : Option Addr) (c n : Nat) (l : List ByteArray) (least most : Int) (fv : Value) (may : ByteArray → Bool) (w : World) (hr : kStr.C w A n l) (hc : n ≤ c) (hp : PredS fv may) :
    Calls Try.prog 76 #[.slice A n c,.int .i64 least,.int .i64 most,fv] w fun e w' => e = .returned (.bool (distF may [] l && decide (least ≤ l.length) && decide (l.length ≤ most))) ∧ w = w':=by
  obtain rfl:=C_len hr
  have hm:=C_max hr
  have HR:=Aside0.mk hr
  clear hr
  obtain ⟨f,first,cap,rfl,hcf,hcall⟩:=hp.ex
  have HC:=Aside0.mk hcall
  clear hcall hp
  obtain ⟨R,hR⟩ : ∃ R,distF may [] l = R:=⟨_,rfl⟩
  rw [hR]
  have HE:=Aside0.mk hR
  clear hR
  go_enter Try.func76,Try.ntmps76
  go_wp2
  go_loop [13] (fun i => ∃ k : Nat,k ≤ l.length ∧ i = .int .i64 k ∧ Aside0 (distF may (l.take k) (l.drop k) = R)) (fun i => l.length - (intOf i).toNat)
  case atStart => exact ⟨0,Nat.zero_le _,rfl,⟨HE.out⟩⟩
  case round =>
    obtain ⟨k,hk,rfl,HI⟩:=hrel
    by_cases hlt : k < l.length
    · obtain ⟨ad,ead,hx⟩:=at_str HR.out k hlt
      cases ead
      have hS:=distF_drop hlt HI.out
      have HT:=Aside0.mk (C_take' HR.out hk)
      cases h1 : may (l[k]'hlt)
      · rw [if_pos h1] at hS
        have HS:=Aside0.mk hS
        clear hS
        go_wp2_with (first | (go_at_call 94;refine (containsStr_n _ _ _ _ _ _ HT.out).mono ?_;rintro e w' ⟨rfl,rfl⟩) | (refine (HC.out (l[k]'hlt) _).mono ?_;rw [h1];rintro e w' ⟨rfl,rfl⟩))
        go_ret
        exact ⟨ret_bool (by rw [← HS.out];rfl),rfl⟩
      · rw [if_neg (by rw [h1];simp)] at hS
        cases h2 : ((l.take k).any fun y => decide (l[k]'hlt = y))
        · rw [if_neg (by rw [h2];simp)] at hS
          have HS:=Aside0.mk hS
          clear hS
          go_wp2_with (first | (go_at_call 94;refine (containsStr_n _ _ _ _ _ _ HT.out).mono ?_;rw [h2];rintro e w' ⟨rfl,rfl⟩) | (refine (HC.out (l[k]'hlt) _).mono ?_;rw [h1];rintro e w' ⟨rfl,rfl⟩))
          go_round
          case rel => exact ⟨k + 1,by omega,by go_num,HS⟩
          case measure => simp [intOf];omega
        · rw [if_pos h2] at hS
          have HS:=Aside0.mk hS
          clear hS
          go_wp2_with (first | (go_at_call 94;refine (containsStr_n _ _ _ _ _ _ HT.out).mono ?_;rw [h2];rintro e w' ⟨rfl,rfl⟩) | (refine (HC.out (l[k]'hlt) _).mono ?_;rw [h1];rintro e w' ⟨rfl,rfl⟩))
          go_ret
          exact ⟨ret_bool (by rw [← HS.out];rfl),rfl⟩
    · have hS:=HI.out
      rw [List.drop_eq_nil_of_le (by omega),distF] at hS
      have HS:=Aside0.mk hS
      clear hS
      by_cases g1 : least ≤ l.length <;> by_cases g2 : (l.length : Int) ≤ most
      all_goals
        go_wp2
        go_ret
        exact ⟨ret_bool (by simp [← HS.out,g1,g2]),rfl⟩
end Go.Proofs.Ytmkgcjhimajgiaa


set_option linter.unusedVariables false
set_option linter.unusedSimpArgs false
namespace Go.Proofs.Ytmkgcjhimajgiaa
open Go.RowKit Go.Proofs.YtmkgcjhimajgiaaW.PrintWords

theorem wp_region_tail {id : Nat} {Q : Exit → Act → World → Prop} {a : Act} {w : World} {l : List Oper} (n : Nat) (hm : Try.prog.follows .mixedOrders = true) (hB : Region.lexTailB .any l.toArray n = true)
    (h : wpStill Try.prog l.toArray w.drew (fun a' => wpList Try.prog l.toArray Q (l.drop n) a' w.drew) (l.take n) a) : (Code.region id l.toArray true).wp Try.prog Q a w :=
  wp_region_still_tail n hm hB h
def symB (all : Int) (s : Int) : Bool:=decide (s < 0) || decide (all ≤ s)
def rulF (t all : Int) : List Rule → List Rule → Bool
  | _,[] => true
  | seen,r :: l =>
    if r.left < t ∨ all ≤ r.left ∨ 8 < r.right.length ∨ (seen.any fun x => decide (x = r)) = true then false
    else if r.right.any (symB all) = true then false else rulF t all (seen ++ [r]) l
theorem rulF_drop {t all : Int} {l : List Rule} {k : Nat} {R : Bool} (hk : k < l.length) (h : rulF t all (l.take k) (l.drop k) = R) :
    (if (l[k]'hk).left < t ∨ all ≤ (l[k]'hk).left ∨ 8 < (l[k]'hk).right.length ∨ ((l.take k).any fun x => decide (x = l[k]'hk)) = true then false
    else if (l[k]'hk).right.any (symB all) = true then false else rulF t all (l.take (k + 1)) (l.drop (k + 1))) = R:=by
  rw [List.drop_eq_getElem_cons hk,rulF] at h
  rw [List.take_succ_eq_append_getElem hk]
  exact h

theorem ruledIn_c (b : Nat) (all s : Int) (w : World) (hb : w.heap[b]? = some (.cells #[.int .i64 all] 3 (0,0))) :
    Calls Try.prog 104 #[.int .i64 s,.pointer (some ⟨b,0,none⟩)] w fun e w' => e = .returned (.bool (symB all s)) ∧ w = w':=by
  have d1:=blk_cell hb 0
  simp only [List.getElem?_toArray,List.getElem?_cons_zero] at d1
  clear hb
  by_cases h1 : s < 0 <;> by_cases h2 : all ≤ s
  all_goals
    go_enter Try.func104,Try.ntmps104
    go_wp2
    go_ret
    exact ⟨ret_bool (by simp [symB, *] <;> try omega),rfl⟩

theorem pred_ruled (b : Nat) (all : Int) (l : List Int) (w : World) (hb : w.heap[b]? = some (.cells #[.int .i64 all] 3 (0,0))) : PredI w (.func (.func 104) #[] #[.pointer (some ⟨b,0,none⟩)]) (symB all) l :=
  ⟨_,_,_,rfl,fun _ _ => by kernel_rfl,fun s _ W hW => (ruledIn_c _ _ s W (blk_below hb hW)).mono fun e w' h => ⟨h.1,h.2 ▸ Below.refl _ _⟩⟩
set_option maxRecDepth 100000 in
set_option maxHeartbeats 1000000 in
theorem ruled_c (g : Gram) (A1 A2 A3 : Option Addr) (c1 c2 c3 : Nat) (w : World) (hg : RepG w g A1 A2 A3 c1 c2 c3) (hsz : g.terms.length + g.names.length ≤ 1000) :
    Calls Try.prog 79 #[.agg #[.slice A1 g.terms.length c1,.slice A2 g.names.length c2,.slice A3 g.rules.length c3]] w fun e w' => e = .returned (.bool (decide (1 ≤ g.rules.length) && decide (g.rules.length ≤ 60) && rulF g.terms.length (g.terms.length + g.names.length) [] g.rules)) ∧ Below w.heap.size w w':=by
  have HB:=Aside0.mk ((Below.refl w.heap.size w).alloc (Nat.le_refl _) (.cells #[.slice A1 g.terms.length c1,.slice A2 g.names.length c2,.slice A3 g.rules.length c3] 25 (0,0)))
  have HG:=Aside0.mk hg
  clear hg
  have hmf : ∀ (fn : Fn) (first cap : Array Value) (w : World),(Instr.makeFunc fn first cap).run Try.prog w = .ok (.func fn first cap) w:=fun _ _ _ _ => rfl
  by_cases hr1 : 1 ≤ g.rules.length
  · by_cases hr2 : g.rules.length ≤ 60
    · obtain ⟨R,hR⟩ : ∃ R,rulF g.terms.length (g.terms.length + g.names.length) [] g.rules = R:=⟨_,rfl⟩
      rw [hR,decide_eq_true hr1,decide_eq_true hr2,Bool.true_and,Bool.true_and]
      have HE:=Aside0.mk hR
      clear hR
      go_enter Try.func79,Try.ntmps79
      go_wp2
      go_loopw [26] (fun i wr => ∃ k : Nat,k ≤ g.rules.length ∧ i = .int .i64 k ∧ Aside0 (rulF g.terms.length (g.terms.length + g.names.length) (g.rules.take k) (g.rules.drop k) = R) ∧
        Aside0 (wr.heap[w.heap.size]? = some (.cells #[.slice A1 g.terms.length c1,.slice A2 g.names.length c2,.slice A3 g.rules.length c3] 25 (0,0))) ∧ Aside0 (wr.heap[w.heap.size + 1]? = some (.cells #[.int .i64 (g.terms.length + g.names.length)] 3 (0,0))) ∧ Aside0 (Below w.heap.size w wr)) (fun i _ => g.rules.length - (intOf i).toNat)
      case atStart => exact ⟨0,Nat.zero_le _,rfl,⟨HE.out⟩,⟨blk_alloc (blk_new w _) _⟩,⟨by simpa using blk_new (w.alloc (.cells #[.slice A1 g.terms.length c1,.slice A2 g.names.length c2,.slice A3 g.rules.length c3] 25 (0,0))) (.cells #[.int .i64 (g.terms.length + g.names.length)] 3 (0,0))⟩,⟨HB.out.alloc (by simp) _⟩⟩
      case round =>
        obtain ⟨k,hk,rfl,HI,HP,HQ,HB1⟩:=hrel
        by_cases hlt : k < g.rules.length
        · obtain ⟨ad,B1,d1,ead,hx,hy,hd1,hC1⟩:=at_rule (Kd.C_below HG.out.rules HB1.out) k hlt
          cases ead
          have hS:=rulF_drop hlt HI.out
          obtain ⟨x,hx0⟩ : ∃ x,x = g.rules[k]'hlt:=⟨_,rfl⟩
          rw [← hx0] at hx hy hd1 hC1 hS
          have HX:=Lib.hid hx0
          clear hx0
          have hP1:=blk_alloc HP.out (.cells #[.int .i64 x.left,.slice B1 x.right.length d1] 46 (0,0))
          have hQ1:=blk_alloc HQ.out (.cells #[.int .i64 x.left,.slice B1 x.right.length d1] 46 (0,0))
          have a1:=blk_cell hP1 0
          have a2:=blk_cell hP1 1
          have a3:=blk_cell hP1 2
          have a4:=blk_cell hQ1 0
          simp only [List.getElem?_toArray,List.getElem?_cons_zero,List.getElem?_cons_succ] at a1 a2 a3 a4
          have HBr:=Aside0.mk (HB1.out.alloc (by have:=HB1.out.size;omega) (.cells #[.int .i64 x.left,.slice B1 x.right.length d1] 46 (0,0)))
          have HPa:=Aside0.mk hP1
          have HQa:=Aside0.mk hQ1
          have HC1:=Aside0.mk (Kd.C_below hC1 (below_alloc (Below.refl _ _) (.cells #[.int .i64 x.left,.slice B1 x.right.length d1] 46 (0,0))))
          have HT:=Aside0.mk (C_take' (Kd.C_below HG.out.rules HBr.out) hk)
          clear hP1 hQ1 hC1
          have hkc : k ≤ c3:=Nat.le_trans hk HG.out.rulesCap
          have i1 : (0 : Int) ≤ (k : Int):=by omega
          have i2 : (k : Int) ≤ (c3 : Int):=by omega
          by_cases h1 : x.left < g.terms.length
          · rw [if_pos (.inl h1)] at hS
            have HS:=Aside0.mk hS
            clear hS
            go_wp2
            go_quiet (fail)
            go_wp2
            go_ret
            exact ⟨ret_bool HS.out,below_drewN HBr.out _⟩
          · have h1b : decide (x.left < (g.terms.length : Int)) = false:=decide_eq_false h1
            by_cases h2 : g.terms.length + g.names.length ≤ x.left
            · rw [if_pos (.inr (.inl h2))] at hS
              have HS:=Aside0.mk hS
              clear hS
              go_wp2
              go_quiet (fail)
              go_wp2
              go_ret
              exact ⟨ret_bool HS.out,below_drewN HBr.out _⟩
            · have h2b : decide ((g.terms.length : Int) + (g.names.length : Int) ≤ x.left) = false:=decide_eq_false h2
              by_cases h3 : 8 < x.right.length
              · have h3b : decide ((8 : Int) < (x.right.length : Int)) = true:=decide_eq_true (by omega)
                rw [if_pos (.inr (.inr (.inl h3)))] at hS
                have HS:=Aside0.mk hS
                clear hS
                go_wp2
                go_quiet (fail)
                go_wp2
                go_ret
                exact ⟨ret_bool HS.out,below_drewN HBr.out _⟩
              · have h3b : decide ((8 : Int) < (x.right.length : Int)) = false:=decide_eq_false (by omega)
                cases h4 : (g.rules.take k).any fun y => decide (y = x)
                · rw [if_neg (fun h => h.elim h1 (fun h => h.elim h2 (fun h => h.elim h3 (fun h => by rw [h4] at h;cases h))))] at hS
                  cases h5 : x.right.any (symB (g.terms.length + g.names.length))
                  · rw [if_neg (by rw [h5];simp)] at hS
                    have HS:=Aside0.mk hS
                    clear hS
                    go_wp2
                    refine wp_region_tail 24 (by kernel_rfl) (by kernel_rfl) ?_
                    simp only [List.take_succ_cons,List.take_zero,List.drop_succ_cons,List.drop_zero]
                    repeat still_step
                    try refine wpStill_nil ?_
                    go_wp2_with (first | (go_at_call 75;refine (has_c _ _ _ _ _ _ _ _ (Kd.C_below HT.out (Below.refl _ _).drew) hd1 (Kd.C_below HC1.out (Below.refl _ _).drew)).mono ?_;rw [h4];rintro e w1 ⟨rfl,hb1⟩;have hN1:=blk_below (blk_drew (blk_new wr (.cells #[.int .i64 x.left,.slice B1 x.right.length d1] 46 (0,0)))) hb1;have b1:=blk_cell hN1 1;simp only [List.getElem?_toArray,List.getElem?_cons_zero,List.getElem?_cons_succ] at b1;have HB2:=Aside0.mk (below_then HBr.out.drew HBr.out.size hb1);have HP2:=Aside0.mk (blk_below (blk_drew HPa.out) hb1);have HQ2:=Aside0.mk (blk_below (blk_drew HQa.out) hb1);have HC2:=Aside0.mk (Kd.C_below (Kd.C_below HC1.out (Below.refl _ _).drew) hb1);clear hN1 hb1) | (go_at_call 103;refine (containsFuncInt_c _ _ _ _ _ _ HC2.out (pred_ruled _ _ _ _ HQ2.out)).mono ?_;rw [h5];rintro e w2 ⟨rfl,hb2⟩))
                    go_roundw
                    case rel => exact ⟨k + 1,by omega,by go_num,HS,⟨blk_below HP2.out hb2⟩,⟨blk_below HQ2.out hb2⟩,⟨below_then HB2.out HB2.out.size hb2⟩⟩
                    case measure => simp [intOf];omega
                  · rw [if_pos h5] at hS
                    have HS:=Aside0.mk hS
                    clear hS
                    go_wp2
                    refine wp_region_tail 24 (by kernel_rfl) (by kernel_rfl) ?_
                    simp only [List.take_succ_cons,List.take_zero,List.drop_succ_cons,List.drop_zero]
                    repeat still_step
                    try refine wpStill_nil ?_
                    go_wp2_with (first | (go_at_call 75;refine (has_c _ _ _ _ _ _ _ _ (Kd.C_below HT.out (Below.refl _ _).drew) hd1 (Kd.C_below HC1.out (Below.refl _ _).drew)).mono ?_;rw [h4];rintro e w1 ⟨rfl,hb1⟩;have hN1:=blk_below (blk_drew (blk_new wr (.cells #[.int .i64 x.left,.slice B1 x.right.length d1] 46 (0,0)))) hb1;have b1:=blk_cell hN1 1;simp only [List.getElem?_toArray,List.getElem?_cons_zero,List.getElem?_cons_succ] at b1;have HB2:=Aside0.mk (below_then HBr.out.drew HBr.out.size hb1);have HP2:=Aside0.mk (blk_below (blk_drew HPa.out) hb1);have HQ2:=Aside0.mk (blk_below (blk_drew HQa.out) hb1);have HC2:=Aside0.mk (Kd.C_below (Kd.C_below HC1.out (Below.refl _ _).drew) hb1);clear hN1 hb1) | (go_at_call 103;refine (containsFuncInt_c _ _ _ _ _ _ HC2.out (pred_ruled _ _ _ _ HQ2.out)).mono ?_;rw [h5];rintro e w2 ⟨rfl,hb2⟩))
                    go_ret
                    exact ⟨ret_bool HS.out,below_then HB2.out HB2.out.size hb2⟩
                · rw [if_pos (.inr (.inr (.inr h4)))] at hS
                  have HS:=Aside0.mk hS
                  clear hS
                  go_wp2
                  refine wp_region_tail 24 (by kernel_rfl) (by kernel_rfl) ?_
                  simp only [List.take_succ_cons,List.take_zero,List.drop_succ_cons,List.drop_zero]
                  repeat still_step
                  try refine wpStill_nil ?_
                  go_wp2_with (first | (go_at_call 75;refine (has_c _ _ _ _ _ _ _ _ (Kd.C_below HT.out (Below.refl _ _).drew) hd1 (Kd.C_below HC1.out (Below.refl _ _).drew)).mono ?_;rw [h4];rintro e w1 ⟨rfl,hb1⟩;have HB2:=Aside0.mk (below_then HBr.out.drew HBr.out.size hb1)))
                  go_ret
                  exact ⟨ret_bool HS.out,HB2.out⟩
        · have hS:=HI.out
          rw [List.drop_eq_nil_of_le (by omega),rulF] at hS
          have HS:=Aside0.mk hS
          clear hS
          go_wp2
          go_ret
          exact ⟨ret_bool HS.out,HB1.out⟩
    · rw [decide_eq_false hr2,Bool.and_false,Bool.false_and]
      go_enter Try.func79,Try.ntmps79
      go_wp2
      go_ret
      exact ⟨ret_bool rfl,HB.out⟩
  · rw [decide_eq_false hr1,Bool.false_and,Bool.false_and]
    go_enter Try.func79,Try.ntmps79
    go_wp2
    go_ret
    exact ⟨ret_bool rfl,HB.out⟩
end Go.Proofs.Ytmkgcjhimajgiaa


set_option linter.unusedVariables false
set_option linter.unusedSimpArgs false
namespace Go.Proofs.Ytmkgcjhimajgiaa
open Go.RowKit Go.Proofs.YtmkgcjhimajgiaaW.PrintWords

section
variable {ops : Array Oper} {rest : List Oper} {o : Oper} {a : Act} {Q : Exit → Act → World → Prop} {w0 W : World} {base : Nat} {v : Value} {ok okp : Nat → Prop} {s x : Operand} {cs : List Value}
/-- What an append leaves. -/
structure Appd {α : Type} (d : Kd α) (e : Nat) (w0 W : World) (base : Nat) (ok : Nat → Prop) (v : Value) (xs : List α) (v1 : Value) (w1 : World) : Prop where
  row : d.R e w1 base ok v1 xs
  below : Below base w0 w1
  grown : W.grownBy w1 v.ownBlock
  at_ : v1.ownBlock = v.ownBlock ∨ ∃ b,v1.ownBlock = some b ∧ W.heap.size ≤ b
theorem Appd.shape {α : Type} {d : Kd α} {e : Nat} {xs : List α} {p : α} {v1 : Value} {w1 : World} (h : Appd d e w0 W base ok v (xs ++ [p]) v1 w1) : ∃ A c,v1 = .slice A (xs.length + 1) c:=by
  obtain ⟨A,c,h⟩:=Kd.R_slice h.row
  rw [List.length_append,List.length_singleton] at h
  exact ⟨A,c,h⟩
theorem app_tok {xs : List Tok} {p : Tok} (hgd : o.guard = none) (ho : o.op = .call { callee:=.builtin .append,args:=#[s,x],argTypes:=#[130,130] })
    (HO : kTok.R 138 W base ok v xs) (HB : Below base w0 W) (hbase : base ≤ W.heap.size) (hl : xs.length + 1 ≤ 4000000000000) (hfresh : ∀ k,W.heap.size ≤ k → ok k) (hs : a.eval s = v) (hx : a.eval x = .slice (some ⟨W.heap.size,0,none⟩) 1 1)
    (h : ∀ v1 w1,Appd kTok 138 w0 W base ok v (xs ++ [p]) v1 w1 → wpList Try.prog ops Q rest (a.put o.dst v1) w1) :
    wpList Try.prog ops Q (o :: rest) a (W.alloc (.cells #[.int .i64 p.kind,.string p.text,.int .i64 p.pos] 138)) :=
  Kd.R_append kTok base hgd s x 130 138 _ 32 ho Try.underlying130 infoTok rfl (by decide) (by decide) v xs p _ ok (fun _ => False) hs hx (M_tok _ _ _ p) (fun _ h => h.elim) hfresh HO HB hbase (by omega) (fun v1 w1 h1 h2 h3 h4 => h v1 w1 ⟨h1,h2,h3,h4⟩)
theorem app_int {xs : List Int} {p : Int} (hgd : o.guard = none) (ho : o.op = .call { callee:=.builtin .append,args:=#[s,x],argTypes:=#[26,26] })
    (HO : kInt.R 3 W base ok v xs) (HB : Below base w0 W) (hbase : base ≤ W.heap.size) (hl : xs.length + 1 ≤ 4000000000000) (hfresh : ∀ k,W.heap.size ≤ k → ok k) (hs : a.eval s = v) (hx : a.eval x = .slice (some ⟨W.heap.size,0,none⟩) 1 1)
    (h : ∀ v1 w1,Appd kInt 3 w0 W base ok v (xs ++ [p]) v1 w1 → wpList Try.prog ops Q rest (a.put o.dst v1) w1) :
    wpList Try.prog ops Q (o :: rest) a (W.alloc (.cells #[.int .i64 p] 3)) :=
  Kd.R_append kInt base hgd s x 26 3 _ 8 ho Try.underlying26 infoInt rfl (by decide) (by decide) v xs p [.int .i64 p] ok (fun _ => False) hs hx rfl (fun _ h => h.elim) hfresh HO HB hbase (by omega) (fun v1 w1 h1 h2 h3 h4 => h v1 w1 ⟨h1,h2,h3,h4⟩)
theorem app_str {xs : List ByteArray} {p : ByteArray} (hgd : o.guard = none) (ho : o.op = .call { callee:=.builtin .append,args:=#[s,x],argTypes:=#[22,22] })
    (HO : kStr.R 9 W base ok v xs) (HB : Below base w0 W) (hbase : base ≤ W.heap.size) (hl : xs.length + 1 ≤ 4000000000000) (hfresh : ∀ k,W.heap.size ≤ k → ok k) (hs : a.eval s = v) (hx : a.eval x = .slice (some ⟨W.heap.size,0,none⟩) 1 1)
    (h : ∀ v1 w1,Appd kStr 9 w0 W base ok v (xs ++ [p]) v1 w1 → wpList Try.prog ops Q rest (a.put o.dst v1) w1) :
    wpList Try.prog ops Q (o :: rest) a (W.alloc (.cells #[.string p] 9)) :=
  Kd.R_append kStr base hgd s x 22 9 _ 16 ho Try.underlying22 infoStr rfl (by decide) (by decide) v xs p [.string p] ok (fun _ => False) hs hx rfl (fun _ h => h.elim) hfresh HO HB hbase (by omega) (fun v1 w1 h1 h2 h3 h4 => h v1 w1 ⟨h1,h2,h3,h4⟩)
end
theorem fresh_ne {α : Type} {d : Kd α} {e : Nat} {W : World} {base : Nat} {ok : Nat → Prop} {v : Value} {xs : List α} (h : d.R e W base ok v xs) : ∀ k,W.heap.size ≤ k → some k ≠ v.ownBlock:=by
  intro k hk he
  obtain ⟨inner,ho⟩:=Kd.R_own h
  have:=own_lt ho k he.symm
  omega
theorem two_append {α β : Type} {d : Kd α} {d' : Kd β} {e e' : Nat} {w0 W w1 : World} {base : Nat} {v v' v1 : Value} {xs1 : List α} {ys : List β} (H2 : d'.R e' W base (fun k => some k ≠ v.ownBlock) v' ys)
    (A : Appd d e w0 W base (fun k => some k ≠ v'.ownBlock) v xs1 v1 w1) : d'.R e' w1 base (fun k => some k ≠ v1.ownBlock) v' ys:=by
  have h1:=Kd.R_grown (Kd.R_bound H2) A.grown (fun k hk => hk.1)
  refine Kd.R_mono h1 (fun k hk => ?_)
  rcases A.at_ with h | ⟨b,h,hb⟩
  · rw [h];exact hk.1
  · rw [h]
    intro he
    injection he with he
    have:=hk.2.2.1
    omega
theorem two_append2 {α β : Type} {d : Kd α} {d' : Kd β} {e e' : Nat} {w0 W w1 : World} {base : Nat} {ok ok' : Nat → Prop} {v v' v1 : Value} {xs1 : List α} {ys : List β} (H2 : d'.R e' W base ok' v' ys) (hok : ∀ k,ok' k → some k ≠ v.ownBlock)
    (A : Appd d e w0 W base ok v xs1 v1 w1) : d'.R e' w1 base (fun k => ok' k ∧ some k ≠ v1.ownBlock) v' ys:=by
  have h1:=Kd.R_grown (Kd.R_bound H2) A.grown (fun k hk => hok k hk.1)
  refine Kd.R_mono h1 (fun k hk => ⟨hk.1,?_⟩)
  rcases A.at_ with h | ⟨b,h,hb⟩
  · rw [h];exact hok k hk.1
  · rw [h]
    intro he
    injection he with he
    have:=hk.2.2.1
    omega
theorem ne_append {α : Type} {d : Kd α} {e : Nat} {w0 W w1 : World} {base b : Nat} {ok : Nat → Prop} {v v1 : Value} {xs1 : List α} (h : some b ≠ v.ownBlock) (hb : b < W.heap.size) (A : Appd d e w0 W base ok v xs1 v1 w1) : some b ≠ v1.ownBlock:=by
  rcases A.at_ with h1 | ⟨k,h1,hk⟩
  · rw [h1];exact h
  · rw [h1]
    intro he
    injection he with he
    omega
end Go.Proofs.Ytmkgcjhimajgiaa


set_option linter.unusedVariables false
set_option linter.unusedSimpArgs false
namespace Go.Proofs.Ytmkgcjhimajgiaa
open Go.RowKit Go.Proofs.YtmkgcjhimajgiaaW.PrintWords

def nameOk (s : ByteArray) : Bool:=isNameF (bsl s)
def termOk (s : ByteArray) : Bool:=isTermF (bsl s)
def ruledF (g : Gram) : Bool:=decide (1 ≤ g.rules.length) && decide (g.rules.length ≤ 60) && rulF g.terms.length (g.terms.length + g.names.length) [] g.rules
def leftsF (l : List Rule) : List Int:=l.map (·.left)
def termsF (g : Gram) (l : List Rule) : List Int:=l.flatMap fun r => r.right.filter (termF g)
def namesOk (g : Gram) : Bool:=distF nameOk [] g.names && decide ((1 : Int) ≤ g.names.length) && decide ((g.names.length : Int) ≤ 40)
def termsOk (g : Gram) : Bool:=distF termOk [] g.terms && decide ((0 : Int) ≤ g.terms.length) && decide ((g.terms.length : Int) ≤ 40)
def goodF (g : Gram) : Bool :=
  namesOk g && termsOk g && ruledF g && risF (g.terms.length + g.names.length) (leftsF g.rules) g.terms.length && risF g.terms.length (termsF g g.rules) 0
theorem rulF_mem {t all : Int} {seen l : List Rule} (h : rulF t all seen l = true) : ∀ r ∈ l,¬ r.left < t ∧ r.left < all ∧ r.right.length ≤ 8 ∧ ∀ s ∈ r.right,0 ≤ s ∧ s < all:=by
  induction l generalizing seen with
  | nil => intro r hr;cases hr
  | cons a l ih =>
    rw [rulF] at h
    split at h
    · cases h
    · rename_i h1
      split at h
      · cases h
      · rename_i h2
        intro r hr
        rcases List.mem_cons.1 hr with rfl | hr
        · refine ⟨fun h => h1 (.inl h),?_,?_,fun s hs => ?_⟩
          · have:=fun h => h1 (.inr (.inl h));omega
          · have:=fun h => h1 (.inr (.inr (.inl h)));omega
          · have h3 : ¬ symB all s = true:=fun h => h2 (List.any_eq_true.2 ⟨s,hs,h⟩)
            simp [symB] at h3
            omega
        · exact ih h r hr
theorem termsF_len (g : Gram) (l : List Rule) (h : ∀ r ∈ l,r.right.length ≤ 8) : (termsF g l).length ≤ 8 * l.length:=by
  induction l with
  | nil => simp [termsF]
  | cons a l ih =>
    have h1:=ih (fun r hr => h r (List.mem_cons_of_mem _ hr))
    have h2:=h a List.mem_cons_self
    have h3:=List.length_filter_le (termF g) a.right
    simp only [termsF,List.flatMap_cons,List.length_append,List.length_cons] at h1 ⊢
    omega

theorem small_names {g : Gram} (h : namesOk g = true) : g.names.length ≤ 40 ∧ 1 ≤ g.names.length:=by
  unfold namesOk at h
  rw [Bool.and_eq_true,Bool.and_eq_true] at h
  have h1:=of_decide_eq_true h.1.2
  have h2:=of_decide_eq_true h.2
  omega
theorem small_terms {g : Gram} (h : termsOk g = true) : g.terms.length ≤ 40:=by
  unfold termsOk at h
  rw [Bool.and_eq_true,Bool.and_eq_true] at h
  have h1:=of_decide_eq_true h.1.2
  have h2:=of_decide_eq_true h.2
  omega
theorem leftsF_succ {l : List Rule} {k : Nat} (h : k < l.length) : leftsF (l.take (k + 1)) = leftsF (l.take k) ++ [(l[k]'h).left]:=by
  rw [leftsF,List.take_succ_eq_append_getElem h,List.map_append];rfl
theorem termsF_succ {g : Gram} {l : List Rule} {k : Nat} (h : k < l.length) : termsF g (l.take (k + 1)) = termsF g (l.take k) ++ (l[k]'h).right.filter (termF g):=by
  rw [termsF,List.take_succ_eq_append_getElem h,List.flatMap_append,List.flatMap_singleton];rfl
theorem filter_succ {p : Int → Bool} {l : List Int} {j : Nat} (h : j < l.length) : (l.take (j + 1)).filter p = (l.take j).filter p ++ if p (l[j]'h) = true then [l[j]'h] else []:=by
  rw [List.take_succ_eq_append_getElem h,List.filter_append]
  congr 1
  by_cases hp : p (l[j]'h) = true <;> simp [hp]

set_option maxRecDepth 100000 in
set_option maxHeartbeats 2000000 in
theorem good_no (g : Gram) (A1 A2 A3 : Option Addr) (c1 c2 c3 : Nat) (w : World) (hg : RepG w g A1 A2 A3 c1 c2 c3) (hno : (namesOk g && termsOk g && ruledF g) = false) :
    Calls Try.prog 44 #[.agg #[.slice A1 g.terms.length c1,.slice A2 g.names.length c2,.slice A3 g.rules.length c3]] w fun e w' => e = .returned (.bool (goodF g)) ∧ Below w.heap.size w w':=by
  have hF : goodF g = false:=by unfold goodF;rw [hno];rfl
  rw [hF]
  have HB:=Aside0.mk ((Below.refl w.heap.size w).alloc (Nat.le_refl _) (.cells #[.slice A1 g.terms.length c1,.slice A2 g.names.length c2,.slice A3 g.rules.length c3] 25 (0,0)))
  have HG:=Aside0.mk (hg.below_ (below_alloc (Below.refl _ _) (.cells #[.slice A1 g.terms.length c1,.slice A2 g.names.length c2,.slice A3 g.rules.length c3] 25 (0,0))))
  clear hg
  have HD1:=Aside0.mk (distinct_c A2 c2 g.names.length g.names 1 40 _ nameOk (w.alloc (.cells #[.slice A1 g.terms.length c1,.slice A2 g.names.length c2,.slice A3 g.rules.length c3] 25 (0,0))) HG.out.names HG.out.namesCap pred_isName)
  have HD2:=Aside0.mk (distinct_c A1 c1 g.terms.length g.terms 0 40 _ termOk (w.alloc (.cells #[.slice A1 g.terms.length c1,.slice A2 g.names.length c2,.slice A3 g.rules.length c3] 25 (0,0))) HG.out.terms HG.out.termsCap pred_isTerm)
  have e1 : (distF nameOk [] g.names && decide ((1 : Int) ≤ g.names.length) && decide ((g.names.length : Int) ≤ 40)) = namesOk g:=rfl
  have e2 : (distF termOk [] g.terms && decide ((0 : Int) ≤ g.terms.length) && decide ((g.terms.length : Int) ≤ 40)) = termsOk g:=rfl
  rw [e1] at HD1
  rw [e2] at HD2
  clear e1 e2
  cases h1 : namesOk g
  · clear hno
    go_enter Try.func44,Try.ntmps44
    go_wp2_with (go_at_call 76;refine HD1.out.mono ?_;rw [h1];rintro e w' ⟨rfl,rfl⟩)
    go_ret
    exact ⟨ret_bool rfl,HB.out⟩
  · cases h2 : termsOk g
    · clear hno
      go_enter Try.func44,Try.ntmps44
      go_wp2_with (first | (go_at_call 76;with_reducible refine HD1.out.mono ?_;rw [h1];rintro e w' ⟨rfl,rfl⟩) | (go_at_call 76;refine HD2.out.mono ?_;rw [h2];rintro e w' ⟨rfl,rfl⟩))
      go_ret
      exact ⟨ret_bool rfl,HB.out⟩
    · have h3 : ruledF g = false:=by rw [h1,h2] at hno;exact hno
      have HR:=Aside0.mk (ruled_c g A1 A2 A3 c1 c2 c3 _ HG.out (by have:=small_names h1;have:=small_terms h2;omega))
      have e3 : (decide (1 ≤ g.rules.length) && decide (g.rules.length ≤ 60) && rulF g.terms.length (g.terms.length + g.names.length) [] g.rules) = ruledF g:=rfl
      rw [e3] at HR
      clear hno e3
      go_enter Try.func44,Try.ntmps44
      go_wp2_with (first | (go_at_call 76;with_reducible refine HD1.out.mono ?_;rw [h1];rintro e w' ⟨rfl,rfl⟩) | (go_at_call 76;refine HD2.out.mono ?_;rw [h2];rintro e w' ⟨rfl,rfl⟩) | (go_at_call 79;refine HR.out.mono ?_;rw [h3];rintro e w1 ⟨rfl,hb1⟩))
      go_ret
      exact ⟨ret_bool rfl,below_then HB.out HB.out.size hb1⟩

set_option maxRecDepth 100000 in
set_option maxHeartbeats 4000000 in
theorem good_yes (g : Gram) (A1 A2 A3 : Option Addr) (c1 c2 c3 : Nat) (w : World) (hg : RepG w g A1 A2 A3 c1 c2 c3) (h1 : namesOk g = true) (h2 : termsOk g = true) (h3 : ruledF g = true) :
    Calls Try.prog 44 #[.agg #[.slice A1 g.terms.length c1,.slice A2 g.names.length c2,.slice A3 g.rules.length c3]] w fun e w' => e = .returned (.bool (goodF g)) ∧ Below w.heap.size w w':=by
  have hF : goodF g = (risF (g.terms.length + g.names.length) (leftsF g.rules) g.terms.length && risF g.terms.length (termsF g g.rules) 0):=by unfold goodF;rw [h1,h2,h3];rfl
  rw [hF]
  clear hF
  obtain ⟨r1,hr1⟩ : ∃ r1,r1 = risF (g.terms.length + g.names.length) (leftsF g.rules) g.terms.length:=⟨_,rfl⟩
  obtain ⟨r2,hr2⟩ : ∃ r2,r2 = risF g.terms.length (termsF g g.rules) 0:=⟨_,rfl⟩
  rw [← hr1,← hr2]
  have HR1:=Lib.hid hr1
  have HR2:=Lib.hid hr2
  clear hr1 hr2
  have sn:=small_names h1
  have st:=small_terms h2
  have h3':=h3
  unfold ruledF at h3'
  simp only [Bool.and_eq_true,decide_eq_true_eq] at h3'
  have hr60 : g.rules.length ≤ 60:=h3'.1.2
  have HM:=Aside0.mk (rulF_mem h3'.2)
  clear h3'
  have HB:=Aside0.mk ((Below.refl w.heap.size w).alloc (Nat.le_refl _) (.cells #[.slice A1 g.terms.length c1,.slice A2 g.names.length c2,.slice A3 g.rules.length c3] 25 (0,0)))
  have HG0:=Aside0.mk hg
  have HG:=Aside0.mk (hg.below_ (below_alloc (Below.refl _ _) (.cells #[.slice A1 g.terms.length c1,.slice A2 g.names.length c2,.slice A3 g.rules.length c3] 25 (0,0))))
  clear hg
  have HD1:=Aside0.mk (distinct_c A2 c2 g.names.length g.names 1 40 _ nameOk (w.alloc (.cells #[.slice A1 g.terms.length c1,.slice A2 g.names.length c2,.slice A3 g.rules.length c3] 25 (0,0))) HG.out.names HG.out.namesCap pred_isName)
  have HD2:=Aside0.mk (distinct_c A1 c1 g.terms.length g.terms 0 40 _ termOk (w.alloc (.cells #[.slice A1 g.terms.length c1,.slice A2 g.names.length c2,.slice A3 g.rules.length c3] 25 (0,0))) HG.out.terms HG.out.termsCap pred_isTerm)
  have e1 : (distF nameOk [] g.names && decide ((1 : Int) ≤ g.names.length) && decide ((g.names.length : Int) ≤ 40)) = namesOk g:=rfl
  have e2 : (distF termOk [] g.terms && decide ((0 : Int) ≤ g.terms.length) && decide ((g.terms.length : Int) ≤ 40)) = termsOk g:=rfl
  rw [e1] at HD1
  rw [e2] at HD2
  have HR:=Aside0.mk (ruled_c g A1 A2 A3 c1 c2 c3 _ HG.out (by omega))
  have e3 : (decide (1 ≤ g.rules.length) && decide (g.rules.length ≤ 60) && rulF g.terms.length (g.terms.length + g.names.length) [] g.rules) = ruledF g:=rfl
  rw [e3] at HR
  clear e1 e2 e3
  have HP0:=Aside0.mk (blk_new w (.cells #[.slice A1 g.terms.length c1,.slice A2 g.names.length c2,.slice A3 g.rules.length c3] 25 (0,0)))
  go_enter Try.func44,Try.ntmps44
  go_wp2_with (first | (go_at_call 76;with_reducible refine HD1.out.mono ?_;rw [h1];rintro e w' ⟨rfl,rfl⟩) | (go_at_call 76;refine HD2.out.mono ?_;rw [h2];rintro e w' ⟨rfl,rfl⟩) | (go_at_call 79;refine HR.out.mono ?_;rw [h3];rintro e w1 ⟨rfl,hb1⟩;have HP1:=Aside0.mk (blk_below HP0.out hb1);have HB1:=Aside0.mk (below_then HB.out HB.out.size hb1);clear hb1;have a1:=blk_cell HP1.out 0;have a2:=blk_cell HP1.out 1;have a3:=blk_cell HP1.out 2;simp only [List.getElem?_toArray,List.getElem?_cons_zero,List.getElem?_cons_succ] at a1 a2 a3))
  clear h1 h2 h3
  clear a1 a2 a3
  go_loopw [28,3,4] (fun i vl vt wr => ∃ k : Nat,k ≤ g.rules.length ∧ i = .int .i64 k ∧ Aside0 (kInt.R 3 wr w.heap.size (fun q => some q ≠ vt.ownBlock) vl (leftsF (g.rules.take k))) ∧ Aside0 (kInt.R 3 wr w.heap.size (fun q => some q ≠ vl.ownBlock) vt (termsF g (g.rules.take k))) ∧
    Aside0 (wr.heap[w.heap.size]? = some (.cells #[.slice A1 g.terms.length c1,.slice A2 g.names.length c2,.slice A3 g.rules.length c3] 25 (0,0))) ∧ Aside0 (Below w.heap.size w wr)) (fun i _ _ _ => g.rules.length - (intOf i).toNat)
  case atStart => exact ⟨0,Nat.zero_le _,rfl,⟨Kd.R_nil _ _ _ _ _⟩,⟨Kd.R_nil _ _ _ _ _⟩,HP1,HB1⟩
  case round =>
    clear HP1 HB1
    obtain ⟨k,hk,rfl,HL,HT,HP,HBr⟩:=hrel
    by_cases hlt : k < g.rules.length
    · obtain ⟨ad,B1,d1,ead,hx0,hy0,hd1,hC1⟩:=at_rule HG0.out.rules k hlt
      cases ead
      have hx:=pw_cell_below HBr.out hx0
      have hy:=pw_cell_below HBr.out hy0
      clear hx0 hy0
      obtain ⟨Al,cl,rfl⟩:=Kd.R_slice HL.out
      obtain ⟨At,ct,rfl⟩:=Kd.R_slice HT.out
      have HX8:=Aside0.mk (HM.out (g.rules[k]'hlt) (List.getElem_mem _)).2.2.1
      have HLS:=Lib.hid (leftsF_succ hlt)
      have HTS:=Lib.hid (termsF_succ (g:=g) hlt)
      have htl:=termsF_len g (g.rules.take k) (fun r hr => (HM.out r (List.mem_of_mem_take hr)).2.2.1)
      rw [List.length_take,Nat.min_eq_left hk] at htl
      have HTL:=Aside0.mk htl
      have hll : (leftsF (g.rules.take k)).length ≤ 60:=by simp [leftsF];omega
      have HLL:=Aside0.mk hll
      obtain ⟨x,hx0⟩ : ∃ x,x = g.rules[k]'hlt:=⟨_,rfl⟩
      rw [← hx0] at hx hy hd1 hC1 HX8 HLS HTS
      obtain ⟨ls,hls⟩ : ∃ ls,ls = leftsF (g.rules.take k):=⟨_,rfl⟩
      obtain ⟨ts,hts⟩ : ∃ ts,ts = termsF g (g.rules.take k):=⟨_,rfl⟩
      rw [← hls] at HL HT HLL HLS ⊢
      rw [← hts] at HL HT HTL HTS ⊢
      clear hx0 hls hts htl hll
      have HL1:=Aside0.mk (Kd.R_below HL.out (below_alloc (Below.refl _ _) (.cells #[.int .i64 x.left,.slice B1 x.right.length d1] 46 (0,0))))
      have HT1:=Aside0.mk (Kd.R_below HT.out (below_alloc (Below.refl _ _) (.cells #[.int .i64 x.left,.slice B1 x.right.length d1] 46 (0,0))))
      have HB2:=Aside0.mk (HBr.out.alloc HBr.out.size (.cells #[.int .i64 x.left,.slice B1 x.right.length d1] 46 (0,0)))
      have HN:=Aside0.mk (blk_new wr (.cells #[.int .i64 x.left,.slice B1 x.right.length d1] 46 (0,0)))
      have HP2:=Aside0.mk (blk_alloc HP.out (.cells #[.int .i64 x.left,.slice B1 x.right.length d1] 46 (0,0)))
      have HC2:=Aside0.mk hC1
      clear hd1 hC1
      go_wp2_with (at_builtin;refine app_int (p:=x.left) rfl rfl HL1.out HB2.out HB2.out.size (by have:=HLL.out;omega) (fresh_ne HT1.out) rfl (by simp [Act.eval]) ?_;intro v2 w2 A2;obtain ⟨A',c',rfl⟩:=A2.shape;have HT2:=Aside0.mk (two_append HT1.out A2);have HL2:=Aside0.mk A2.row;have HN2:=Aside0.mk (blk_grown HN.out A2.grown (Kd.R_ne HL1.out HN.out (by decide)));have HP3:=Aside0.mk (blk_grown HP2.out A2.grown (Kd.R_ne HL1.out HP2.out (by decide)));have HB3:=Aside0.mk A2.below;clear A2;have b1:=blk_cell HN2.out 1;simp only [List.getElem?_toArray,List.getElem?_cons_zero,List.getElem?_cons_succ] at b1)
      clear b1
      obtain ⟨wo,hwo⟩ : ∃ wo : World,wo = wr:=⟨_,rfl⟩
      rw [← hwo] at *
      clear hwo
      go_loopw [40,4] (fun j vt wi => ∃ m : Nat,m ≤ x.right.length ∧ j = .int .i64 m ∧ Aside0 (kInt.R 3 wi w.heap.size (fun q => some q ≠ vt.ownBlock) (.slice A' (ls.length + 1) c') (ls ++ [x.left])) ∧ Aside0 (kInt.R 3 wi w.heap.size (fun q => some q ≠ (Value.slice A' (ls.length + 1) c').ownBlock) vt (ts ++ (x.right.take m).filter (termF g))) ∧
        Aside0 (wi.heap[w.heap.size]? = some (.cells #[.slice A1 g.terms.length c1,.slice A2 g.names.length c2,.slice (some ad) g.rules.length c3] 25 (0,0))) ∧ Aside0 (Below w.heap.size w wi)) (fun j _ _ => x.right.length - (intOf j).toNat)
      case atStart => exact ⟨0,Nat.zero_le _,rfl,HL2,⟨by simpa using HT2.out⟩,HP3,HB3⟩
      case round =>
        clear HL1 HT1 HB2 HN HP2 HT2 HL2 HN2 HP3 HB3 hx hy
        obtain ⟨m,hm,rfl,HL1,HT1,HP1,HB2⟩:=hrel
        have hx8:=HX8.out
        have HUL : Aside0 ((ts ++ (x.right.take m).filter (termF g)).length ≤ 488):=⟨by
          have h5:=List.length_filter_le (termF g) (x.right.take m)
          have h6:=HTL.out
          have h7:=HX8.out
          rw [List.length_take] at h5
          rw [List.length_append]
          omega⟩
        by_cases hmlt : m < x.right.length
        · have HFS:=Lib.hid (filter_succ (p:=termF g) hmlt)
          obtain ⟨bd,ebd,hz⟩:=at_int (Kd.C_below HC2.out HB2.out) m hmlt
          cases ebd
          obtain ⟨us,hus⟩ : ∃ us,us = ts ++ (x.right.take m).filter (termF g):=⟨_,rfl⟩
          rw [← hus] at HT1 HUL
          have HUS:=Lib.hid hus
          clear hus
          obtain ⟨At2,ct2,rfl⟩:=Kd.R_slice HT1.out
          have a1:=blk_cell HP1.out 0
          have a2:=blk_cell HP1.out 1
          have a3:=blk_cell HP1.out 2
          simp only [List.getElem?_toArray,List.getElem?_cons_zero,List.getElem?_cons_succ] at a1 a2 a3
          cases hy : termF g (x.right[m]'hmlt)
          · go_wp2_with (go_at_call 45;refine (term_c g A1 A2 (some ad) c1 c2 c3 _ _).mono ?_;rw [hy];rintro e w3 ⟨rfl,hb3⟩)
            go_roundw
            case rel => exact ⟨m + 1,by omega,by go_num,⟨Kd.R_below HL1.out hb3⟩,⟨by
              have h:=Kd.R_below HT1.out hb3
              rw [HFS.out,hy,if_neg (by simp),List.append_nil,← HUS.out]
              exact h⟩,⟨blk_below HP1.out hb3⟩,⟨below_then HB2.out HB2.out.size hb3⟩⟩
            case measure => simp [intOf];omega
          · go_wp2_with (first | (go_at_call 45;refine (term_c g A1 A2 (some ad) c1 c2 c3 _ _).mono ?_;rw [hy];rintro e w3 ⟨rfl,hb3⟩;have HL3:=Aside0.mk (Kd.R_below HL1.out hb3);have HT3:=Aside0.mk (Kd.R_below HT1.out hb3);have HP3:=Aside0.mk (blk_below HP1.out hb3);have HB3:=Aside0.mk (below_then HB2.out HB2.out.size hb3);clear hb3) | (at_builtin;refine app_int (p:=x.right[m]'hmlt) rfl rfl HT3.out HB3.out HB3.out.size (by have:=HUL.out;omega) (fresh_ne HL3.out) rfl (by simp [Act.eval]) ?_;intro v4 w4 A4;obtain ⟨A5,c5,rfl⟩:=A4.shape;have HL4:=Aside0.mk (two_append HL3.out A4);have HT4:=Aside0.mk A4.row;have HP4:=Aside0.mk (blk_grown HP3.out A4.grown (Kd.R_ne HT3.out HP3.out (by decide)));have HB4:=Aside0.mk A4.below;clear A4))
            go_roundw
            case rel => exact ⟨m + 1,by omega,by go_num,HL4,⟨by
              rw [HFS.out,hy,if_pos rfl,← List.append_assoc,← HUS.out]
              exact HT4.out⟩,HP4,HB4⟩
            case measure => simp [intOf];omega
        · have HE : Aside0 (x.right.take m = x.right):=⟨List.take_of_length_le (by omega)⟩
          go_wp2
          go_roundw
          case rel =>
            refine ⟨k + 1,by omega,by go_num,⟨?_⟩,⟨?_⟩,HP1,HB2⟩
            · rw [HLS.out]
              exact HL1.out
            · rw [HTS.out]
              have h:=HT1.out
              rw [HE.out] at h
              exact h
          case measure => simp [intOf];omega
    · have htl:=termsF_len g (g.rules.take k) (fun r hr => (HM.out r (List.mem_of_mem_take hr)).2.2.1)
      have hll : (leftsF (g.rules.take k)).length ≤ 60:=by simp [leftsF];omega
      rw [List.take_of_length_le (by omega)] at HL HT htl hll
      obtain ⟨Al,cl,el,hcl,hCl⟩:=Kd.R_reads HL.out
      obtain ⟨At,ct,et,hct,hCt⟩:=Kd.R_reads HT.out
      subst el et
      have HCl:=Aside0.mk hCl
      have HCt:=Aside0.mk hCt
      have htl2 : (termsF g g.rules).length ≤ 480:=by omega
      clear hCl hCt htl
      have a1:=blk_cell HP.out 0
      have a2:=blk_cell HP.out 1
      simp only [List.getElem?_toArray,List.getElem?_cons_zero,List.getElem?_cons_succ] at a1 a2
      have HC1:=Aside0.mk (rising_c Al cl _ (leftsF g.rules) g.terms.length (g.terms.length + g.names.length) wr HCl.out (by omega) (by omega))
      have HC2:=Aside0.mk (rising_c At ct _ (termsF g g.rules) 0 g.terms.length wr HCt.out (by omega) (by omega))
      rw [← HR1.out] at HC1
      rw [← HR2.out] at HC2
      cases r1
      · go_wp2_with (go_at_call 80;refine HC1.out.mono ?_;rintro e w' ⟨rfl,rfl⟩)
        go_ret
        exact ⟨ret_bool rfl,HBr.out⟩
      · go_wp2_with (first | (go_at_call 80;with_reducible refine HC1.out.mono ?_;rintro e w' ⟨rfl,rfl⟩) | (go_at_call 80;refine HC2.out.mono ?_;rintro e w' ⟨rfl,rfl⟩))
        go_ret
        exact ⟨ret_bool rfl,HBr.out⟩

theorem good_c (g : Gram) (A1 A2 A3 : Option Addr) (c1 c2 c3 : Nat) (w : World) (hg : RepG w g A1 A2 A3 c1 c2 c3) :
    Calls Try.prog 44 #[.agg #[.slice A1 g.terms.length c1,.slice A2 g.names.length c2,.slice A3 g.rules.length c3]] w fun e w' => e = .returned (.bool (goodF g)) ∧ Below w.heap.size w w':=by
  cases h1 : namesOk g
  · exact good_no g A1 A2 A3 c1 c2 c3 w hg (by rw [h1];rfl)
  · cases h2 : termsOk g
    · exact good_no g A1 A2 A3 c1 c2 c3 w hg (by rw [h1,h2];rfl)
    · cases h3 : ruledF g
      · exact good_no g A1 A2 A3 c1 c2 c3 w hg (by rw [h1,h2,h3];rfl)
      · exact good_yes g A1 A2 A3 c1 c2 c3 w hg h1 h2 h3
end Go.Proofs.Ytmkgcjhimajgiaa


set_option linter.unusedVariables false
set_option linter.unusedSimpArgs false
namespace Go.Proofs.Ytmkgcjhimajgiaa
open Go.RowKit Go.Proofs.YtmkgcjhimajgiaaW.PrintWords

theorem cut_from {P : Program} (t e : TypeId) (kl : IntKind) {i : TypeInfo} (ht : P.underlying t = some (.slice e)) (hi : P.info? e = some i) (size : Nat) (hsz : i.size = size) (A : Option Addr) (n c : Nat) (lo : Int) (h0 : 0 ≤ lo) (h1 : lo ≤ n) :
    ∀ W : World,(Instr.slice t (.slice A n c) (some (.int kl lo)) none none).run P W = .ok (.slice (if c = lo.toNat then A else A.map (·.add (lo.toNat * size))) (n - lo.toNat) (c - lo.toNat)) W:=by
  intro W
  have hel : P.elem t = e:=by simp [Program.elem,ht]
  have hu : P.underlying t = some (.slice (P.elem t)):=by rw [hel];exact ht
  rw [run_slice_l W t A n c hu kl lo h0 h1,hel]
  simp [sizeOf,typeInfo,hi,hsz,sliced,Result.andThen]
theorem cutC_from {α : Type} (d : Kd α) {t e : TypeId} {z : Option Value} {bytes : Nat} (ht : Try.prog.underlying t = some (.slice e)) (hinfo : (Try.prog.info? e).map (fun i => (i.zero,i.size,i.bytes)) = some (z,d.sz,bytes)) {w : World} {A : Option Addr} {c n : Nat} {xs : List α}
    (h : d.C w A n xs) (hc : n ≤ c) (lo : Nat) (hlo : lo ≤ n) :
    ∃ A',(∀ W : World,(Instr.slice t (.slice A n c) (some (.int .i64 (lo : Int))) none none).run Try.prog W = .ok (.slice A' (n - lo) (c - lo)) W) ∧ d.C w A' (n - lo) (xs.drop lo):=by
  obtain rfl:=C_len h
  obtain ⟨i0,hi,hzz⟩:=Option.map_eq_some_iff.1 hinfo
  simp only [Prod.mk.injEq] at hzz
  refine ⟨if c = lo then A else A.map (·.add (lo * d.sz)),fun W => ?_,?_⟩
  · have:=cut_from t e .i64 ht hi d.sz hzz.2.1 A xs.length c (lo : Int) (by omega) (by omega) W
    rwa [Int.toNat_natCast] at this
  · have:=Kd.C_drop h hlo hc
    rwa [List.length_drop] at this
end Go.Proofs.Ytmkgcjhimajgiaa


set_option linter.unusedVariables false
set_option linter.unusedSimpArgs false
namespace Go.Proofs.Ytmkgcjhimajgiaa
open Go.RowKit Go.Proofs.YtmkgcjhimajgiaaW.PrintWords

/-- The reader at block g: the tokens that are left,the text's end,the alternatives that are made. -/
structure St (w0 W : World) (ok : Nat → Prop) (g : Nat) (A : Option Addr) (c : Nat) (l : List Tok) (en : Int) (v : Value) (out : List Alt) : Prop where
  cell : W.heap[g]? = some (.cells #[.slice A l.length c,.int .i64 en,v] 161 (0,0))
  toks : kTok.C w0 A l.length l
  cap : l.length ≤ c
  row : kAlt.R 140 W w0.heap.size ok v out
  below : Below w0.heap.size w0 W
  base : w0.heap.size ≤ g
theorem St.alloc_ {w0 W : World} {ok : Nat → Prop} {g : Nat} {A : Option Addr} {c : Nat} {l : List Tok} {en : Int} {v : Value} {out : List Alt} (h : St w0 W ok g A c l en v out) (o : Obj) : St w0 (W.alloc o) ok g A c l en v out :=
  ⟨blk_alloc h.cell _,h.toks,h.cap,Kd.R_below h.row (below_alloc (Below.refl _ _) _),h.below.alloc h.below.size _,h.base⟩
def faultV (e at_ : Int) : List PanicEntry:=[{ v:=.iface 89 (.agg #[.int .i64 e,.int .i64 at_]),recovered:=false }]
def NextEnd (w0 W : World) (ok : Nat → Prop) (g : Nat) (en : Int) (v : Value) (out : List Alt) (ks : List Int) : List Tok → Ending → World → Prop
  | [],e,w' => e = .panicked (faultV 12 en) ∧ Below w0.heap.size w0 w'
  | t :: r,e,w' => if (ks.any fun y => t.kind == y) = true then e = .returned (.agg #[.int .i64 t.kind,.string t.text,.int .i64 t.pos]) ∧ (∃ A c,St w0 w' ok g A c r en v out) ∧ W.grownBy w' (some g)
      else e = .panicked (faultV 12 t.pos) ∧ Below w0.heap.size w0 w'

theorem next_no {w0 W w' : World} {ok : Nat → Prop} {g : Nat} {en : Int} {v : Value} {out : List Alt} {ks : List Int} {t : Tok} {r : List Tok} (h : (ks.any fun y => t.kind == y) = false) (hb : Below w0.heap.size w0 w') : NextEnd w0 W ok g en v out ks (t :: r) (.panicked (faultV 12 t.pos)) w':=by
  unfold NextEnd
  simp only [h,Bool.false_eq_true,if_false]
  exact ⟨trivial,hb⟩
theorem next_yes {w0 W w' : World} {ok : Nat → Prop} {g : Nat} {en : Int} {v : Value} {out : List Alt} {ks : List Int} {t : Tok} {r : List Tok} (h : (ks.any fun y => t.kind == y) = true) {A : Option Addr} {c : Nat} (hs : St w0 w' ok g A c r en v out) (hg : W.grownBy w' (some g)) : NextEnd w0 W ok g en v out ks (t :: r) (.returned (.agg #[.int .i64 t.kind,.string t.text,.int .i64 t.pos])) w':=by
  unfold NextEnd
  simp only [h,if_true]
  exact ⟨trivial,⟨A,c,hs⟩,hg⟩

set_option maxRecDepth 100000 in
set_option maxHeartbeats 2000000 in
theorem next_c (w0 W : World) (ok : Nat → Prop) (g : Nat) (A : Option Addr) (c : Nat) (l : List Tok) (en : Int) (v : Value) (out : List Alt) (hS : St w0 W ok g A c l en v out) (K : Option Addr) (n d : Nat) (ks : List Int) (hk : kInt.C W K n ks) :
    Calls Try.prog 109 #[.pointer (some ⟨g,0,none⟩),.slice K n d] W fun e w' => NextEnd w0 W ok g en v out ks l e w':=by
  have HB1:=Aside0.mk (hS.below.alloc hS.below.size (.cells #[.int .i64 0,.string ⟨#[]⟩,.int .i64 0] 138 (0,0)))
  have hc1:=blk_alloc hS.cell (.cells #[.int .i64 0,.string ⟨#[]⟩,.int .i64 0] 138 (0,0))
  have a1:=blk_cell hc1 0
  have a2:=blk_cell hc1 1
  simp only [List.getElem?_toArray,List.getElem?_cons_zero,List.getElem?_cons_succ] at a1 a2
  have HS:=Aside0.mk hS
  have HK:=Aside0.mk hk
  cases l with
  | nil =>
    clear hS hk hc1
    go_enter Try.func109,Try.ntmps109
    go_wp2
    exact ⟨rfl,rfl,HB1.out⟩
  | cons t r =>
    obtain ⟨ad,ead,hx,hy,hz⟩:=at_tok (Kd.C_below hS.toks HB1.out) 0 (by simp)
    cases ead
    simp only [List.getElem_cons_zero,Nat.zero_mul] at hx hy hz
    rw [show ad.add 0 = ad by simp [Addr.add]] at hx hy hz
    have hc2:=blk_alloc hc1 (.cells #[.int .i64 t.kind,.string t.text,.int .i64 t.pos] 138 (0,0))
    have HC2:=Aside0.mk hc2
    have b1:=blk_cell hc2 0
    have b2:=blk_cell hc2 1
    have f1:=blk_frozen hc2 0
    have f2:=blk_frozen (blk_set hc2 0 (.slice none 0 0)) 0
    simp only [List.getElem?_toArray,List.getElem?_cons_zero,List.getElem?_cons_succ] at b1 b2
    have hlt:=blk_lt hS.cell
    have n1 : ¬ g = W.heap.size + 1:=by omega
    have n2 : ¬ W.heap.size + 1 = g:=by omega
    have n3 : ¬ g = W.heap.size:=by omega
    have n4 : ¬ W.heap.size = g:=by omega
    have HB2:=Aside0.mk (HB1.out.alloc HB1.out.size (.cells #[.int .i64 t.kind,.string t.text,.int .i64 t.pos] 138 (0,0)))
    have HK2:=Aside0.mk (Kd.C_below (Kd.C_below hk (below_alloc (Below.refl _ _) (.cells #[.int .i64 0,.string ⟨#[]⟩,.int .i64 0] 138 (0,0)))) (below_alloc (Below.refl _ _) (.cells #[.int .i64 t.kind,.string t.text,.int .i64 t.pos] 138 (0,0))))
    have HR2:=Aside0.mk (Kd.R_below (Kd.R_below hS.row (below_alloc (Below.refl _ _) (.cells #[.int .i64 0,.string ⟨#[]⟩,.int .i64 0] 138 (0,0)))) (below_alloc (Below.refl _ _) (.cells #[.int .i64 t.kind,.string t.text,.int .i64 t.pos] 138 (0,0))))
    obtain ⟨A',hcut,hC'⟩:=cutC_from kTok (t:=130) Try.underlying130 infoTok hS.toks hS.cap 1 (by simp)
    simp only [List.drop_succ_cons,List.drop_zero,List.length_cons,Nat.add_sub_cancel] at hcut hC'
    replace hcut : ∀ W : World,(Instr.slice 130 (.slice (some ad) (r.length + 1) c) (some (.int .i64 1)) none none).run Try.prog W = .ok (.slice A' r.length (c - 1)) W:=hcut
    have hcap : r.length ≤ c - 1:=by have:=hS.cap;simp at this;omega
    have HC':=Aside0.mk hC'
    have hbase:=hS.base
    clear hS hk hc1 hc2 hC' HK
    simp only [List.length_cons] at a1 b1
    cases hp : ks.any fun y => t.kind == y
    · go_enter Try.func109,Try.ntmps109
      go_wp2_with (go_at_call 115;refine (containsInt_n _ _ _ _ _ _ HK2.out).mono ?_;rw [hp];rintro e w' ⟨rfl,rfl⟩)
      exact ⟨rfl,next_no hp HB2.out⟩
    · go_enter Try.func109,Try.ntmps109
      go_wp2_with (go_at_call 115;refine (containsInt_n _ _ _ _ _ _ HK2.out).mono ?_;rw [hp];rintro e w' ⟨rfl,rfl⟩)
      refine bodyPost_ret (v:=.agg #[.int .i64 t.kind,.string t.text,.int .i64 t.pos]) (by simp [results,Try.results109,go_sem]) rfl (next_yes hp ⟨?_,HC'.out,hcap,?_,?_,hbase⟩ (grown_alloc (grown_alloc (grown_set W g 0 _) _) _))
      · exact blk_alloc (blk_alloc (blk_set HS.out.cell 0 _) _) _
      · exact Kd.R_below (Kd.R_below (Kd.R_set HS.out.row HS.out.cell (by decide) 0 _) (below_alloc (Below.refl _ _) _)) (below_alloc (Below.refl _ _) _)
      · have h:=below_set HS.out.below hbase 0 (.slice A' r.length (c - 1))
        exact (h.alloc h.size _).alloc (h.alloc h.size _).size _
end Go.Proofs.Ytmkgcjhimajgiaa


set_option linter.unusedVariables false
set_option linter.unusedSimpArgs false
namespace Go.Proofs.Ytmkgcjhimajgiaa
open Go.RowKit Go.Proofs.YtmkgcjhimajgiaaW.PrintWords Go.Proofs.YtmkgcjhimajgiaaW.PrintLast

def altF (en : Int) : List Tok → List Tok → Except (Int × Int) (List Tok × Bool × List Tok)
  | [],_ => .error (12,en)
  | t :: r,acc =>
    if t.kind = 1 ∨ t.kind = 2 then altF en r (acc ++ [t])
    else if t.kind = 4 ∨ t.kind = 5 then .ok (acc,t.kind == 4,r) else .error (12,t.pos)
/-- The world's older blocks are as they were,but for the reader's and the row's. -/
def Keeps (Wb W : World) (g : Nat) (v : Value) : Prop:=∀ q o,Wb.heap[q]? = some o → q ≠ g → some q ≠ v.ownBlock → W.heap[q]? = some o
def AltEnd (w0 Wb : World) (g : Nat) (en : Int) (v0 : Value) (out : List Alt) (left : Tok) : Except (Int × Int) (List Tok × Bool × List Tok) → Ending → World → Prop
  | .error (a,p),e,w' => e = .panicked (faultV a p) ∧ Below w0.heap.size w0 w'
  | .ok (right,more,r),e,w' => if 60 ≤ out.length ∨ 8 < right.length then e = .panicked (faultV 14 left.pos) ∧ Below w0.heap.size w0 w'
      else e = .returned (.bool more) ∧ ∃ A c v,St w0 w' (fun _ => True) g A c r en v (out ++ [⟨left,right⟩]) ∧ Keeps Wb w' g v0

def okA (b : Nat) (u : Value) : Nat → Prop:=fun q => some q ≠ u.ownBlock ∧ q ≠ b + 1
structure AltSt (w0 Wb W : World) (b g : Nat) (A : Option Addr) (c : Nat) (l : List Tok) (en : Int) (v : Value) (out : List Alt) (left : Tok) (u : Value) (acc : List Tok) : Prop where
  st : St w0 W (okA b u) g A c l en v out
  row : kTok.R 138 W w0.heap.size (fun q => some q ≠ v.ownBlock ∧ b ≤ q) u acc
  keeps : Keeps Wb W g v
  bsz : Wb.heap.size = b
  leftCell : W.heap[b]? = some (.cells #[.int .i64 left.kind,.string left.text,.int .i64 left.pos] 138 (0,0))
  altCell : W.heap[b + 1]? = some (.cells #[.int .i64 left.kind,.string left.text,.int .i64 left.pos,u] 140 (0,0))
  lt : g < b
  ne : some b ≠ u.ownBlock
section
variable {w0 Wb W W1 : World} {b g : Nat} {A A1 : Option Addr} {c c1 : Nat} {l l1 : List Tok} {en : Int} {v : Value} {out : List Alt} {left t : Tok} {u u1 v1 : Value} {acc acc1 : List Tok}
theorem AltSt.alloc_ (h : AltSt w0 Wb W b g A c l en v out left u acc) (o : Obj) : AltSt w0 Wb (W.alloc o) b g A c l en v out left u acc :=
  ⟨h.st.alloc_ o,Kd.R_below h.row (below_alloc (Below.refl _ _) _),fun q o' hq h1 h2 => blk_alloc (h.keeps q o' hq h1 h2) _,h.bsz,blk_alloc h.leftCell _,blk_alloc h.altCell _,h.lt,h.ne⟩
theorem AltSt.next (h : AltSt w0 Wb W b g A c l en v out left u acc) (hs : St w0 W1 (okA b u) g A1 c1 l1 en v out) (hg : W.grownBy W1 (some g)) : AltSt w0 Wb W1 b g A1 c1 l1 en v out left u acc:=by
  have hlt:=h.lt
  refine ⟨hs,Kd.R_mono (Kd.R_grown (Kd.R_types h.row h.st.cell (by decide)) hg (fun k hk => ?_)) (fun k hk => hk.1),fun q o' hq h1 h2 => blk_grown (h.keeps q o' hq h1 h2) hg (fun he => h1 (by injection he)),h.bsz,blk_grown h.leftCell hg ?_,blk_grown h.altCell hg ?_,h.lt,h.ne⟩
  · intro he;injection he with he;exact hk.2 he
  · intro he;injection he with he;omega
  · intro he;injection he with he;omega
theorem AltSt.push (h : AltSt w0 Wb W b g A c l en v out left u acc) (a : Appd kTok 138 w0 W w0.heap.size (fun q => some q ≠ v.ownBlock ∧ b ≤ q) u acc1 u1 W1) : AltSt w0 Wb (W1.setCell ⟨b + 1,3,none⟩ u1) b g A c l en v out left u1 acc1:=by
  have hlt:=h.lt
  have hb:=h.st.base
  have n1:=Kd.R_ne h.row h.altCell (by decide)
  have n3:=Kd.R_ne h.row h.st.cell (by decide)
  have h1:=blk_grown h.altCell a.grown n1
  have h2:=blk_grown h.st.cell a.grown n3
  have h3:=two_append2 h.st.row (fun k hk => hk.1) a
  have hbsz:=h.bsz
  have hlt2:=blk_lt h.leftCell
  exact ⟨⟨blk_far h2 (p:=⟨b + 1,3,none⟩) (by show g ≠ b + 1;omega) _,h.st.toks,h.st.cap,Kd.R_far (p:=⟨b + 1,3,none⟩) (Kd.R_mono h3 (fun k hk => (⟨hk.2,hk.1.2⟩ : okA b u1 k))) (fun k hk => hk.2) _,below_set a.below (by omega) _ _,h.st.base⟩,Kd.R_set a.row h1 (by decide) 3 _,fun q o' hq k1 k2 => (Below.heap_setCell _ ⟨b + 1,3,none⟩ _ q (by show q ≠ b + 1;have k4:=blk_lt hq;omega)).trans (blk_grown (h.keeps q o' hq k1 k2) a.grown (fun he => by have k3:=(h.row.1 q he.symm).2;have k4:=blk_lt hq;omega)),h.bsz,blk_far (blk_grown h.leftCell a.grown h.ne) (p:=⟨b + 1,3,none⟩) (by show b ≠ b + 1;omega) _,blk_set h1 3 _,h.lt,ne_append h.ne hlt2 a⟩
theorem AltSt.drew_ (h : AltSt w0 Wb W b g A c l en v out left u acc) : AltSt w0 Wb W.drew b g A c l en v out left u acc :=
  ⟨⟨blk_drew h.st.cell,h.st.toks,h.st.cap,Kd.R_drew h.st.row,below_drew1 h.st.below,h.st.base⟩,Kd.R_drew h.row,h.keeps,h.bsz,blk_drew h.leftCell,blk_drew h.altCell,h.lt,h.ne⟩
theorem AltSt.done_ (h : AltSt w0 Wb W b g A c l en v out left u acc) (a : Appd kAlt 140 w0 W w0.heap.size (fun _ => True) v (out ++ [⟨left,acc⟩]) v1 W1) : St w0 (W1.setCell ⟨g,2,none⟩ v1) (fun _ => True) g A c l en v1 (out ++ [⟨left,acc⟩]) ∧ Keeps Wb (W1.setCell ⟨g,2,none⟩ v1) g v:=by
  have h1:=blk_grown h.st.cell a.grown (Kd.R_ne h.st.row h.st.cell (by decide))
  exact ⟨⟨blk_set h1 2 _,h.st.toks,h.st.cap,Kd.R_set a.row h1 (by decide) 2 _,below_set a.below h.st.base 2 _,h.st.base⟩,fun q o' hq k1 k2 => (Below.heap_setCell _ ⟨g,2,none⟩ _ q k1).trans (blk_grown (h.keeps q o' hq k1 k2) a.grown k2)⟩
theorem app_alt_step {ops : Array Oper} {o : Oper} {a : Act} {Q : Exit → Act → World → Prop} {Kc : Act → World → Prop} {s x : Operand} {xs : List Alt} {p : Alt} (hw : Region.wanted o (yielded ops a.tmps) = true) (ho : o.op = .call { callee:=.builtin .append,args:=#[s,x],argTypes:=#[134,134] })
    (HO : kAlt.R 140 W w0.heap.size (fun _ => True) v xs) (HU : kTok.R 138 W w0.heap.size (fun q => some q ≠ v.ownBlock) u p.right) (HB : Below w0.heap.size w0 W) (hl : xs.length + 1 ≤ 2000000000000) (hs : a.eval s = v) (hx : a.eval x = .slice (some ⟨W.heap.size,0,none⟩) 1 1)
    (h : ∀ v1 w1,Appd kAlt 140 w0 W w0.heap.size (fun _ => True) v (xs ++ [p]) v1 w1 → Kc (a.put o.dst v1) w1) :
    if Region.wanted o (yielded ops a.tmps) = true then Oper.wp Try.prog o a (W.alloc (.cells #[.int .i64 p.left.kind,.string p.left.text,.int .i64 p.left.pos,u] 140)) Kc Q else Kc (a.put o.dst undef) (W.alloc (.cells #[.int .i64 p.left.kind,.string p.left.text,.int .i64 p.left.pos,u] 140)) :=
  Kd.R_append_step kAlt w0.heap.size hw s x 134 140 _ 56 ho Try.underlying134 infoAlt rfl (by decide) (by decide) v xs p [.int .i64 p.left.kind,.string p.left.text,.int .i64 p.left.pos,u] (fun _ => True) (fun q => some q ≠ v.ownBlock) hs hx (M_alt HU) (fun _ h => ⟨trivial,h⟩) (fun _ _ => trivial) HO HB HB.size (by omega) (fun v1 w1 h1 h2 h3 h4 => h v1 w1 ⟨h1,h2,h3,h4⟩)
end

set_option maxRecDepth 100000 in
set_option maxHeartbeats 2000000 in
theorem alt_c (w0 W : World) (g : Nat) (A : Option Addr) (c : Nat) (l : List Tok) (en : Int) (v : Value) (out : List Alt) (hS : St w0 W (fun _ => True) g A c l en v out) (left : Tok) (hl : l.length ≤ 4000) (hout : out.length ≤ 100) :
    Calls Try.prog 110 #[.pointer (some ⟨g,0,none⟩),.agg #[.int .i64 left.kind,.string left.text,.int .i64 left.pos]] W fun e w' => AltEnd w0 W g en v out left (altF en l []) e w':=by
  obtain ⟨RES,hRES⟩ : ∃ r,altF en l [] = r:=⟨_,rfl⟩
  rw [hRES]
  have HE:=Aside0.mk hRES
  have HS:=Aside0.mk hS
  have hlt:=blk_lt hS.cell
  have hl0:=hl
  clear hRES hS
  go_enter Try.func110,Try.ntmps110
  go_wp2
  go_loopg [] l.length (fun m wr => ∃ (l' acc : List Tok) (A' : Option Addr) (c' : Nat) (u : Value),l'.length = m ∧ Aside0 (altF en l' acc = RES) ∧ Aside0 (acc.length + l'.length ≤ 4000) ∧ Aside0 (AltSt w0 W wr W.heap.size g A' c' l' en v out left u acc))
  case atStart =>
    have h:=(HS.out.alloc_ (.cells #[.int .i64 left.kind,.string left.text,.int .i64 left.pos] 138 (0,0))).alloc_ (.cells #[.int .i64 left.kind,.string left.text,.int .i64 left.pos,.slice none 0 0] 140 (0,0))
    have h2:=Kd.R_below (Kd.R_below (Kd.R_bound HS.out.row) (below_alloc (Below.refl _ _) (.cells #[.int .i64 left.kind,.string left.text,.int .i64 left.pos] 138 (0,0)))) (below_alloc (Below.refl _ _) (.cells #[.int .i64 left.kind,.string left.text,.int .i64 left.pos,.slice none 0 0] 140 (0,0)))
    exact ⟨l,[],A,c,.slice none 0 0,rfl,HE,⟨by simpa using hl0⟩,⟨⟨h.cell,h.toks,h.cap,Kd.R_mono h2 (fun k hk => ⟨fun h => (by cases h),by have:=hk.2.2.1;omega⟩),h.below,h.base⟩,Kd.R_nil _ _ _ _ _,fun q o' hq k1 k2 => blk_alloc (blk_alloc hq _) _,rfl,blk_alloc (blk_new W _) _,by simpa using blk_new (W.alloc (.cells #[.int .i64 left.kind,.string left.text,.int .i64 left.pos] 138 (0,0))) (.cells #[.int .i64 left.kind,.string left.text,.int .i64 left.pos,.slice none 0 0] 140 (0,0)),hlt,fun h => by cases h⟩⟩
  case round =>
    clear HE HS
    obtain ⟨l',acc,A',c',u,hm,HF,HL,HS⟩:=hrel
    have HM:=Lib.hid hm
    clear hm
    obtain ⟨Au,cu,rfl⟩:=Kd.R_slice HS.out.row
    have HS1:=Aside0.mk (HS.out.alloc_ (.cells #[.int .i64 1,.int .i64 2,.int .i64 4,.int .i64 5] 3 (0,0)))
    have HK1 : Aside0 (kInt.C (wr.alloc (.cells #[.int .i64 1,.int .i64 2,.int .i64 4,.int .i64 5] 3 (0,0))) (some ⟨wr.heap.size,0,none⟩) 4 [1,2,4,5]):=⟨C_lit wr [1,2,4,5] (by simp)⟩
    cases l' with
    | nil =>
      go_wp2_with (go_at_call 109;refine (next_c _ _ _ _ _ _ _ _ _ _ HS1.out.st _ _ _ _ HK1.out).mono ?_;rintro e w1 ⟨rfl,hb1⟩)
      refine ⟨rfl,?_⟩
      rw [← HF.out]
      exact ⟨rfl,hb1⟩
    | cons t r =>
      obtain ⟨tk,tx,tp⟩:=t
      cases hk : [1,2,4,5].any fun y => tk == y
      · have HR : RES = .error (12,tp):=by
          rw [← HF.out,altF]
          simp at hk
          rw [if_neg (by show ¬ (tk = 1 ∨ tk = 2);omega),if_neg (by show ¬ (tk = 4 ∨ tk = 5);omega)]
        have HRES:=Lib.hid HR
        clear HR
        go_wp2_with (go_at_call 109;refine (next_c _ _ _ _ _ _ _ _ _ _ HS1.out.st _ _ _ _ HK1.out).mono ?_;unfold NextEnd;simp only [hk,Bool.false_eq_true,if_false];rintro e w1 ⟨rfl,hb1⟩)
        refine ⟨rfl,?_⟩
        rw [HRES.out]
        exact ⟨rfl,hb1⟩
      · have hk4 : tk = 1 ∨ tk = 2 ∨ tk = 4 ∨ tk = 5:=by simp at hk;omega
        have HHK:=Lib.hid hk
        clear hk
        rcases hk4 with h | h | hbe
        · subst h
          go_wp2_with (first | (go_at_call 109;refine (next_c _ _ _ _ _ _ _ _ _ _ HS1.out.st _ _ _ _ HK1.out).mono ?_;unfold NextEnd;simp only [HHK.out,if_true];rintro e w1 ⟨rfl,⟨A2,c2,hS2⟩,hg2⟩;have HS2:=Aside0.mk ((HS1.out.next hS2 hg2).alloc_ (.cells #[.int .i64 1,.string tx,.int .i64 tp] 138 (0,0)));clear hS2 hg2;have a1:=blk_cell HS2.out.altCell 3;have a2:=blk_frozen HS2.out.altCell 3;simp only [List.getElem?_toArray,List.getElem?_cons_zero,List.getElem?_cons_succ] at a1) | (at_builtin;refine app_tok (p:=⟨1,tx,tp⟩) rfl rfl HS2.out.row HS2.out.st.below HS2.out.st.below.size (by have:=HL.out;simp at this;omega) (fun k hk => ⟨fresh_ne HS2.out.st.row k hk,by have:=blk_lt HS2.out.leftCell;omega⟩) rfl (by simp [Act.eval]) ?_;intro u3 w3 A3;obtain ⟨Au3,cu3,rfl⟩:=A3.shape;have HS3:=Aside0.mk (HS2.out.push A3);have b1:=blk_cell (blk_grown HS2.out.altCell A3.grown (Kd.R_ne HS2.out.row HS2.out.altCell (by decide))) 3;have b2:=blk_frozen (blk_grown HS2.out.altCell A3.grown (Kd.R_ne HS2.out.row HS2.out.altCell (by decide))) 3;clear A3;simp only [List.getElem?_toArray,List.getElem?_cons_zero,List.getElem?_cons_succ] at b1))
          go_roundg r.length
          case measure => have:=HM.out;simp at this;omega
          case rel => exact ⟨r,acc ++ [⟨1,tx,tp⟩],A2,c2,_,rfl,⟨by rw [← HF.out,altF,if_pos (by simp)]⟩,⟨by have:=HL.out;simp at this ⊢;omega⟩,HS3⟩
        · subst h
          go_wp2_with (first | (go_at_call 109;refine (next_c _ _ _ _ _ _ _ _ _ _ HS1.out.st _ _ _ _ HK1.out).mono ?_;unfold NextEnd;simp only [HHK.out,if_true];rintro e w1 ⟨rfl,⟨A2,c2,hS2⟩,hg2⟩;have HS2:=Aside0.mk ((HS1.out.next hS2 hg2).alloc_ (.cells #[.int .i64 2,.string tx,.int .i64 tp] 138 (0,0)));clear hS2 hg2;have a1:=blk_cell HS2.out.altCell 3;have a2:=blk_frozen HS2.out.altCell 3;simp only [List.getElem?_toArray,List.getElem?_cons_zero,List.getElem?_cons_succ] at a1) | (at_builtin;refine app_tok (p:=⟨2,tx,tp⟩) rfl rfl HS2.out.row HS2.out.st.below HS2.out.st.below.size (by have:=HL.out;simp at this;omega) (fun k hk => ⟨fresh_ne HS2.out.st.row k hk,by have:=blk_lt HS2.out.leftCell;omega⟩) rfl (by simp [Act.eval]) ?_;intro u3 w3 A3;obtain ⟨Au3,cu3,rfl⟩:=A3.shape;have HS3:=Aside0.mk (HS2.out.push A3);have b1:=blk_cell (blk_grown HS2.out.altCell A3.grown (Kd.R_ne HS2.out.row HS2.out.altCell (by decide))) 3;have b2:=blk_frozen (blk_grown HS2.out.altCell A3.grown (Kd.R_ne HS2.out.row HS2.out.altCell (by decide))) 3;clear A3;simp only [List.getElem?_toArray,List.getElem?_cons_zero,List.getElem?_cons_succ] at b1))
          go_roundg r.length
          case measure => have:=HM.out;simp at this;omega
          case rel => exact ⟨r,acc ++ [⟨2,tx,tp⟩],A2,c2,_,rfl,⟨by rw [← HF.out,altF,if_pos (by simp)]⟩,⟨by have:=HL.out;simp at this ⊢;omega⟩,HS3⟩
        · have hR : RES = .ok (acc,tk == 4,r):=by
            rw [← HF.out,altF,if_neg (by show ¬ (tk = 1 ∨ tk = 2);omega),if_pos hbe]
          have HR:=Lib.hid hR
          clear hR
          obtain ⟨Av,cv,ev⟩:=Kd.R_slice HS.out.st.row
          subst ev
          by_cases ho : 60 ≤ out.length
          · rcases hbe with h | h
            · subst h
              go_wp2_with (go_at_call 109;refine (next_c _ _ _ _ _ _ _ _ _ _ HS1.out.st _ _ _ _ HK1.out).mono ?_;unfold NextEnd;simp only [HHK.out,if_true];rintro e w1 ⟨rfl,⟨A2,c2,hS2⟩,hg2⟩;have HS2:=Aside0.mk ((HS1.out.next hS2 hg2).alloc_ (.cells #[.int .i64 4,.string tx,.int .i64 tp] 138 (0,0)));clear hS2 hg2;have a1:=blk_cell HS2.out.altCell 3;have a2:=blk_frozen HS2.out.altCell 3;have a3:=blk_cell HS2.out.st.cell 2;simp only [List.getElem?_toArray,List.getElem?_cons_zero,List.getElem?_cons_succ] at a1 a3;have a4:=blk_cell HS2.out.leftCell 2;simp only [List.getElem?_toArray,List.getElem?_cons_zero,List.getElem?_cons_succ] at a4)
              refine ⟨rfl,?_⟩
              rw [HR.out]
              unfold AltEnd
              simp only [ho,true_or,if_true]
              exact ⟨rfl,HS2.out.st.below⟩
            · subst h
              go_wp2_with (go_at_call 109;refine (next_c _ _ _ _ _ _ _ _ _ _ HS1.out.st _ _ _ _ HK1.out).mono ?_;unfold NextEnd;simp only [HHK.out,if_true];rintro e w1 ⟨rfl,⟨A2,c2,hS2⟩,hg2⟩;have HS2:=Aside0.mk ((HS1.out.next hS2 hg2).alloc_ (.cells #[.int .i64 5,.string tx,.int .i64 tp] 138 (0,0)));clear hS2 hg2;have a1:=blk_cell HS2.out.altCell 3;have a2:=blk_frozen HS2.out.altCell 3;have a3:=blk_cell HS2.out.st.cell 2;simp only [List.getElem?_toArray,List.getElem?_cons_zero,List.getElem?_cons_succ] at a1 a3;have a4:=blk_cell HS2.out.leftCell 2;simp only [List.getElem?_toArray,List.getElem?_cons_zero,List.getElem?_cons_succ] at a4)
              refine ⟨rfl,?_⟩
              rw [HR.out]
              unfold AltEnd
              simp only [ho,true_or,if_true]
              exact ⟨rfl,HS2.out.st.below⟩
          · by_cases h8 : 8 < acc.length
            · rcases hbe with h | h
              · subst h
                go_wp2_with (go_at_call 109;refine (next_c _ _ _ _ _ _ _ _ _ _ HS1.out.st _ _ _ _ HK1.out).mono ?_;unfold NextEnd;simp only [HHK.out,if_true];rintro e w1 ⟨rfl,⟨A2,c2,hS2⟩,hg2⟩;have HS2:=Aside0.mk ((HS1.out.next hS2 hg2).alloc_ (.cells #[.int .i64 4,.string tx,.int .i64 tp] 138 (0,0)));clear hS2 hg2;have a1:=blk_cell HS2.out.altCell 3;have a2:=blk_frozen HS2.out.altCell 3;have a3:=blk_cell HS2.out.st.cell 2;simp only [List.getElem?_toArray,List.getElem?_cons_zero,List.getElem?_cons_succ] at a1 a3;have a4:=blk_cell HS2.out.leftCell 2;simp only [List.getElem?_toArray,List.getElem?_cons_zero,List.getElem?_cons_succ] at a4)
                refine ⟨rfl,?_⟩
                rw [HR.out]
                unfold AltEnd
                simp only [h8,or_true,if_true]
                exact ⟨rfl,HS2.out.st.below⟩
              · subst h
                go_wp2_with (go_at_call 109;refine (next_c _ _ _ _ _ _ _ _ _ _ HS1.out.st _ _ _ _ HK1.out).mono ?_;unfold NextEnd;simp only [HHK.out,if_true];rintro e w1 ⟨rfl,⟨A2,c2,hS2⟩,hg2⟩;have HS2:=Aside0.mk ((HS1.out.next hS2 hg2).alloc_ (.cells #[.int .i64 5,.string tx,.int .i64 tp] 138 (0,0)));clear hS2 hg2;have a1:=blk_cell HS2.out.altCell 3;have a2:=blk_frozen HS2.out.altCell 3;have a3:=blk_cell HS2.out.st.cell 2;simp only [List.getElem?_toArray,List.getElem?_cons_zero,List.getElem?_cons_succ] at a1 a3;have a4:=blk_cell HS2.out.leftCell 2;simp only [List.getElem?_toArray,List.getElem?_cons_zero,List.getElem?_cons_succ] at a4)
                refine ⟨rfl,?_⟩
                rw [HR.out]
                unfold AltEnd
                simp only [h8,or_true,if_true]
                exact ⟨rfl,HS2.out.st.below⟩
            · rcases hbe with h | h
              · subst h
                go_wp2_with (go_at_call 109;refine (next_c _ _ _ _ _ _ _ _ _ _ HS1.out.st _ _ _ _ HK1.out).mono ?_;unfold NextEnd;simp only [HHK.out,if_true];rintro e w1 ⟨rfl,⟨A2,c2,hS2⟩,hg2⟩;have HS2:=Aside0.mk ((HS1.out.next hS2 hg2).alloc_ (.cells #[.int .i64 4,.string tx,.int .i64 tp] 138 (0,0)));have hS2c:=hS2.cell;clear hS2 hg2;have a1:=blk_cell HS2.out.altCell 3;have a2:=blk_frozen HS2.out.altCell 3;have a3:=blk_cell HS2.out.st.cell 2;simp only [List.getElem?_toArray,List.getElem?_cons_zero,List.getElem?_cons_succ] at a1 a3;have a4:=blk_cell HS2.out.leftCell 2;simp only [List.getElem?_toArray,List.getElem?_cons_zero,List.getElem?_cons_succ] at a4;have a5:=blk_cell HS2.out.altCell 0;have a6:=blk_cell HS2.out.altCell 1;have a7:=blk_cell HS2.out.altCell 2;simp only [List.getElem?_toArray,List.getElem?_cons_zero,List.getElem?_cons_succ] at a5 a6 a7;have a8:=blk_frozen HS2.out.st.cell 2)
                have HS3:=Aside0.mk HS2.out.drew_
                have HT3:=Aside0.mk (blk_drew (blk_new w1 (.cells #[.int .i64 4,.string tx,.int .i64 tp] 138 (0,0))))
                have hb1:=blk_lt HS1.out.st.cell
                have HL9 : Aside0 (out.length + 1 ≤ 2000000000000):=⟨by have:=hout;omega⟩
                have hgw : g ≠ w1.heap.size:=by have h1:=blk_lt hS2c;omega
                refine start_ (n:=11) (S:=fun w' => w'.heap[g]? = some (.cells #[.slice A2 r.length c2,.int .i64 en,.slice Av out.length cv] 161 (0,0)) ∧ w'.heap[W.heap.size + 1]? = some (.cells #[.int .i64 left.kind,.string left.text,.int .i64 left.pos,.slice Au acc.length cu] 140 (0,0))) (ds:=[7,10]) #[false,false,false,false,false,false,false,false,false,false,false] (by kernel_rfl) rfl rfl (⟨HS3.out.st.cell,HS3.out.altCell⟩) (fun hHeld => ?_)
                refine pu_ ?_ ?_ 0 (some 42) #[true,false,false,false,false,false,false,false,false,false,false] ?_
                refine pu_ ?_ ?_ 1 (some 43) #[true,true,false,false,false,false,false,false,false,false,false] ?_
                refine pu_ ?_ ?_ 2 (some 44) #[true,true,true,false,false,false,false,false,false,false,false] ?_
                refine pu_ ?_ ?_ 3 (some 45) #[true,true,true,true,false,false,false,false,false,false,false] ?_
                refine ta_ ?_ ?_ 4 (some 46) #[true,true,true,true,true,false,false,false,false,false,false] hHeld ?_ (y:=by rintro w' ⟨s0,s1⟩;have d0:=blk_cell s0 2;have d1:=blk_cell s1 0;have d2:=blk_cell s1 1;have d3:=blk_cell s1 2;have d4:=blk_cell s1 3;simp only [List.getElem?_toArray,List.getElem?_cons_zero,List.getElem?_cons_succ] at d0 d1 d2 d3 d4;go_simp;with_reducible rfl)
                refine ta_ ?_ ?_ 5 (some 47) #[true,true,true,true,true,true,false,false,false,false,false] hHeld ?_ (y:=by rintro w' ⟨s0,s1⟩;have d0:=blk_cell s0 2;have d1:=blk_cell s1 0;have d2:=blk_cell s1 1;have d3:=blk_cell s1 2;have d4:=blk_cell s1 3;simp only [List.getElem?_toArray,List.getElem?_cons_zero,List.getElem?_cons_succ] at d0 d1 d2 d3 d4;go_simp;with_reducible rfl)
                refine on_ 6 (some 48) #[true,true,true,true,true,true,true,false,false,false,false] (fun K hK => ?_)
                refine va_ ?_ ?_ ?_
                refine hK.out _ _ (⟨blk_alloc hHeld.1 _,blk_alloc hHeld.2 _⟩) (fun hHeld => ?_)
                clear hK K
                refine nm_ ?_ (some 48) ?_
                refine ls_ 7 (some 49) #[true,true,true,true,true,true,true,true,false,false,false] (fun K hK => ?_)
                (refine app_alt_step (w0:=w0) (xs:=out) (p:=⟨left,acc⟩) (by rfl) rfl (Kd.R_mono HS3.out.st.row (fun _ _ => trivial)) (Kd.R_mono HS3.out.row (fun _ h => h.1)) HS3.out.st.below HL9.out (by simp [Act.eval]) (by simp [Act.eval]) ?_;intro v3 w3 A3;obtain ⟨Av3,cv3,rfl⟩:=A3.shape;have HS4:=Aside0.mk (HS3.out.done_ A3);have e1:=blk_grown HS3.out.st.cell A3.grown (Kd.R_ne HS3.out.st.row HS3.out.st.cell (by decide));have e3:=blk_cell (blk_far (p:=⟨g,2,none⟩) (blk_grown HT3.out A3.grown (Kd.R_ne HS3.out.st.row HT3.out (by decide))) (Ne.symm hgw) (.slice Av3 (out.length + 1) cv3)) 0;have e4:=blk_cell e1 2;have e5:=blk_frozen e1 2;simp only [List.getElem?_toArray,List.getElem?_cons_zero,List.getElem?_cons_succ] at e3 e4;clear A3)
                refine hK.out _ _ ?_
                clear hK K
                refine nm_ ?_ (some 49) ?_
                refine pu_ ?_ ?_ 8 (some 50) #[true,true,true,true,true,true,true,true,true,false,false] ?_
                refine pu_ ?_ ?_ 9 (some 51) #[true,true,true,true,true,true,true,true,true,true,false] ?_
                refine ls_ 10 none #[true,true,true,true,true,true,true,true,true,true,true] (fun K hK => ?_)
                skip
                refine skip_ (w1:=?_) (by rfl) rfl ?_ ?_
                rotate_left
                · (go_simp;first | rfl | (constructor;rfl;rfl))
                refine hK.out _ _ ?_
                clear hK K
                refine done_ (by kernel_rfl) ?_
                go_wp2
                rw [HR.out]
                unfold AltEnd
                simp only [ho,h8,or_self,if_false]
                exact bodyPost_ret (v:=.bool true) (by simp [results,Try.results110,go_sem]) rfl ⟨rfl,A2,c2,_,HS4.out.1,HS4.out.2⟩
              · subst h
                go_wp2_with (go_at_call 109;refine (next_c _ _ _ _ _ _ _ _ _ _ HS1.out.st _ _ _ _ HK1.out).mono ?_;unfold NextEnd;simp only [HHK.out,if_true];rintro e w1 ⟨rfl,⟨A2,c2,hS2⟩,hg2⟩;have HS2:=Aside0.mk ((HS1.out.next hS2 hg2).alloc_ (.cells #[.int .i64 5,.string tx,.int .i64 tp] 138 (0,0)));have hS2c:=hS2.cell;clear hS2 hg2;have a1:=blk_cell HS2.out.altCell 3;have a2:=blk_frozen HS2.out.altCell 3;have a3:=blk_cell HS2.out.st.cell 2;simp only [List.getElem?_toArray,List.getElem?_cons_zero,List.getElem?_cons_succ] at a1 a3;have a4:=blk_cell HS2.out.leftCell 2;simp only [List.getElem?_toArray,List.getElem?_cons_zero,List.getElem?_cons_succ] at a4;have a5:=blk_cell HS2.out.altCell 0;have a6:=blk_cell HS2.out.altCell 1;have a7:=blk_cell HS2.out.altCell 2;simp only [List.getElem?_toArray,List.getElem?_cons_zero,List.getElem?_cons_succ] at a5 a6 a7;have a8:=blk_frozen HS2.out.st.cell 2)
                have HS3:=Aside0.mk HS2.out.drew_
                have HT3:=Aside0.mk (blk_drew (blk_new w1 (.cells #[.int .i64 5,.string tx,.int .i64 tp] 138 (0,0))))
                have hb1:=blk_lt HS1.out.st.cell
                have HL9 : Aside0 (out.length + 1 ≤ 2000000000000):=⟨by have:=hout;omega⟩
                have hgw : g ≠ w1.heap.size:=by have h1:=blk_lt hS2c;omega
                refine start_ (n:=11) (S:=fun w' => w'.heap[g]? = some (.cells #[.slice A2 r.length c2,.int .i64 en,.slice Av out.length cv] 161 (0,0)) ∧ w'.heap[W.heap.size + 1]? = some (.cells #[.int .i64 left.kind,.string left.text,.int .i64 left.pos,.slice Au acc.length cu] 140 (0,0))) (ds:=[7,10]) #[false,false,false,false,false,false,false,false,false,false,false] (by kernel_rfl) rfl rfl (⟨HS3.out.st.cell,HS3.out.altCell⟩) (fun hHeld => ?_)
                refine pu_ ?_ ?_ 0 (some 42) #[true,false,false,false,false,false,false,false,false,false,false] ?_
                refine pu_ ?_ ?_ 1 (some 43) #[true,true,false,false,false,false,false,false,false,false,false] ?_
                refine pu_ ?_ ?_ 2 (some 44) #[true,true,true,false,false,false,false,false,false,false,false] ?_
                refine pu_ ?_ ?_ 3 (some 45) #[true,true,true,true,false,false,false,false,false,false,false] ?_
                refine ta_ ?_ ?_ 4 (some 46) #[true,true,true,true,true,false,false,false,false,false,false] hHeld ?_ (y:=by rintro w' ⟨s0,s1⟩;have d0:=blk_cell s0 2;have d1:=blk_cell s1 0;have d2:=blk_cell s1 1;have d3:=blk_cell s1 2;have d4:=blk_cell s1 3;simp only [List.getElem?_toArray,List.getElem?_cons_zero,List.getElem?_cons_succ] at d0 d1 d2 d3 d4;go_simp;with_reducible rfl)
                refine ta_ ?_ ?_ 5 (some 47) #[true,true,true,true,true,true,false,false,false,false,false] hHeld ?_ (y:=by rintro w' ⟨s0,s1⟩;have d0:=blk_cell s0 2;have d1:=blk_cell s1 0;have d2:=blk_cell s1 1;have d3:=blk_cell s1 2;have d4:=blk_cell s1 3;simp only [List.getElem?_toArray,List.getElem?_cons_zero,List.getElem?_cons_succ] at d0 d1 d2 d3 d4;go_simp;with_reducible rfl)
                refine on_ 6 (some 48) #[true,true,true,true,true,true,true,false,false,false,false] (fun K hK => ?_)
                refine va_ ?_ ?_ ?_
                refine hK.out _ _ (⟨blk_alloc hHeld.1 _,blk_alloc hHeld.2 _⟩) (fun hHeld => ?_)
                clear hK K
                refine nm_ ?_ (some 48) ?_
                refine ls_ 7 (some 49) #[true,true,true,true,true,true,true,true,false,false,false] (fun K hK => ?_)
                (refine app_alt_step (w0:=w0) (xs:=out) (p:=⟨left,acc⟩) (by rfl) rfl (Kd.R_mono HS3.out.st.row (fun _ _ => trivial)) (Kd.R_mono HS3.out.row (fun _ h => h.1)) HS3.out.st.below HL9.out (by simp [Act.eval]) (by simp [Act.eval]) ?_;intro v3 w3 A3;obtain ⟨Av3,cv3,rfl⟩:=A3.shape;have HS4:=Aside0.mk (HS3.out.done_ A3);have e1:=blk_grown HS3.out.st.cell A3.grown (Kd.R_ne HS3.out.st.row HS3.out.st.cell (by decide));have e3:=blk_cell (blk_far (p:=⟨g,2,none⟩) (blk_grown HT3.out A3.grown (Kd.R_ne HS3.out.st.row HT3.out (by decide))) (Ne.symm hgw) (.slice Av3 (out.length + 1) cv3)) 0;have e4:=blk_cell e1 2;have e5:=blk_frozen e1 2;simp only [List.getElem?_toArray,List.getElem?_cons_zero,List.getElem?_cons_succ] at e3 e4;clear A3)
                refine hK.out _ _ ?_
                clear hK K
                refine nm_ ?_ (some 49) ?_
                refine pu_ ?_ ?_ 8 (some 50) #[true,true,true,true,true,true,true,true,true,false,false] ?_
                refine pu_ ?_ ?_ 9 (some 51) #[true,true,true,true,true,true,true,true,true,true,false] ?_
                refine ls_ 10 none #[true,true,true,true,true,true,true,true,true,true,true] (fun K hK => ?_)
                skip
                refine skip_ (w1:=?_) (by rfl) rfl ?_ ?_
                rotate_left
                · (go_simp;first | rfl | (constructor;rfl;rfl))
                refine hK.out _ _ ?_
                clear hK K
                refine done_ (by kernel_rfl) ?_
                go_wp2
                rw [HR.out]
                unfold AltEnd
                simp only [ho,h8,or_self,if_false]
                exact bodyPost_ret (v:=.bool false) (by simp [results,Try.results110,go_sem]) rfl ⟨rfl,A2,c2,_,HS4.out.1,HS4.out.2⟩
end Go.Proofs.Ytmkgcjhimajgiaa


set_option linter.unusedVariables false
set_option linter.unusedSimpArgs false
namespace Go.Proofs.Ytmkgcjhimajgiaa
open Go.RowKit Go.Proofs.YtmkgcjhimajgiaaW.PrintWords

def altsF (en : Int) (left : Tok) : Nat → List Tok → List Alt → Except (Int × Int) (List Tok × List Alt)
  | 0,_,_ => .error (12,0)
  | k + 1,l,out =>
    match altF en l [] with
    | .error e => .error e
    | .ok (right,more,r) => if 60 ≤ out.length ∨ 8 < right.length then .error (14,left.pos) else if more = true then altsF en left k r (out ++ [⟨left,right⟩]) else .ok (r,out ++ [⟨left,right⟩])
def defF (en : Int) : List Tok → List Alt → Except (Int × Int) (List Tok × List Alt)
  | [],_ => .error (12,en)
  | t :: r,out => if t.kind = 1 then (match r with
      | [] => .error (12,en)
      | t2 :: r2 => if t2.kind = 3 then altsF en t (r2.length + 1) r2 out else .error (12,t2.pos)) else .error (12,t.pos)
theorem altF_lt {en : Int} : ∀ {l acc : List Tok} {right : List Tok} {more : Bool} {r : List Tok},altF en l acc = .ok (right,more,r) → r.length < l.length:=by
  intro l
  induction l with
  | nil => intro acc right more r h;cases h
  | cons t l ih =>
    intro acc right more r h
    unfold altF at h
    split at h
    · have:=ih h;simp;omega
    · split at h
      · injection h with h
        injection h with _ h
        injection h with _ h
        subst h
        simp
      · cases h
theorem altsF_le {en : Int} {left : Tok} : ∀ {k : Nat} {l : List Tok} {out : List Alt} {r : List Tok} {out' : List Alt},altsF en left k l out = .ok (r,out') → r.length < l.length ∧ (out'.length ≤ 60):=by
  intro k
  induction k with
  | zero => intro l out r out' h;cases h
  | succ k ih =>
    intro l out r out' h
    unfold altsF at h
    split at h
    · cases h
    · rename_i right more r1 ha
      have h1:=altF_lt ha
      split at h
      · cases h
      · rename_i hn
        split at h
        · have:=ih h;omega
        · injection h with h
          injection h with h2 h3
          subst h2
          subst h3
          simp only [List.length_append,List.length_singleton]
          omega
theorem defF_le {en : Int} {l : List Tok} {out : List Alt} {r : List Tok} {out' : List Alt} (h : defF en l out = .ok (r,out')) : r.length < l.length ∧ out'.length ≤ 60:=by
  unfold defF at h
  split at h
  · cases h
  · split at h
    · split at h
      · cases h
      · split at h
        · have:=altsF_le h
          simp only [List.length_cons]
          omega
        · cases h
    · cases h
def DefEnd (w0 : World) (g : Nat) (en : Int) : Except (Int × Int) (List Tok × List Alt) → Ending → World → Prop
  | .error (a,p),e,w' => e = .panicked (faultV a p) ∧ Below w0.heap.size w0 w'
  | .ok (r,out),e,w' => e = .returned (.tuple #[]) ∧ ∃ A c v,St w0 w' (fun _ => True) g A c r en v out

theorem lit3 (W : World) (o : Obj) : kInt.C ((W.alloc o).alloc (.cells #[.int .i64 3] 3 (0,0))) (some ⟨W.heap.size + 1,0,none⟩) 1 [3]:=by
  have h:=C_lit (W.alloc o) [3] (by simp)
  rw [show (W.alloc o).heap.size = W.heap.size + 1 by simp] at h
  exact h
set_option maxRecDepth 100000 in
set_option maxHeartbeats 2000000 in
theorem def_c (w0 W : World) (g : Nat) (A : Option Addr) (c : Nat) (l : List Tok) (en : Int) (v : Value) (out : List Alt) (hS : St w0 W (fun _ => True) g A c l en v out) (hl : l.length ≤ 4000) (hout : out.length ≤ 60) :
    Calls Try.prog 93 #[.pointer (some ⟨g,0,none⟩)] W fun e w' => DefEnd w0 g en (defF en l out) e w':=by
  have HS1:=Aside0.mk (hS.alloc_ (.cells #[.int .i64 1] 3 (0,0)))
  have HK1 : Aside0 (kInt.C (W.alloc (.cells #[.int .i64 1] 3 (0,0))) (some ⟨W.heap.size,0,none⟩) 1 [1]):=⟨C_lit W [1] (by simp)⟩
  have hlt:=blk_lt hS.cell
  clear hS
  cases l with
  | nil =>
    go_enter Try.func93,Try.ntmps93
    go_wp2_with (go_at_call 109;refine (next_c _ _ _ _ _ _ _ _ _ _ HS1.out _ _ _ _ HK1.out).mono ?_;rintro e w1 ⟨rfl,hb1⟩)
    exact ⟨rfl,rfl,hb1⟩
  | cons t r =>
    obtain ⟨tk,tx,tp⟩:=t
    by_cases h1 : tk = 1
    · subst h1
      have hk : ([1].any fun y => (1 : Int) == y) = true:=rfl
      have HHK:=Lib.hid hk
      clear hk
      have hk3 : ([3].any fun y => (3 : Int) == y) = true:=rfl
      have HHK3:=Lib.hid hk3
      clear hk3
      cases r with
      | nil =>
        go_enter Try.func93,Try.ntmps93
        go_wp2_with (first | (go_at_call 109;refine (next_c _ _ _ _ _ _ _ _ _ _ HS2.out _ _ _ _ HK2.out).mono ?_;rintro e w3 ⟨rfl,hb3⟩) | (go_at_call 109;refine (next_c _ _ _ _ _ _ _ _ _ _ HS1.out _ _ _ _ HK1.out).mono ?_;unfold NextEnd;simp only [HHK.out,if_true];rintro e w1 ⟨rfl,⟨A2,c2,hS2⟩,hg2⟩;have HS2:=Aside0.mk ((hS2.alloc_ (.cells #[.int .i64 1,.string tx,.int .i64 tp] 138 (0,0))).alloc_ (.cells #[.int .i64 3] 3 (0,0)));have HK2:=Aside0.mk (lit3 w1 (.cells #[.int .i64 1,.string tx,.int .i64 tp] 138 (0,0)));clear hS2 hg2))
        exact ⟨rfl,rfl,hb3⟩
      | cons t2 r2 =>
        obtain ⟨tk2,tx2,tp2⟩:=t2
        by_cases h3 : tk2 = 3
        · subst h3
          obtain ⟨RES,hRES⟩ : ∃ r,altsF en ⟨1,tx,tp⟩ (r2.length + 1) r2 out = r:=⟨_,rfl⟩
          have HR : Hid (defF en (⟨1,tx,tp⟩ :: ⟨3,tx2,tp2⟩ :: r2) out = RES):=Lib.hid (by rw [← hRES];rfl)
          have HE:=Aside0.mk hRES
          clear hRES
          have HL2 : Aside0 (r2.length ≤ 4000):=⟨by simp at hl;omega⟩
          have HO2:=Aside0.mk hout
          clear hl hout
          go_enter Try.func93,Try.ntmps93
          go_wp2_with (first | (go_at_call 109;refine (next_c _ _ _ _ _ _ _ _ _ _ HS2.out _ _ _ _ HK2.out).mono ?_;unfold NextEnd;simp only [HHK3.out,if_true];rintro e w3 ⟨rfl,⟨A3,c3,hS3⟩,hg3⟩;have HS3:=Aside0.mk hS3;have HT3:=Aside0.mk (blk_grown HT2.out hg3 (fun he => hgw (by injection he with he;exact he.symm)));clear hS3 hg3) | (go_at_call 109;refine (next_c _ _ _ _ _ _ _ _ _ _ HS1.out _ _ _ _ HK1.out).mono ?_;unfold NextEnd;simp only [HHK.out,if_true];rintro e w1 ⟨rfl,⟨A2,c2,hS2⟩,hg2⟩;have HS2:=Aside0.mk ((hS2.alloc_ (.cells #[.int .i64 1,.string tx,.int .i64 tp] 138 (0,0))).alloc_ (.cells #[.int .i64 3] 3 (0,0)));have HK2:=Aside0.mk (lit3 w1 (.cells #[.int .i64 1,.string tx,.int .i64 tp] 138 (0,0)));have HT2:=Aside0.mk (blk_alloc (blk_new w1 (.cells #[.int .i64 1,.string tx,.int .i64 tp] 138 (0,0))) (.cells #[.int .i64 3] 3 (0,0)));have hgw : g ≠ w1.heap.size:=(by have:=blk_lt hS2.cell;omega);clear hS2 hg2))
          go_loopg [] r2.length (fun m wr => ∃ (l' : List Tok) (out' : List Alt) (A' : Option Addr) (c' : Nat) (v' : Value) (k : Nat),l'.length = m ∧ Aside0 (l'.length ≤ k) ∧ Aside0 (altsF en ⟨1,tx,tp⟩ (k + 1) l' out' = RES) ∧ Aside0 (l'.length ≤ 4000) ∧ Aside0 (out'.length ≤ 60) ∧ Aside0 (wr.heap[w1.heap.size]? = some (.cells #[.int .i64 1,.string tx,.int .i64 tp] 138 (0,0))) ∧ Aside0 (St w0 wr (fun _ => True) g A' c' l' en v' out'))
          case atStart => exact ⟨r2,out,A3,c3,v,r2.length,rfl,⟨Nat.le_refl _⟩,HE,HL2,HO2,HT3,HS3⟩
          case round =>
            obtain ⟨l',out',A',c',v',k,hm,HF',HE',HL',HO',HT',HS'⟩:=hrel
            have hc1:=blk_cell HT'.out 0
            have hc2:=blk_cell HT'.out 1
            have hc3:=blk_cell HT'.out 2
            simp only [List.getElem?_toArray,List.getElem?_cons_zero,List.getElem?_cons_succ] at hc1 hc2 hc3
            have hout' : out'.length ≤ 100:=by have:=HO'.out;omega
            cases ha : altF en l' [] with
            | error er =>
              obtain ⟨a,p⟩:=er
              have hR : RES = .error (a,p):=by rw [← HE'.out,altsF,ha]
              have HA:=Lib.hid ha
              have HR2:=Lib.hid hR
              clear ha hR
              go_wp2_with (go_at_call 110;refine (alt_c _ _ _ _ _ _ _ _ _ HS'.out ⟨1,tx,tp⟩ HL'.out hout').mono ?_;rw [HA.out];rintro e w4 ⟨rfl,hb4⟩)
              refine ⟨rfl,?_⟩
              rw [HR.out,HR2.out]
              exact ⟨rfl,hb4⟩
            | ok q =>
              obtain ⟨right,more,r⟩:=q
              have hlt':=altF_lt ha
              by_cases hbig : 60 ≤ out'.length ∨ 8 < right.length
              · have hR : RES = .error (14,tp):=by rw [← HE'.out,altsF,ha];simp only [hbig,if_true]
                have HA:=Lib.hid ha
                have HR2:=Lib.hid hR
                have HBIG:=Lib.hid hbig
                clear ha hR hbig
                go_wp2_with (go_at_call 110;refine (alt_c _ _ _ _ _ _ _ _ _ HS'.out ⟨1,tx,tp⟩ HL'.out hout').mono ?_;rw [HA.out];unfold AltEnd;simp only [HBIG.out,if_true];rintro e w4 ⟨rfl,hb4⟩)
                refine ⟨rfl,?_⟩
                rw [HR.out,HR2.out]
                exact ⟨rfl,hb4⟩
              · have hne : some w1.heap.size ≠ v'.ownBlock:=Kd.R_ne HS'.out.row HT'.out (by decide)
                have HNE:=Aside0.mk hne
                have HGW:=Aside0.mk hgw
                have HLT:=Aside0.mk hlt'
                clear hne
                cases more with
                | true =>
                  have hR : RES = altsF en ⟨1,tx,tp⟩ k r (out' ++ [⟨⟨1,tx,tp⟩,right⟩]):=by rw [← HE'.out,altsF,ha];simp only [hbig,if_false,if_true]
                  have HA:=Lib.hid ha
                  have HR2:=Lib.hid hR
                  have HBIG:=Lib.hid hbig
                  clear ha hR hbig
                  go_wp2_with (go_at_call 110;refine (alt_c _ _ _ _ _ _ _ _ _ HS'.out ⟨1,tx,tp⟩ HL'.out hout').mono ?_;rw [HA.out];unfold AltEnd;simp only [HBIG.out,if_false];rintro e w4 ⟨rfl,A4,c4,v4,hS4,hk4⟩;have HS4:=Aside0.mk hS4;have HK4:=Aside0.mk hk4;clear hS4 hk4)
                  have HM:=Lib.hid hm
                  go_roundg r.length
                  case measure => have:=HM.out;have:=HLT.out;omega
                  case rel =>
                    have hk1 : k = (k - 1) + 1:=by have:=HF'.out;have:=HLT.out;omega
                    refine ⟨r,out' ++ [⟨⟨1,tx,tp⟩,right⟩],A4,c4,v4,k - 1,rfl,⟨by have:=HF'.out;have:=HLT.out;omega⟩,⟨?_⟩,⟨by have:=HL'.out;have:=HLT.out;omega⟩,⟨?_⟩,⟨HK4.out _ _ HT'.out HGW.out.symm HNE.out⟩,HS4⟩
                    · rw [← hk1];exact HR2.out.symm
                    · have:=HBIG.out
                      simp only [List.length_append,List.length_singleton]
                      omega
                | false =>
                  have hR : RES = .ok (r,out' ++ [⟨⟨1,tx,tp⟩,right⟩]):=by rw [← HE'.out,altsF,ha];simp only [hbig,if_false,Bool.false_eq_true]
                  have HA:=Lib.hid ha
                  have HR2:=Lib.hid hR
                  have HBIG:=Lib.hid hbig
                  clear ha hR hbig
                  go_wp2_with (go_at_call 110;refine (alt_c _ _ _ _ _ _ _ _ _ HS'.out ⟨1,tx,tp⟩ HL'.out hout').mono ?_;rw [HA.out];unfold AltEnd;simp only [HBIG.out,if_false];rintro e w4 ⟨rfl,A4,c4,v4,hS4,hk4⟩;have HS4:=Aside0.mk hS4;clear hS4 hk4)
                  refine bodyPost_ret (v:=.tuple #[]) (by simp [results,Try.results93,go_sem]) rfl ?_
                  rw [HR.out,HR2.out]
                  exact ⟨rfl,A4,c4,v4,HS4.out⟩
        · have hk3 : ([3].any fun y => tk2 == y) = false:=by simp;exact h3
          have HHK3:=Lib.hid hk3
          clear hk3
          have HR:=Lib.hid (show defF en (⟨1,tx,tp⟩ :: ⟨tk2,tx2,tp2⟩ :: r2) out = .error (12,tp2) by simp only [defF,if_true];rw [if_neg h3])
          go_enter Try.func93,Try.ntmps93
          go_wp2_with (first | (go_at_call 109;refine (next_c _ _ _ _ _ _ _ _ _ _ HS2.out _ _ _ _ HK2.out).mono ?_;unfold NextEnd;simp only [HHK3.out,Bool.false_eq_true,if_false];rintro e w3 ⟨rfl,hb3⟩) | (go_at_call 109;refine (next_c _ _ _ _ _ _ _ _ _ _ HS1.out _ _ _ _ HK1.out).mono ?_;unfold NextEnd;simp only [HHK.out,if_true];rintro e w1 ⟨rfl,⟨A2,c2,hS2⟩,hg2⟩;have HS2:=Aside0.mk ((hS2.alloc_ (.cells #[.int .i64 1,.string tx,.int .i64 tp] 138 (0,0))).alloc_ (.cells #[.int .i64 3] 3 (0,0)));have HK2:=Aside0.mk (lit3 w1 (.cells #[.int .i64 1,.string tx,.int .i64 tp] 138 (0,0)));clear hS2 hg2))
          refine ⟨rfl,?_⟩
          rw [HR.out]
          exact ⟨rfl,hb3⟩
    · have hk1 : ([1].any fun y => tk == y) = false:=by simp;exact h1
      have HHK:=Lib.hid hk1
      clear hk1
      have HR:=Lib.hid (show defF en (⟨tk,tx,tp⟩ :: r) out = .error (12,tp) by simp only [defF];rw [if_neg h1])
      go_enter Try.func93,Try.ntmps93
      go_wp2_with (go_at_call 109;refine (next_c _ _ _ _ _ _ _ _ _ _ HS1.out _ _ _ _ HK1.out).mono ?_;unfold NextEnd;simp only [HHK.out,Bool.false_eq_true,if_false];rintro e w1 ⟨rfl,hb1⟩)
      refine ⟨rfl,?_⟩
      rw [HR.out]
      exact ⟨rfl,hb1⟩
end Go.Proofs.Ytmkgcjhimajgiaa


set_option linter.unusedVariables false
set_option linter.unusedSimpArgs false
namespace Go.Proofs.Ytmkgcjhimajgiaa
open Go.RowKit Go.Proofs.YtmkgcjhimajgiaaW.PrintWords

def restF (en : Int) : Nat → List Tok → List Alt → Except (Int × Int) (List Alt)
  | _,[],out => .ok out
  | 0,_ :: _,_ => .error (12,0)
  | k + 1,t :: r,out =>
    match defF en (t :: r) out with
    | .error e => .error e
    | .ok (r',out') => restF en k r' out'
def readF (en : Int) (l : List Tok) : Except (Int × Int) (List Alt) :=
  match defF en l [] with
  | .error e => .error e
  | .ok (r,out) => restF en r.length r out

set_option maxRecDepth 100000 in
set_option maxHeartbeats 1000000 in
theorem altsRec_panicking (bp bq : Nat) (v : Value) (x y a at_ : Int) (older : List PanicEntry) (w w0 : World) (B : Nat) (hp : w.heap[bp]? = some (.cells #[v] 134 (0,0))) (hq : w.heap[bq]? = some (.cells #[.int .i64 x,.int .i64 y] 89 (0,0))) (hpq : bp ≠ bq) (hBp : B ≤ bp) (hBq : B ≤ bq) (hb : Below B w0 w) :
    CallsD Try.prog 92 #[.pointer (some ⟨bp,0,none⟩),.pointer (some ⟨bq,0,none⟩)] (.panicking ({ v:=.iface 89 (.agg #[.int .i64 a,.int .i64 at_]),recovered:=false } :: older)) w fun e u' w' =>
      e = .returned (.tuple #[]) ∧ u' = .panicking ({ v:=.iface 89 (.agg #[.int .i64 a,.int .i64 at_]),recovered:=true } :: older) ∧ w'.heap[bp]? = some (.cells #[.slice none 0 0] 134 (0,0)) ∧ w'.heap[bq]? = some (.cells #[.int .i64 a,.int .i64 at_] 89 (0,0)) ∧ Below B w0 w':=by
  have hta : ∀ w,(Instr.typeAssert (.iface 89 (.agg #[.int .i64 a,.int .i64 at_])) 20 89 true).run Try.prog w = .ok (.tuple #[.agg #[.int .i64 a,.int .i64 at_],.bool true]) w:=fun w => by kernel_rfl
  have n1 : ¬ bp = w.heap.size:=by have:=blk_lt hp;omega
  have n2 : ¬ bq = w.heap.size:=by have:=blk_lt hq;omega
  have n3 : ¬ w.heap.size = bp:=fun h => n1 h.symm
  have n4 : ¬ w.heap.size = bq:=fun h => n2 h.symm
  have n5 : ¬ bp = bq:=hpq
  have n6 : ¬ bq = bp:=fun h => hpq h.symm
  have hp1:=blk_alloc hp (.cells #[.int .i64 a,.int .i64 at_] 89 (0,0))
  have hq1:=blk_alloc hq (.cells #[.int .i64 a,.int .i64 at_] 89 (0,0))
  have hb1:=hb.alloc (by have:=blk_lt hp;omega : B ≤ w.heap.size) (.cells #[.int .i64 a,.int .i64 at_] 89 (0,0))
  have HP1:=Aside0.mk hp1
  have HQ1:=Aside0.mk hq1
  have HB1:=Aside0.mk hb1
  have c1:=blk_cell hp1 0
  have c2:=blk_cell hq1 0
  have c3:=blk_cell hq1 1
  have f1:=blk_frozen hp1 0
  have f2:=blk_frozen hq1 0
  have f3:=blk_frozen hq1 1
  clear hp hq hb hp1 hq1 hb1
  simp only [List.getElem?_toArray,List.getElem?_cons_zero,List.getElem?_cons_succ] at c1 c2 c3
  refine callsD_of_wpS Try.func92 rfl fun c₀ cs hu => ?_
  apply wpS_seq
  apply wpS_region
  simp [wpOpsS,go_sem,recoverD,hu,Try.ntmps92,Exit.thenS]
  refine wpS_of_wp ?_
  simp only [Array.replicate_succ,Array.replicate_zero,List.push_toArray,List.append_toArray,List.nil_append,List.cons_append,List.setIfInBounds_toArray,List.set_cons_zero,List.set_cons_succ]
  go_wp2
  go_region
  all_goals
    go_wp2
    refine ⟨rfl,_,rfl,.tuple #[],results_none rfl _ _ _,rfl,rfl,?_,?_,?_⟩
    · exact blk_far (blk_far (blk_set HP1.out 0 _) hpq _) hpq _
    · exact blk_set (blk_set (blk_far HQ1.out (fun h => hpq h.symm) _) 0 _) 1 _
    · exact below_set (below_set (below_set HB1.out.drew hBp _ _) hBq _ _) hBq _ _

set_option maxRecDepth 100000 in
theorem altsRec_idle (p q : Option Addr) (w : World) :
    CallsD Try.prog 92 #[.pointer p,.pointer q] .returning w fun e u' w' => e = .returned (.tuple #[]) ∧ u' = .returning ∧ w = w':=by
  refine callsD_of_wpS Try.func92 rfl fun c₀ cs hu => ?_
  apply wpS_seq
  apply wpS_region
  simp [wpOpsS,go_sem,recoverD,hu,Try.ntmps92,Exit.thenS]
  refine wpS_of_wp ?_
  simp only [Array.replicate_succ,Array.replicate_zero,List.push_toArray,List.append_toArray,List.nil_append,List.cons_append,List.setIfInBounds_toArray,List.set_cons_zero,List.set_cons_succ]
  go_wp2
  exact ⟨rfl,_,by cases c₀;simp_all,.tuple #[],results_none rfl _ _ _,rfl,rfl,rfl⟩

def AltsEnd (w : World) : Except (Int × Int) (List Alt) → Ending → World → Prop
  | .error (a,p),e,w' => e = .returned (.tuple #[.slice none 0 0,.agg #[.int .i64 a,.int .i64 p]])
  | .ok l,e,w' => ∃ v,e = .returned (.tuple #[v,.agg #[.int .i64 0,.int .i64 0]]) ∧ kAlt.R 140 w' w.heap.size (fun _ => True) v l

theorem results_alts {tmps : Array Value} {W : World} {g g' : Nat} {A : Option Addr} {n c : Nat} {x y : Int} (t2 : tmps.getD 4 undef = .pointer (some ⟨g,0,none⟩)) (t3 : tmps.getD 5 undef = .pointer (some ⟨g',0,none⟩))
    (h : W.heap[g]? = some (.cells #[.slice A n c] 134 (0,0))) (h' : W.heap[g']? = some (.cells #[.int .i64 x,.int .i64 y] 89 (0,0))) :
    (results Try.f72 tmps).run Try.prog W = .ok (.tuple #[.slice A n c,.agg #[.int .i64 x,.int .i64 y]]) W:=by
  have d1:=blk_cell h 0
  have d2:=blk_cell h' 0
  have d3:=blk_cell h' 1
  simp only [List.getElem?_toArray,List.getElem?_cons_zero,List.getElem?_cons_succ] at d1 d2 d3
  simp only [Array.getD_eq_getD_getElem?] at t2 t3
  simp [results,Try.results72,go_sem,d1,d2,d3,t2,t3]

/-- The world at which the reader is made: the results' two cells lie. -/
def altsW (w : World) : World:=(w.alloc (.cells #[.slice none 0 0] 134 (0,0))).alloc (.cells #[.int .i64 0,.int .i64 0] 89 (0,0))
theorem altsW_p (w : World) : (altsW w).heap[w.heap.size]? = some (.cells #[.slice none 0 0] 134 (0,0)):=blk_alloc (blk_new w _) _
theorem altsW_q (w : World) : (altsW w).heap[w.heap.size + 1]? = some (.cells #[.int .i64 0,.int .i64 0] 89 (0,0)):=by
  have h:=blk_new (w.alloc (.cells #[.slice none 0 0] 134 (0,0))) (.cells #[.int .i64 0,.int .i64 0] 89 (0,0))
  rw [show (w.alloc (.cells #[.slice none 0 0] 134 (0,0))).heap.size = w.heap.size + 1 by simp] at h
  exact h
theorem altsW_below (w : World) : Below w.heap.size w (altsW w):=((Below.refl _ _).alloc (Nat.le_refl _) _).alloc (by simp) _
theorem altsW_size (w : World) : (altsW w).heap.size = w.heap.size + 2:=by simp [altsW]

set_option maxRecDepth 100000 in
set_option maxHeartbeats 4000000 in
theorem alts_c (w : World) (A : Option Addr) (c : Nat) (l : List Tok) (en : Int) (hl : l.length ≤ 4000) (hc : l.length ≤ c) (hC : kTok.C w A l.length l) :
    Calls Try.prog 72 #[.slice A l.length c,.int .i64 en] w fun e w' => AltsEnd w (readF en l) e w' ∧ Below w.heap.size w w':=by
  have hmf : ∀ (fn : Fn) (first cap : Array Value) (w : World),(Instr.makeFunc fn first cap).run Try.prog w = .ok (.func fn first cap) w:=fun _ _ _ _ => rfl
  obtain ⟨RES,hRES⟩ : ∃ r,r = readF en l:=⟨_,rfl⟩
  rw [← hRES]
  have HRES:=Aside0.mk hRES
  have hS0 : St (altsW w) ((altsW w).alloc (.cells #[.slice A l.length c,.int .i64 en,.slice none 0 0] 161 (0,0))) (fun _ => True) (w.heap.size + 2) A c l en (.slice none 0 0) [] :=
    ⟨by have h:=blk_new (altsW w) (.cells #[.slice A l.length c,.int .i64 en,.slice none 0 0] 161 (0,0));rw [altsW_size] at h;exact h,Kd.C_below hC (altsW_below w),hc,Kd.R_nil _ _ _ _ _,(Below.refl _ _).alloc (Nat.le_refl _) _,by rw [altsW_size];omega⟩
  have HS0:=Aside0.mk hS0
  have HP:=Aside0.mk (altsW_p w)
  have HQ:=Aside0.mk (altsW_q w)
  have HB:=Aside0.mk (altsW_below w)
  have HZ:=Aside0.mk (altsW_size w)
  clear hRES hS0 hC
  cases hd : defF en l [] with
  | error er =>
    obtain ⟨a,p⟩:=er
    have HD:=Lib.hid hd
    have hR : RES = .error (a,p):=by rw [HRES.out,readF,hd]
    have HR:=Lib.hid hR
    clear hd hR
    go_enter_defers Try.func72,Try.ntmps72
    go_wp2_with (go_at_call 93;refine (def_c (altsW w) _ _ _ _ _ _ _ _ HS0.out hl (by simp)).mono ?_;rw [HD.out];rintro e w1 ⟨rfl,hb1⟩)
    have hP:=blk_below HP.out hb1
    have hQ:=blk_below HQ.out hb1
    have hB:=below_then HB.out HB.out.size hb1
    refine leaves_cons (f:=92) (args:=#[.pointer (some ⟨w.heap.size,0,none⟩),.pointer (some ⟨w.heap.size + 1,0,none⟩)]) (by simp) (by simp [go_sem]) ?_
    refine (altsRec_panicking _ _ _ _ _ _ _ [] _ w w.heap.size hP hQ (by omega) (Nat.le_refl _) (by omega) hB).mono ?_
    rintro e u' w'' ⟨rfl,rfl,hP2,hQ2,hB2⟩
    refine ⟨_,results_alts rfl rfl hP2 hQ2,?_,hB2⟩
    rw [HR.out]
    rfl
  | ok q =>
    obtain ⟨r0,out0⟩:=q
    have HD:=Lib.hid hd
    have hR : restF en r0.length r0 out0 = RES:=by rw [HRES.out,readF,hd]
    have HR:=Aside0.mk hR
    have HLE:=Aside0.mk (defF_le hd)
    clear hd hR
    go_enter_defers Try.func72,Try.ntmps72
    go_wp2_with (go_at_call 93;refine (def_c (altsW w) _ _ _ _ _ _ _ _ HS0.out hl (by simp)).mono ?_;rw [HD.out];rintro e w1 ⟨rfl,A1,c1,v1,hS1⟩;have HS1:=Aside0.mk hS1;clear hS1)
    go_loopg [] r0.length (fun m wr => ∃ (l' : List Tok) (out' : List Alt) (A' : Option Addr) (c' : Nat) (v' : Value) (k : Nat),l'.length = m ∧ Aside0 (l'.length ≤ k) ∧ Aside0 (restF en k l' out' = RES) ∧ Aside0 (l'.length ≤ 4000) ∧ Aside0 (out'.length ≤ 60) ∧ Aside0 (St (altsW w) wr (fun _ => True) (w.heap.size + 2) A' c' l' en v' out'))
    case atStart => exact ⟨r0,out0,A1,c1,v1,r0.length,rfl,⟨Nat.le_refl _⟩,HR,⟨by have:=HLE.out;omega⟩,⟨HLE.out.2⟩,HS1⟩
    case round =>
      obtain ⟨l',out',A',c',v',k,hm,HF',HE',HL',HO',HS'⟩:=hrel
      have a1:=blk_cell HS'.out.cell 0
      simp only [List.getElem?_toArray,List.getElem?_cons_zero,List.getElem?_cons_succ] at a1
      cases l' with
      | nil =>
        simp only [List.length_nil] at hm
        subst hm
        have HP':=blk_below HP.out HS'.out.below
        have HQ':=blk_below HQ.out HS'.out.below
        have HB':=below_then HB.out HB.out.size HS'.out.below
        obtain ⟨Av,cv,ev⟩:=Kd.R_slice HS'.out.row
        subst ev
        have a2:=blk_cell HS'.out.cell 2
        have a3:=blk_cell HP' 0
        have a4:=blk_cell HQ' 0
        have a5:=blk_cell HQ' 1
        have f1:=blk_frozen HP' 0
        have f2:=blk_frozen HQ' 0
        have f3:=blk_frozen HQ' 1
        have HPP:=Aside0.mk HP'
        have HQQ:=Aside0.mk HQ'
        have HBB:=Aside0.mk HB'
        clear HP' HQ' HB'
        simp only [List.getElem?_toArray,List.getElem?_cons_zero,List.getElem?_cons_succ] at a2 a3 a4 a5
        go_wp2
        refine leaves_cons (f:=92) (args:=#[.pointer (some ⟨w.heap.size,0,none⟩),.pointer (some ⟨w.heap.size + 1,0,none⟩)]) (by simp) (by simp [go_sem]) ?_
        refine (altsRec_idle _ _ _).mono ?_
        rintro e u' w'' ⟨rfl,rfl,rfl⟩
        have hne : w.heap.size ≠ w.heap.size + 1:=by omega
        refine ⟨_,results_alts rfl rfl (blk_far (blk_far (blk_set HPP.out 0 _) hne _) hne _) (blk_set (blk_set (blk_far HQQ.out hne.symm _) 0 _) 1 _),?_,?_⟩
        · have hR : RES = .ok out':=by rw [← HE'.out];cases k <;> rfl
          rw [hR]
          refine ⟨_,rfl,?_⟩
          have h:=Kd.R_lower HS'.out.row (base':=w.heap.size) (by rw [altsW_size];omega)
          exact Kd.R_set (Kd.R_set (Kd.R_set h HPP.out (by decide) _ _) (blk_far HQQ.out hne.symm _) (by decide) _ _) (blk_set (blk_far HQQ.out hne.symm _) 0 _) (by decide) _ _
        · exact below_set (below_set (below_set HBB.out (Nat.le_refl _) _ _) (by omega) _ _) (by omega) _ _
      | cons t r =>
        have HM:=Lib.hid hm
        obtain ⟨k',rfl⟩ : ∃ k',k = k' + 1:=⟨k - 1,by have:=HF'.out;simp at this;omega⟩
        simp only [List.length_cons] at a1
        clear hm
        cases hd : defF en (t :: r) out' with
        | error er =>
          obtain ⟨a,p⟩:=er
          have hR2 : RES = .error (a,p):=by rw [← HE'.out,restF,hd]
          have HD2:=Lib.hid hd
          have HR2:=Lib.hid hR2
          clear hd hR2
          go_wp2_with (go_at_call 93;refine (def_c (altsW w) _ _ _ _ _ _ _ _ HS'.out HL'.out HO'.out).mono ?_;rw [HD2.out];rintro e w2 ⟨rfl,hb2⟩)
          have hP:=blk_below HP.out hb2
          have hQ:=blk_below HQ.out hb2
          have hB:=below_then HB.out HB.out.size hb2
          refine leaves_cons (f:=92) (args:=#[.pointer (some ⟨w.heap.size,0,none⟩),.pointer (some ⟨w.heap.size + 1,0,none⟩)]) (by simp) (by simp [go_sem]) ?_
          refine (altsRec_panicking _ _ _ _ _ _ _ [] _ w w.heap.size hP hQ (by omega) (Nat.le_refl _) (by omega) hB).mono ?_
          rintro e u' w'' ⟨rfl,rfl,hP2,hQ2,hB2⟩
          refine ⟨_,results_alts rfl rfl hP2 hQ2,?_,hB2⟩
          rw [HR2.out]
          rfl
        | ok q =>
          obtain ⟨r2,out2⟩:=q
          have hR2 : restF en k' r2 out2 = RES:=by rw [← HE'.out,restF,hd]
          have HLE2:=Aside0.mk (defF_le hd)
          have HD2:=Lib.hid hd
          have HR2:=Aside0.mk hR2
          clear hd hR2
          go_wp2_with (go_at_call 93;refine (def_c (altsW w) _ _ _ _ _ _ _ _ HS'.out HL'.out HO'.out).mono ?_;rw [HD2.out];rintro e w2 ⟨rfl,A2,c2,v2,hS2⟩;have HS2:=Aside0.mk hS2;clear hS2)
          go_roundg r2.length
          case measure => have:=HM.out;have:=HLE2.out;simp at *;omega
          case rel => exact ⟨r2,out2,A2,c2,v2,k',rfl,⟨by have:=HLE2.out;have:=HF'.out;simp at *;omega⟩,HR2,⟨by have:=HLE2.out;have:=HL'.out;omega⟩,⟨HLE2.out.2⟩,HS2⟩
end Go.Proofs.Ytmkgcjhimajgiaa


set_option linter.unusedVariables false
set_option linter.unusedSimpArgs false
namespace Go.Proofs.Ytmkgcjhimajgiaa
open Go.RowKit Go.Proofs.YtmkgcjhimajgiaaW.PrintWords

/-- A list with a text,if it has it not. -/
def addF (l : List ByteArray) (s : ByteArray) : List ByteArray:=if (l.any fun y => decide (s = y)) = true then l else l ++ [s]
theorem addF_le (l : List ByteArray) (s : ByteArray) : l.length ≤ (addF l s).length ∧ (addF l s).length ≤ l.length + 1:=by
  unfold addF
  split <;> simp

set_option maxRecDepth 100000 in
set_option maxHeartbeats 1000000 in
theorem added_c (w0 W : World) (base : Nat) (ok : Nat → Prop) (v : Value) (l : List ByteArray) (s : ByteArray) (HR : kStr.R 9 W base ok v l) (HB : Below base w0 W) (hbase : base ≤ W.heap.size) (hl : l.length ≤ 100000) (hfresh : ∀ k,W.heap.size ≤ k → ok k) :
    Calls Try.prog 73 #[v,.string s] W fun e w' => ∃ v',e = .returned v' ∧ Appd kStr 9 w0 W base ok v (addF l s) v' w':=by
  obtain ⟨A,c,rfl⟩:=Kd.R_slice HR
  obtain ⟨_,_,hC⟩:=Kd.R_reads' HR
  have HC:=Aside0.mk hC
  have H:=Aside0.mk HR
  have HBB:=Aside0.mk HB
  have HL:=Aside0.mk hl
  have HF:=Aside0.mk hfresh
  have HBA:=Aside0.mk hbase
  clear hC HR HB hl hfresh hbase
  cases hp : (l.any fun y => decide (s = y)) with
  | true =>
    go_enter Try.func73,Try.ntmps73
    go_wp2_with (go_at_call 94;refine (containsStr_c _ _ _ _ _ HC.out).mono ?_;rw [hp];rintro e w' ⟨rfl,rfl⟩)
    go_ret
    refine ⟨_,rfl,?_⟩
    have hf : addF l s = l:=by unfold addF;rw [hp];rfl
    rw [hf]
    exact ⟨H.out,HBB.out,World.grownBy.refl _ _,Or.inl rfl⟩
  | false =>
    go_enter Try.func73,Try.ntmps73
    go_wp2_with (first | (go_at_call 94;refine (containsStr_c _ _ _ _ _ HC.out).mono ?_;rw [hp];rintro e w' ⟨rfl,rfl⟩) | (at_builtin;refine app_str (w0:=w0) (base:=base) (ok:=ok) (p:=s) rfl rfl H.out HBB.out HBA.out (by have:=HL.out;omega) HF.out rfl (by simp [Act.eval]) ?_;intro v3 w3 A3;obtain ⟨Av3,cv3,rfl⟩:=A3.shape;have HA3:=Aside0.mk A3;clear A3))
    go_ret
    refine ⟨_,rfl,?_⟩
    have hf : addF l s = l ++ [s]:=by unfold addF;rw [hp];rfl
    rw [hf]
    exact HA3.out

set_option maxRecDepth 100000 in
theorem check_ok (p : Int) (W : World) : Calls Try.prog 71 #[.agg #[.int .i64 0,.int .i64 p]] W fun e w' => e = .returned (.tuple #[]) ∧ Below W.heap.size W w':=by
  have HB:=Aside0.mk ((Below.refl W.heap.size W).alloc (Nat.le_refl _) (.cells #[.int .i64 0,.int .i64 p] 89 (0,0)))
  go_enter Try.func71,Try.ntmps71
  go_wp2
  refine bodyPost_end (results_none rfl _ _ _) rfl ?_
  exact ⟨rfl,HB.out⟩
set_option maxRecDepth 100000 in
theorem check_bad (a p : Int) (ha : a ≠ 0) (W : World) : Calls Try.prog 71 #[.agg #[.int .i64 a,.int .i64 p]] W fun e w' => e = .panicked (faultV a p) ∧ Below W.heap.size W w':=by
  have HB:=Aside0.mk ((Below.refl W.heap.size W).alloc (Nat.le_refl _) (.cells #[.int .i64 a,.int .i64 p] 89 (0,0)))
  go_enter Try.func71,Try.ntmps71
  go_wp2
  exact ⟨rfl,rfl,HB.out⟩
end Go.Proofs.Ytmkgcjhimajgiaa

