/- Contracts of functions of the program, and plain laws (texts N17, N18, N19, N20, F8), joined: each theorem says what it proves. -/
import Derived.Test.YtmkgcjhimajgiaaFT
import Derived.Test.YtmkgcjhimajgiaaFA
import Derived.Test.YtmkgcjhimajgiaaFN
import Derived.Test.YtmkgcjhimajgiaaFI
import Derived.Test.YtmkgcjhimajgiaaFH
import Derived.Test.YtmkgcjhimajgiaaFK
set_option linter.unusedVariables false
set_option linter.unusedSimpArgs false
namespace Go.Proofs.Ytmkgcjhimajgiaa
open Go.RowKit Go.Proofs.YtmkgcjhimajgiaaW.PrintWords Go.Proofs.YtmkgcjhimajgiaaW.PrintLast Go.Conc

abbrev aggN (x : Lab) (A : Option Addr) (n c : Nat) : Value:=.agg #[.int .i64 x.sym,.int .i64 x.rule,.int .i64 x.dot,.int .i64 x.i,.int .i64 x.j,.slice A n c]
theorem lab_ne {x y : Lab} (h : ¬ x = y) : x.sym ≠ y.sym ∨ (x.sym = y.sym ∧ x.rule ≠ y.rule) ∨ (x.sym = y.sym ∧ x.rule = y.rule ∧ x.dot ≠ y.dot) ∨ (x.sym = y.sym ∧ x.rule = y.rule ∧ x.dot = y.dot ∧ x.i ≠ y.i) ∨ (x.sym = y.sym ∧ x.rule = y.rule ∧ x.dot = y.dot ∧ x.i = y.i ∧ x.j ≠ y.j):=by
  obtain ⟨a,b,c,d,e⟩:=x
  obtain ⟨a',b',c',d',e'⟩:=y
  simp only [Lab.mk.injEq,not_and] at h ⊢
  by_cases h1 : a = a'
  · by_cases h2 : b = b'
    · by_cases h3 : c = c'
      · by_cases h4 : d = d'
        · exact .inr (.inr (.inr (.inr ⟨h1,h2,h3,h4,h h1 h2 h3 h4⟩)))
        · exact .inr (.inr (.inr (.inl ⟨h1,h2,h3,h4⟩)))
      · exact .inr (.inr (.inl ⟨h1,h2,h3⟩))
    · exact .inr (.inl ⟨h1,h2⟩)
  · exact .inl h1
set_option maxRecDepth 100000 in
set_option maxHeartbeats 4000000 in
theorem alikeN_c (x y : Lab) (A B : Option Addr) (n c m d : Nat) (w : World) :
    Calls Try.prog 65 #[aggN x A n c,aggN y B m d] w fun e w' => e = .returned (.bool (decide (x = y))) ∧ Below w.heap.size w w':=by
  obtain ⟨R,hR⟩ : ∃ R,decide (x = y) = R:=⟨_,rfl⟩
  rw [hR]
  have HB : Aside0 (Below w.heap.size w ((w.alloc (.cells #[.int .i64 x.sym,.int .i64 x.rule,.int .i64 x.dot,.int .i64 x.i,.int .i64 x.j,.slice A n c] 66 (0,0))).alloc (.cells #[.int .i64 y.sym,.int .i64 y.rule,.int .i64 y.dot,.int .i64 y.i,.int .i64 y.j,.slice B m d] 66 (0,0)))):=⟨below_alloc (below_alloc (Below.refl _ _) _) _⟩
  by_cases h : x = y
  · subst h
    obtain rfl : R = true:=by rw [← hR];simp
    clear hR
    have e1 : (x.sym == x.sym) = true:=by simp
    have e2 : (x.rule == x.rule) = true:=by simp
    have e3 : (x.dot == x.dot) = true:=by simp
    have e4 : (x.i == x.i) = true:=by simp
    have e5 : (x.j == x.j) = true:=by simp
    go_enter Try.func65,Try.ntmps65
    go_wp2
    go_ret
    exact ⟨rfl,HB.out⟩
  · obtain rfl : R = false:=by rw [← hR];simpa using h
    clear hR
    obtain ⟨xs,xr,xd,xi,xj⟩:=x
    obtain ⟨ys,yr,yd,yi,yj⟩:=y
    have h0:=lab_ne h
    clear h
    rcases h0 with h | ⟨h1,h⟩ | ⟨h1,h2,h⟩ | ⟨h1,h2,h3,h⟩ | ⟨h1,h2,h3,h4,h⟩
    · simp only at h
      have e1 : (xs == ys) = false:=by simpa using h
      clear h
      go_enter Try.func65,Try.ntmps65
      go_wp2
      go_ret
      exact ⟨rfl,HB.out⟩
    · simp only at h h1
      subst h1
      have e1 : (xs == xs) = true:=by simp
      have e2 : (xr == yr) = false:=by simpa using h
      clear h
      go_enter Try.func65,Try.ntmps65
      go_wp2
      go_ret
      exact ⟨rfl,HB.out⟩
    · simp only at h h1 h2
      subst h1 h2
      have e1 : (xs == xs) = true:=by simp
      have e2 : (xr == xr) = true:=by simp
      have e3 : (xd == yd) = false:=by simpa using h
      clear h
      go_enter Try.func65,Try.ntmps65
      go_wp2
      go_ret
      exact ⟨rfl,HB.out⟩
    · simp only at h h1 h2 h3
      subst h1 h2 h3
      have e1 : (xs == xs) = true:=by simp
      have e2 : (xr == xr) = true:=by simp
      have e3 : (xd == xd) = true:=by simp
      have e4 : (xi == yi) = false:=by simpa using h
      clear h
      go_enter Try.func65,Try.ntmps65
      go_wp2
      go_ret
      exact ⟨rfl,HB.out⟩
    · simp only at h h1 h2 h3 h4
      subst h1 h2 h3 h4
      have e1 : (xs == xs) = true:=by simp
      have e2 : (xr == xr) = true:=by simp
      have e3 : (xd == xd) = true:=by simp
      have e4 : (xi == xi) = true:=by simp
      have e5 : (xj == yj) = false:=by simpa using h
      clear h
      go_enter Try.func65,Try.ntmps65
      go_wp2
      go_ret
      exact ⟨rfl,HB.out⟩
/-- A function value that answers a question on nodes. -/
structure PredN (w0 : World) (fv : Value) (p : Nod → Bool) (l : List Nod) : Prop where
  ex : ∃ f first cap,fv = .func (.func f) first cap ∧ (∀ args w,(callFunc f args).run Try.prog w = .ok (.enter f args) w) ∧ ∀ x,x ∈ l → ∀ W A c,Below w0.heap.size w0 W → x.packs.length ≤ c → kPk.C W A x.packs.length x.packs →
    Calls Try.prog f (first.push (aggN x.lab A x.packs.length c) ++ cap) W fun e W' => e = .returned (.bool (p x)) ∧ Below W.heap.size W W'
set_option maxRecDepth 100000 in
set_option maxHeartbeats 1000000 in
theorem indexFuncNode_c (A : Option Addr) (c : Nat) (l : List Nod) (fv : Value) (p : Nod → Bool) (w : World) (hr : kNode.C w A l.length l) (hp : PredN w fv p l) :
    Calls Try.prog 63 #[.slice A l.length c,fv] w fun e w' => e = .returned (.int .i64 (posF p l 0)) ∧ Below w.heap.size w w':=by
  have hm:=C_max hr
  have HR:=Aside0.mk hr
  clear hr
  obtain ⟨f,first,cap,rfl,hcf,hcall⟩:=hp.ex
  have HC:=Aside0.mk hcall
  clear hcall hp
  obtain ⟨R,hR⟩ : ∃ R,posF p l 0 = R:=⟨_,rfl⟩
  rw [hR]
  have HE:=Aside0.mk hR
  clear hR
  go_enter Try.func63,Try.ntmps63
  go_wp2
  go_loopw [8] (fun i wr => ∃ k : Nat,k ≤ l.length ∧ i = .int .i64 k ∧ Aside0 (posF p (l.drop k) k = R) ∧ Aside0 (Below w.heap.size w wr)) (fun i _ => l.length - (intOf i).toNat)
  case atStart => exact ⟨0,Nat.zero_le _,rfl,⟨HE.out⟩,⟨Below.refl _ _⟩⟩
  case round =>
    obtain ⟨k,hk,rfl,HI,HB⟩:=hrel
    by_cases hlt : k < l.length
    · obtain ⟨ad,Ap,cp,ead,hx0,hx1,hx2,hx3,hx4,hx5,hcp,hCp⟩:=at_node (Kd.C_below HR.out HB.out) k hlt
      cases ead
      have HK:=Aside0.mk (HC.out (l[k]'hlt) (List.getElem_mem _) wr Ap cp HB.out hcp hCp)
      unfold aggN at HK
      clear hcp hCp
      cases hp : p (l[k]'hlt)
      · have HS:=Aside0.mk (posF_step hlt HI.out hp)
        go_wp2_with (refine HK.out.mono ?_;rw [hp];rintro e w1 ⟨rfl,hb1⟩)
        go_roundw
        case rel => exact ⟨k + 1,by omega,by go_num,HS,⟨below_then HB.out HB.out.size hb1⟩⟩
        case measure => simp [intOf];omega
      · have HS:=Aside0.mk (posF_hit hlt HI.out hp)
        go_wp2_with (refine HK.out.mono ?_;rw [hp];rintro e w1 ⟨rfl,hb1⟩)
        go_ret
        exact ⟨ret_int HS.out.symm,below_then HB.out HB.out.size hb1⟩
    · have HS:=Aside0.mk (posF_end (by omega) HI.out)
      go_wp2
      go_ret
      exact ⟨ret_int HS.out.symm,HB.out⟩
/-- Where a node is. -/
def posN (F : Forest) (x : Lab) : Int:=posF (fun y : Nod => decide (y.lab = x)) F 0
set_option maxRecDepth 100000 in
set_option maxHeartbeats 2000000 in
theorem find1_c (x : Lab) (B : Option Addr) (m d b : Nat) (y : Lab) (A : Option Addr) (n c : Nat) (W : World) (hb : W.heap[b]? = some (.cells #[.int .i64 x.sym,.int .i64 x.rule,.int .i64 x.dot,.int .i64 x.i,.int .i64 x.j,.slice B m d] 66 (0,0))) :
    Calls Try.prog 64 #[aggN y A n c,.pointer (some ⟨b,0,none⟩)] W fun e W' => e = .returned (.bool (decide (y = x))) ∧ Below W.heap.size W W':=by
  have HB:=Aside0.mk hb
  have HC : Aside0 (∀ W,Calls Try.prog 65 #[aggN y A n c,aggN x B m d] W fun e w' => e = .returned (.bool (decide (y = x))) ∧ Below W.heap.size W w'):=⟨fun W => alikeN_c y x A B n c m d W⟩
  generalize decide (y = x) = R at HC ⊢
  unfold aggN at HC
  have HB1:=Aside0.mk (blk_alloc hb (.cells #[.int .i64 y.sym,.int .i64 y.rule,.int .i64 y.dot,.int .i64 y.i,.int .i64 y.j,.slice A n c] 66 (0,0)))
  have HX1:=Aside0.mk (blk_new W (.cells #[.int .i64 y.sym,.int .i64 y.rule,.int .i64 y.dot,.int .i64 y.i,.int .i64 y.j,.slice A n c] 66 (0,0)))
  have HBL:=Aside0.mk (below_alloc (Below.refl W.heap.size W) (.cells #[.int .i64 y.sym,.int .i64 y.rule,.int .i64 y.dot,.int .i64 y.i,.int .i64 y.j,.slice A n c] 66 (0,0)))
  have d0:=(blk_cell HB1.out 0).trans rfl
  have c0:=(blk_cell HX1.out 0).trans rfl
  have d1:=(blk_cell HB1.out 1).trans rfl
  have c1:=(blk_cell HX1.out 1).trans rfl
  have d2:=(blk_cell HB1.out 2).trans rfl
  have c2:=(blk_cell HX1.out 2).trans rfl
  have d3:=(blk_cell HB1.out 3).trans rfl
  have c3:=(blk_cell HX1.out 3).trans rfl
  have d4:=(blk_cell HB1.out 4).trans rfl
  have c4:=(blk_cell HX1.out 4).trans rfl
  have d5:=(blk_cell HB1.out 5).trans rfl
  have c5:=(blk_cell HX1.out 5).trans rfl
  clear hb
  go_enter Try.func64,Try.ntmps64
  go_wp2_with (go_at_call 65;go_loud (refine (HC.out _).mono ?_;rintro e w1 ⟨rfl,hb1⟩))
  go_ret
  exact ⟨rfl,below_then HBL.out HBL.out.size hb1⟩
set_option maxRecDepth 100000 in
set_option maxHeartbeats 2000000 in
theorem find_c (A : Option Addr) (c : Nat) (F : Forest) (x : Lab) (B : Option Addr) (m d : Nat) (w : World) (hr : kNode.C w A F.length F) :
    Calls Try.prog 38 #[.agg #[.slice A F.length c],aggN x B m d] w fun e w' => e = .returned (.tuple #[.int .i64 (if 0 ≤ posN F x then posN F x else 0),.bool (decide (0 ≤ posN F x))]) ∧ Below w.heap.size w w':=by
  obtain ⟨v0,hv0⟩ : ∃ v0 : World,v0 = (w.alloc (.cells #[.slice A F.length c] 63 (0,0))).alloc (.cells #[.int .i64 x.sym,.int .i64 x.rule,.int .i64 x.dot,.int .i64 x.i,.int .i64 x.j,.slice B m d] 66 (0,0)):=⟨_,rfl⟩
  have HB0 : Aside0 (Below w.heap.size w v0):=⟨by rw [hv0];exact below_alloc (below_alloc (Below.refl _ _) _) _⟩
  have HP0 : Aside0 (v0.heap[w.heap.size]? = some (.cells #[.slice A F.length c] 63 (0,0))):=⟨by rw [hv0];exact blk_alloc (blk_new w _) _⟩
  have HQ0 : Aside0 (v0.heap[w.heap.size + 1]? = some (.cells #[.int .i64 x.sym,.int .i64 x.rule,.int .i64 x.dot,.int .i64 x.i,.int .i64 x.j,.slice B m d] 66 (0,0))):=⟨by rw [hv0];exact blk_snd _ _ _⟩
  have HR:=Aside0.mk (Kd.C_below hr HB0.out)
  obtain ⟨R,hR⟩ : ∃ R,posN F x = R:=⟨_,rfl⟩
  have HIX:=Aside0.mk (indexFuncNode_c A c F (.func (.func 64) #[] #[.pointer (some ⟨w.heap.size + 1,0,none⟩)]) (fun y : Nod => decide (y.lab = x)) v0 HR.out ⟨⟨_,_,_,rfl,fun _ _ => rfl,fun y _ W A' c' hb _ _ => find1_c x B m d (w.heap.size + 1) y.lab A' y.packs.length c' W (blk_below HQ0.out hb)⟩⟩)
  rw [show posF (fun y : Nod => decide (y.lab = x)) F 0 = R from hR] at HIX
  rw [hR]
  have a0:=(blk_cell HP0.out 0).trans rfl
  have hmf : ∀ (fn : Fn) (first cap : Array Value) (w : World),(Instr.makeFunc fn first cap).run Try.prog w = .ok (.func fn first cap) w:=fun _ _ _ _ => rfl
  clear hr hR
  by_cases h0 : 0 ≤ R
  · rw [if_pos h0,decide_eq_true h0]
    go_enter Try.func38,Try.ntmps38
    go_upto_region 1 with (fail)
    simp only [← hv0]
    clear hv0
    go_wp2_with (go_at_call 63;go_loud (refine HIX.out.mono ?_;rintro e w1 ⟨rfl,hb1⟩))
    all_goals first | (exfalso;omega) | skip
    all_goals (go_ret2;refine ⟨?_,below_then HB0.out HB0.out.size hb1⟩;first | rfl | (rw [show R = 0 by omega]))
  · rw [if_neg h0,decide_eq_false h0]
    have h1 : decide (0 ≤ R) = false:=decide_eq_false h0
    go_enter Try.func38,Try.ntmps38
    go_upto_region 1 with (fail)
    simp only [← hv0]
    clear hv0
    go_wp2_with (go_at_call 63;go_loud (refine HIX.out.mono ?_;rintro e w1 ⟨rfl,hb1⟩))
    all_goals first | (exfalso;omega) | skip
    all_goals (go_ret2;exact ⟨rfl,below_then HB0.out HB0.out.size hb1⟩)
theorem pk_if {α : Type} (a b : PackN) (x y : α) : (if a.rule = b.rule then if a.pivot = b.pivot then if a.left = b.left then if a.right = b.right then x else y else y else y else y) = if a = b then x else y:=by
  obtain ⟨a1,a2,a3,a4⟩:=a
  obtain ⟨b1,b2,b3,b4⟩:=b
  simp only [PackN.mk.injEq]
  split <;> split <;> (try split) <;> (try split) <;> simp_all
theorem pk_bool {α : Type} (a b : PackN) (f : Bool → α) {R : Bool} (h : (!decide (a = b)) = R) : (if a = b then f false else f true) = f R:=by
  subst h
  split <;> simp_all
set_option maxRecDepth 100000 in
set_option maxHeartbeats 1000000 in
theorem equalPack_c (A B : Option Addr) (c d : Nat) (xs ys : List PackN) (w : World) (hr : kPk.C w A xs.length xs) (hs : kPk.C w B ys.length ys) :
    Calls Try.prog 68 #[.slice A xs.length c,.slice B ys.length d] w fun e w' => e = .returned (.bool (decide (xs = ys))) ∧ Below w.heap.size w w':=by
  have hm:=C_max hr
  have hm2:=C_max hs
  have HR:=Aside0.mk hr
  have HS:=Aside0.mk hs
  clear hr hs
  by_cases hl : xs.length = ys.length
  · have hlb : ((xs.length : Int) != (ys.length : Int)) = false:=by rw [hl];simp
    have HL:=Lib.hid hl
    clear hl
    go_enter Try.func68,Try.ntmps68
    go_wp2
    go_loopw [13] (fun i wr => ∃ k : Nat,k ≤ xs.length ∧ i = .int .i64 k ∧ Aside0 (∀ j (hj : j < xs.length),j < k → xs[j] = ys[j]'(by have:=HL.out;omega)) ∧ Aside0 (Below w.heap.size w wr)) (fun i _ => xs.length - (intOf i).toNat)
    case atStart => exact ⟨0,Nat.zero_le _,rfl,⟨by intro j hj h;omega⟩,⟨Below.refl _ _⟩⟩
    case round =>
      obtain ⟨k,hk,rfl,HI,HB⟩:=hrel
      rename World => wk
      by_cases hlt : k < xs.length
      · have hlt2 : k < ys.length:=by have:=HL.out;omega
        obtain ⟨ad,ead,hx0,hx1,hx2,hx3⟩:=at_pk (Kd.C_below HR.out HB.out) k hlt
        obtain ⟨bd,ebd,hy0,hy1,hy2,hy3⟩:=at_pk (Kd.C_below HS.out HB.out) k hlt2
        cases ead
        cases ebd
        have i1 : (0 : Int) ≤ (k : Int):=by omega
        have i2 : (k : Int) < (xs.length : Int):=by omega
        have i3 : (k : Int) < (ys.length : Int):=by omega
        obtain ⟨R,hR⟩ : ∃ R,(!decide (xs[k]'hlt = ys[k]'hlt2)) = R:=⟨_,rfl⟩
        have HRR:=Lib.hid hR
        clear hR
        go_upto_region 6 with (fail)
        refine start_ (n:=9) (S:=fun w' => Below wk.heap.size wk w') (ds:=[]) (lb 9 0x0) (by kernel_rfl) rfl (by kernel_rfl) (below_drew1 (Below.refl _ _)) (fun hHeld => ?_)
        refine pu_ ?_ ?_ 0 (some 16) (lb 9 0x1) ?_
        refine pu_ ?_ ?_ 1 (some 17) (lb 9 0x3) ?_
        refine pu_ ?_ ?_ 2 (some 18) (lb 9 0x7) ?_
        refine pu_ ?_ ?_ 4 (some 20) (lb 9 0x17) ?_
        refine pu_ ?_ ?_ 5 (some 21) (lb 9 0x37) ?_
        refine pu_ ?_ ?_ 6 (some 22) (lb 9 0x77) ?_
        refine ta_ ?_ ?_ 3 (some 19) (lb 9 0x7f) hHeld ?_ (y:=by rintro w' hS;have d0:=cell_at hS hx0;have d1:=cell_at hS hx1;have d2:=cell_at hS hx2;have d3:=cell_at hS hx3;have d4:=cell_at hS hy0;have d5:=cell_at hS hy1;have d6:=cell_at hS hy2;have d7:=cell_at hS hy3;go_simp;with_reducible rfl)
        refine ta_ ?_ ?_ 7 (some 23) (lb 9 0xff) hHeld ?_ (y:=by rintro w' hS;have d0:=cell_at hS hx0;have d1:=cell_at hS hx1;have d2:=cell_at hS hx2;have d3:=cell_at hS hx3;have d4:=cell_at hS hy0;have d5:=cell_at hS hy1;have d6:=cell_at hS hy2;have d7:=cell_at hS hy3;go_simp;with_reducible rfl)
        refine pu_ (.bool R) ?_ 8 (some 24) (lb 9 0x1ff) ?_ (hy:=by intro w';go_simp;rw [pk_if];exact pk_bool _ _ (fun b => Result.ok (Next.value (.bool b)) w') HRR.out)
        refine done_ (by kernel_rfl) ?_
        have HB2:=Aside0.mk (below_then HB.out HB.out.size hHeld)
        clear hHeld
        cases R
        · have HE : Aside0 (xs[k]'hlt = ys[k]'hlt2):=⟨by have:=HRR.out;simpa using this⟩
          go_wp2
          go_roundw
          case rel => exact ⟨k + 1,by omega,by go_num,⟨fun j hj hjk => by
            rcases Nat.lt_or_ge j k with h | h
            · exact HI.out j hj h
            · obtain rfl : j = k:=by omega
              exact HE.out⟩,HB2⟩
          case measure => simp [intOf];omega
        · have HE : Aside0 (¬ (xs[k]'hlt) = (ys[k]'hlt2)):=⟨by have:=HRR.out;simpa using this⟩
          go_wp2
          go_ret
          exact ⟨ret_bool (by symm;rw [decide_eq_false_iff_not];rintro rfl;exact HE.out rfl),HB2.out⟩
      · go_wp2
        go_ret
        exact ⟨ret_bool (by symm;rw [decide_eq_true_eq];exact List.ext_getElem HL.out (fun j hj _ => HI.out j hj (by omega))),HB.out⟩
  · have hlb : ((xs.length : Int) != (ys.length : Int)) = true:=by simp;omega
    have HL:=Aside0.mk hl
    clear hl
    go_enter Try.func68,Try.ntmps68
    go_wp2
    go_ret
    exact ⟨ret_bool (by symm;rw [decide_eq_false_iff_not];rintro rfl;exact HL.out rfl),Below.refl _ _⟩
end Go.Proofs.Ytmkgcjhimajgiaa


set_option linter.unusedVariables false
set_option linter.unusedSimpArgs false
namespace Go.Proofs.Ytmkgcjhimajgiaa
open Go.RowKit Go.Proofs.YtmkgcjhimajgiaaW.PrintWords Go.Proofs.YtmkgcjhimajgiaaW.PrintLast Go.Conc

theorem nod_eq (x y : Nod) : decide (x = y) = (decide (x.lab = y.lab) && decide (x.packs = y.packs)):=by
  obtain ⟨a,b⟩:=x
  obtain ⟨c,d⟩:=y
  rw [Bool.eq_iff_iff]
  simp
set_option maxRecDepth 100000 in
set_option maxHeartbeats 2000000 in
theorem goodN_c (x y : Nod) (A B : Option Addr) (c d : Nat) (W : World) (hx : kPk.C W A x.packs.length x.packs) (hy : kPk.C W B y.packs.length y.packs) :
    Calls Try.prog 67 #[aggN x.lab A x.packs.length c,aggN y.lab B y.packs.length d] W fun e W' => e = .returned (.bool (decide (x = y))) ∧ Below W.heap.size W W':=by
  rw [nod_eq]
  obtain ⟨v0,hv0⟩ : ∃ v0 : World,v0 = (W.alloc (.cells #[.int .i64 x.lab.sym,.int .i64 x.lab.rule,.int .i64 x.lab.dot,.int .i64 x.lab.i,.int .i64 x.lab.j,.slice A x.packs.length c] 66 (0,0))).alloc (.cells #[.int .i64 y.lab.sym,.int .i64 y.lab.rule,.int .i64 y.lab.dot,.int .i64 y.lab.i,.int .i64 y.lab.j,.slice B y.packs.length d] 66 (0,0)):=⟨_,rfl⟩
  have HB0 : Aside0 (Below W.heap.size W v0):=⟨by rw [hv0];exact below_alloc (below_alloc (Below.refl _ _) _) _⟩
  have HP0 : Aside0 (v0.heap[W.heap.size]? = some (.cells #[.int .i64 x.lab.sym,.int .i64 x.lab.rule,.int .i64 x.lab.dot,.int .i64 x.lab.i,.int .i64 x.lab.j,.slice A x.packs.length c] 66 (0,0))):=⟨by rw [hv0];exact blk_alloc (blk_new W _) _⟩
  have HQ0 : Aside0 (v0.heap[W.heap.size + 1]? = some (.cells #[.int .i64 y.lab.sym,.int .i64 y.lab.rule,.int .i64 y.lab.dot,.int .i64 y.lab.i,.int .i64 y.lab.j,.slice B y.packs.length d] 66 (0,0))):=⟨by rw [hv0];exact blk_snd _ _ _⟩
  have HX:=Aside0.mk (Kd.C_below hx HB0.out)
  have HY:=Aside0.mk (Kd.C_below hy HB0.out)
  have HC : Aside0 (∀ W,Calls Try.prog 65 #[aggN x.lab A x.packs.length c,aggN y.lab B y.packs.length d] W fun e w' => e = .returned (.bool (decide (x.lab = y.lab))) ∧ Below W.heap.size W w'):=⟨fun W => alikeN_c x.lab y.lab A B _ c _ d W⟩
  have HE : Aside0 (∀ W,Below v0.heap.size v0 W → Calls Try.prog 68 #[.slice A x.packs.length c,.slice B y.packs.length d] W fun e w' => e = .returned (.bool (decide (x.packs = y.packs))) ∧ Below W.heap.size W w'):=⟨fun W hb => equalPack_c A B c d x.packs y.packs W (Kd.C_below HX.out hb) (Kd.C_below HY.out hb)⟩
  generalize decide (x.lab = y.lab) = R1 at HC ⊢
  generalize decide (x.packs = y.packs) = R2 at HE ⊢
  unfold aggN at HC
  obtain ⟨x0,hx0⟩ : ∃ x0,x0 = W.heap.size:=⟨_,rfl⟩
  obtain ⟨x1,hx1⟩ : ∃ x1,x1 = W.heap.size + 1:=⟨_,rfl⟩
  rw [← hx0] at HP0
  rw [← hx1] at HQ0
  have c0:=(blk_cell HP0.out 0).trans rfl
  have d0:=(blk_cell HQ0.out 0).trans rfl
  have c1:=(blk_cell HP0.out 1).trans rfl
  have d1:=(blk_cell HQ0.out 1).trans rfl
  have c2:=(blk_cell HP0.out 2).trans rfl
  have d2:=(blk_cell HQ0.out 2).trans rfl
  have c3:=(blk_cell HP0.out 3).trans rfl
  have d3:=(blk_cell HQ0.out 3).trans rfl
  have c4:=(blk_cell HP0.out 4).trans rfl
  have d4:=(blk_cell HQ0.out 4).trans rfl
  have c5:=(blk_cell HP0.out 5).trans rfl
  have d5:=(blk_cell HQ0.out 5).trans rfl
  clear hx hy
  cases R1
  · go_enter Try.func67,Try.ntmps67
    go_upto_region 1 with (fail)
    simp only [← hv0]
    simp only [← hx1]
    simp only [← hx0]
    clear hv0 hx0 hx1
    go_wp2_with (go_at_call 65;go_loud (refine (HC.out _).mono ?_;rintro e w1 ⟨rfl,hb1⟩))
    go_ret
    exact ⟨rfl,below_then HB0.out HB0.out.size hb1⟩
  · go_enter Try.func67,Try.ntmps67
    go_upto_region 1 with (fail)
    simp only [← hv0]
    simp only [← hx1]
    simp only [← hx0]
    clear hv0 hx0 hx1
    go_wp2_with (first | (have hx:=HB1.out;go_at_call 68;go_loud (refine (HE.out _ HB1.out).mono ?_;rintro e w2 ⟨rfl,hb2⟩)) | (go_at_call 65;go_loud (refine (HC.out _).mono ?_;rintro e w1 ⟨rfl,hb1⟩;have HB1:=Aside0.mk hb1;have e5:=(blk_cell (blk_below HP0.out hb1) 5).trans rfl;have g5:=(blk_cell (blk_below HQ0.out hb1) 5).trans rfl;clear hb1)))
    go_ret
    exact ⟨by simp only [Bool.true_and];rfl,below_then HB0.out HB0.out.size (below_then HB1.out HB1.out.size hb2)⟩
set_option maxRecDepth 100000 in
set_option maxHeartbeats 2000000 in
theorem equalFunc_c (A B : Option Addr) (c d : Nat) (xs ys : Forest) (w : World) (hr : kNode.C w A xs.length xs) (hs : kNode.C w B ys.length ys) :
    Calls Try.prog 66 #[.slice A xs.length c,.slice B ys.length d,.func (.func 67) #[] #[]] w fun e w' => e = .returned (.bool (decide (xs = ys))) ∧ Below w.heap.size w w':=by
  have hm:=C_max hr
  have hm2:=C_max hs
  have HR:=Aside0.mk hr
  have HS:=Aside0.mk hs
  clear hr hs
  by_cases hl : xs.length = ys.length
  · have hlb : ((xs.length : Int) != (ys.length : Int)) = false:=by rw [hl];simp
    have HL:=Lib.hid hl
    clear hl
    go_enter Try.func66,Try.ntmps66
    go_wp2
    go_loopw [17] (fun i wr => ∃ k : Nat,k ≤ xs.length ∧ i = .int .i64 k ∧ Aside0 (∀ j (hj : j < xs.length),j < k → xs[j] = ys[j]'(by have:=HL.out;omega)) ∧ Aside0 (Below w.heap.size w wr)) (fun i _ => xs.length - (intOf i).toNat)
    case atStart => exact ⟨0,Nat.zero_le _,rfl,⟨by intro j hj h;omega⟩,⟨Below.refl _ _⟩⟩
    case round =>
      obtain ⟨k,hk,rfl,HI,HB⟩:=hrel
      rename World => wk
      by_cases hlt : k < xs.length
      · have hlt2 : k < ys.length:=by have:=HL.out;omega
        obtain ⟨ad,Ap,cp,ead,hx0,hx1,hx2,hx3,hx4,hx5,hcp,hCp⟩:=at_node (Kd.C_below HR.out HB.out) k hlt
        obtain ⟨bd,Aq,cq,ebd,hy0,hy1,hy2,hy3,hy4,hy5,hcq,hCq⟩:=at_node (Kd.C_below HS.out HB.out) k hlt2
        cases ead
        cases ebd
        obtain ⟨p,hp⟩ : ∃ p,p = xs[k]'hlt:=⟨_,rfl⟩
        obtain ⟨q,hq⟩ : ∃ q,q = ys[k]'hlt2:=⟨_,rfl⟩
        rw [← hp] at hx0 hx1 hx2 hx3 hx4 hx5 hcp hCp
        rw [← hq] at hy0 hy1 hy2 hy3 hy4 hy5 hcq hCq
        have HPQ:=Lib.hid (And.intro hp hq)
        have i1 : (0 : Int) ≤ (k : Int):=by omega
        have i2 : (k : Int) < (xs.length : Int):=by omega
        have i3 : (k : Int) < (ys.length : Int):=by omega
        obtain ⟨w1,hw1⟩ : ∃ w1 : World,w1 = (wk.alloc (.cells #[.int .i64 p.lab.sym,.int .i64 p.lab.rule,.int .i64 p.lab.dot,.int .i64 p.lab.i,.int .i64 p.lab.j,.slice Ap p.packs.length cp] 66 (0,0))):=⟨_,rfl⟩
        obtain ⟨w2,hw2⟩ : ∃ w2 : World,w2 = (w1.alloc (.cells #[.int .i64 q.lab.sym,.int .i64 q.lab.rule,.int .i64 q.lab.dot,.int .i64 q.lab.i,.int .i64 q.lab.j,.slice Aq q.packs.length cq] 66 (0,0))):=⟨_,rfl⟩
        have hB1 : Below wk.heap.size wk w1:=by rw [hw1];exact below_alloc (Below.refl _ _) _
        have hB2 : Below wk.heap.size wk w2:=by rw [hw2];exact below_alloc hB1 _
        have HB2:=Aside0.mk (below_then HB.out HB.out.size hB2)
        obtain ⟨x0,hx0'⟩ : ∃ x0,x0 = wk.heap.size:=⟨_,rfl⟩
        obtain ⟨x1,hx1'⟩ : ∃ x1,x1 = w1.heap.size:=⟨_,rfl⟩
        have HP0 : Aside0 (w2.heap[x0]? = some (.cells #[.int .i64 p.lab.sym,.int .i64 p.lab.rule,.int .i64 p.lab.dot,.int .i64 p.lab.i,.int .i64 p.lab.j,.slice Ap p.packs.length cp] 66 (0,0))):=⟨by rw [hw2,hw1,hx0'];exact blk_alloc (blk_new wk _) _⟩
        have HQ0 : Aside0 (w2.heap[x1]? = some (.cells #[.int .i64 q.lab.sym,.int .i64 q.lab.rule,.int .i64 q.lab.dot,.int .i64 q.lab.i,.int .i64 q.lab.j,.slice Aq q.packs.length cq] 66 (0,0))):=⟨by rw [hw2,hx1'];exact blk_new w1 _⟩
        have f0:=(pw_cell_below hB1 hy0)
        have f1:=(pw_cell_below hB1 hy1)
        have f2:=(pw_cell_below hB1 hy2)
        have f3:=(pw_cell_below hB1 hy3)
        have f4:=(pw_cell_below hB1 hy4)
        have f5:=(pw_cell_below hB1 hy5)
        have HC:=Aside0.mk (goodN_c p q Ap Aq cp cq w2 (Kd.C_below hCp hB2) (Kd.C_below hCq hB2))
        obtain ⟨R,hR⟩ : ∃ R,decide (p = q) = R:=⟨_,rfl⟩
        rw [hR] at HC
        have HRR:=Lib.hid hR
        unfold aggN at HC
        have c0:=(blk_cell HP0.out 0).trans rfl
        have d0:=(blk_cell HQ0.out 0).trans rfl
        have c1:=(blk_cell HP0.out 1).trans rfl
        have d1:=(blk_cell HQ0.out 1).trans rfl
        have c2:=(blk_cell HP0.out 2).trans rfl
        have d2:=(blk_cell HQ0.out 2).trans rfl
        have c3:=(blk_cell HP0.out 3).trans rfl
        have d3:=(blk_cell HQ0.out 3).trans rfl
        have c4:=(blk_cell HP0.out 4).trans rfl
        have d4:=(blk_cell HQ0.out 4).trans rfl
        have c5:=(blk_cell HP0.out 5).trans rfl
        have d5:=(blk_cell HQ0.out 5).trans rfl
        clear hR hcp hCp hcq hCq hB1 hB2 hp hq
        cases R
        · have HE : Aside0 (¬ (xs[k]'hlt) = (ys[k]'hlt2)):=⟨by have h1:=HPQ.out;have h2:=HRR.out;rw [← h1.1,← h1.2];simpa using h2⟩
          go_upto_region 6 with (fail)
          simp only [← hw1]
          simp only [← hx0']
          clear hw1 hx0'
          go_upto_region 7 with (fail)
          simp only [← hw2]
          simp only [← hx1']
          clear hw2 hx1' hx0 hx1 hx2 hx3 hx4 hx5 hy0 hy1 hy2 hy3 hy4 hy5 f0 f1 f2 f3 f4 f5
          go_wp2_with (refine HC.out.mono ?_;rintro e w3 ⟨rfl,hb3⟩)
          go_ret
          exact ⟨ret_bool (by symm;rw [decide_eq_false_iff_not];rintro rfl;exact HE.out rfl),below_then HB2.out HB2.out.size hb3⟩
        · have HE : Aside0 ((xs[k]'hlt) = (ys[k]'hlt2)):=⟨by have h1:=HPQ.out;have h2:=HRR.out;rw [← h1.1,← h1.2];simpa using h2⟩
          go_upto_region 6 with (fail)
          simp only [← hw1]
          simp only [← hx0']
          clear hw1 hx0'
          go_upto_region 7 with (fail)
          simp only [← hw2]
          simp only [← hx1']
          clear hw2 hx1' hx0 hx1 hx2 hx3 hx4 hx5 hy0 hy1 hy2 hy3 hy4 hy5 f0 f1 f2 f3 f4 f5
          go_wp2_with (refine HC.out.mono ?_;rintro e w3 ⟨rfl,hb3⟩)
          go_roundw
          case rel => exact ⟨k + 1,by omega,by go_num,⟨fun j hj hjk => by
            rcases Nat.lt_or_ge j k with h | h
            · exact HI.out j hj h
            · obtain rfl : j = k:=by omega
              exact HE.out⟩,⟨below_then HB2.out HB2.out.size hb3⟩⟩
          case measure => simp [intOf];omega
      · go_wp2
        go_ret
        exact ⟨ret_bool (by symm;rw [decide_eq_true_eq];exact List.ext_getElem HL.out (fun j hj _ => HI.out j hj (by omega))),HB.out⟩
  · have hlb : ((xs.length : Int) != (ys.length : Int)) = true:=by simp;omega
    have HL:=Aside0.mk hl
    clear hl
    go_enter Try.func66,Try.ntmps66
    go_wp2
    go_ret
    exact ⟨ret_bool (by symm;rw [decide_eq_false_iff_not];rintro rfl;exact HL.out rfl),Below.refl _ _⟩
/-- Is a forest the word's? -/
noncomputable def goodFo (g : Gram) (l : List Int) (F : Forest) : Bool:=decide (forE g l 4000 = 0) && decide (F = forF g l 4000)
set_option maxRecDepth 100000 in
set_option maxHeartbeats 4000000 in
theorem goodFo_c (g : Gram) (A1 A2 A3 : Option Addr) (c1 c2 c3 : Nat) (B : Option Addr) (d : Nat) (l : List Int) (A : Option Addr) (c : Nat) (F : Forest) (w : World) (hg : RepG w g A1 A2 A3 c1 c2 c3) (hr : kInt.C w B l.length l) (hin : ∀ x ∈ l,-9223372036854775808 ≤ x ∧ x ≤ 9223372036854775807) (hF : kNode.C w A F.length F) :
    Calls Try.prog 40 #[.agg #[.slice A1 g.terms.length c1,.slice A2 g.names.length c2,.slice A3 g.rules.length c3],.slice B l.length d,.agg #[.slice A F.length c]] w fun e w' => e = .returned (.bool (goodFo g l F)) ∧ Below w.heap.size w w':=by
  obtain ⟨v0,hv0⟩ : ∃ v0 : World,v0 = (w.alloc (.cells #[.slice A1 g.terms.length c1,.slice A2 g.names.length c2,.slice A3 g.rules.length c3] 25 (0,0))).alloc (.cells #[.slice A F.length c] 63 (0,0)):=⟨_,rfl⟩
  have HB0 : Aside0 (Below w.heap.size w v0):=⟨by rw [hv0];exact below_alloc (below_alloc (Below.refl _ _) _) _⟩
  have HP0 : Aside0 (v0.heap[w.heap.size]? = some (.cells #[.slice A1 g.terms.length c1,.slice A2 g.names.length c2,.slice A3 g.rules.length c3] 25 (0,0))):=⟨by rw [hv0];exact blk_alloc (blk_new w _) _⟩
  have HQ0 : Aside0 (v0.heap[w.heap.size + 1]? = some (.cells #[.slice A F.length c] 63 (0,0))):=⟨by rw [hv0];exact blk_snd _ _ _⟩
  have HF:=Aside0.mk (Kd.C_below hF HB0.out)
  have HO:=Aside0.mk (fo_c g A1 A2 A3 c1 c2 c3 B d l 4000 v0 (hg.below_ HB0.out) (Kd.C_below hr HB0.out) hin ⟨by omega,by omega⟩)
  obtain ⟨x1,hx1⟩ : ∃ x1,x1 = w.heap.size + 1:=⟨_,rfl⟩
  rw [← hx1] at HQ0
  obtain ⟨G,hG⟩ : ∃ G,goodFo g l F = G:=⟨_,rfl⟩
  rw [hG]
  have HG : Aside0 ((decide (forE g l 4000 = 0) && decide (F = forF g l 4000)) = G):=⟨hG⟩
  generalize forE g l 4000 = x at HO HG
  generalize forF g l 4000 = F2 at HO HG
  have a0:=(blk_cell HP0.out 0).trans rfl
  have a1:=(blk_cell HP0.out 1).trans rfl
  have a2:=(blk_cell HP0.out 2).trans rfl
  clear hg hr hin hF hG
  by_cases h0 : x = 0
  · subst h0
    have HG2 : Aside0 (decide (F = F2) = G):=⟨by rw [← HG.out];simp⟩
    go_enter Try.func40,Try.ntmps40
    go_upto_region 1 with (fail)
    simp only [← hv0]
    clear hv0
    simp only [← hx1]
    clear hx1
    go_upto_region 2 with (go_at_call 34;go_loud (refine HO.out.mono ?_;rintro e w1 ⟨⟨A2',c2',rfl,hc2,hC2⟩,hb1⟩))
    have HB1:=Aside0.mk (below_then HB0.out HB0.out.size hb1)
    have HB2:=Aside0.mk (below_alloc (Below.refl w1.heap.size w1) (.cells #[.slice A2' F2.length c2'] 63 (0,0)))
    have HE:=Aside0.mk (equalFunc_c A A2' c c2' F F2 (w1.alloc (.cells #[.slice A2' F2.length c2'] 63 (0,0))) (Kd.C_below (Kd.C_below HF.out hb1) HB2.out) (Kd.C_below hC2 HB2.out))
    rw [HG2.out] at HE
    have q0:=(blk_cell (blk_alloc (blk_below HQ0.out hb1) (.cells #[.slice A2' F2.length c2'] 63 (0,0))) 0).trans rfl
    have q1:=(blk_cell (blk_new w1 (.cells #[.slice A2' F2.length c2'] 63 (0,0))) 0).trans rfl
    clear hb1 hC2 hc2
    go_wp2_with (go_at_call 66;go_loud (refine HE.out.mono ?_;rintro e w3 ⟨rfl,hb3⟩))
    go_ret
    exact ⟨rfl,below_then HB1.out HB1.out.size (below_then HB2.out HB2.out.size hb3)⟩
  · obtain rfl : G = false:=by rw [← HG.out];simp [h0]
    have d0 : (x == 0) = false:=by simpa using h0
    go_enter Try.func40,Try.ntmps40
    go_upto_region 1 with (fail)
    simp only [← hv0]
    clear hv0
    simp only [← hx1]
    clear hx1
    go_upto_region 2 with (go_at_call 34;go_loud (refine HO.out.mono ?_;rintro e w1 ⟨⟨A2',c2',rfl,hc2,hC2⟩,hb1⟩))
    have HB1:=Aside0.mk (below_then HB0.out HB0.out.size hb1)
    have HB2:=Aside0.mk (below_alloc (Below.refl w1.heap.size w1) (.cells #[.slice A2' F2.length c2'] 63 (0,0)))
    clear hb1 hC2 hc2
    go_wp2
    go_ret
    exact ⟨rfl,below_then HB1.out HB1.out.size HB2.out⟩
theorem goodFo_n (g : Gram) (A1 A2 A3 : Option Addr) (c1 c2 c3 : Nat) (B : Option Addr) (d : Nat) (l : List Int) (A : Option Addr) (n c : Nat) (F : Forest) (w : World) (hg : RepG w g A1 A2 A3 c1 c2 c3) (hr : kInt.C w B l.length l) (hin : ∀ x ∈ l,-9223372036854775808 ≤ x ∧ x ≤ 9223372036854775807) (hF : kNode.C w A n F) :
    Calls Try.prog 40 #[.agg #[.slice A1 g.terms.length c1,.slice A2 g.names.length c2,.slice A3 g.rules.length c3],.slice B l.length d,.agg #[.slice A n c]] w fun e w' => e = .returned (.bool (goodFo g l F)) ∧ Below w.heap.size w w':=by
  obtain rfl:=C_len hF
  exact goodFo_c g A1 A2 A3 c1 c2 c3 B d l A c F w hg hr hin hF
end Go.Proofs.Ytmkgcjhimajgiaa


set_option linter.unusedVariables false
set_option linter.unusedSimpArgs false
namespace Go.Proofs.Ytmkgcjhimajgiaa
open Go.RowKit Go.Proofs.YtmkgcjhimajgiaaW.PrintWords Go.Proofs.YtmkgcjhimajgiaaW.PrintLast Go.Conc

set_option maxRecDepth 100000 in
set_option maxHeartbeats 8000000 in
theorem wakes25_c (w : World) : Calls Try.prog 33 #[] w fun e w' => e = .returned (.bool true) ∧ Below w.heap.size w w':=by
  obtain ⟨wg,hwg⟩ : ∃ g,g = wake25G:=⟨_,rfl⟩
  have HOF : Aside0 (ofF wake25S = .ok wg):=⟨by rw [hwg];exact wake25_of⟩
  obtain ⟨F,hF⟩ : ∃ F : Forest,F = zipF wake25F:=⟨_,rfl⟩
  have H100 : Aside0 (forE wg [0,0] 100 = 0 ∧ forF wg [0,0] 100 = F):=⟨by rw [hwg,hF];exact wake25_100⟩
  have H4 : Aside0 (forE wg [0,0] 4 = 15 ∧ forF wg [0,0] 4 = []):=⟨by rw [hwg];exact wake25_4⟩
  have H0 : Aside0 (forE wg [] 100 = 19 ∧ forF wg [] 100 = []):=⟨by rw [hwg];exact wake25_none⟩
  have HGD : Aside0 (goodFo wg [0,0] F = true):=⟨by rw [hwg,hF];unfold goodFo;rw [wake25_4000.1,wake25_4000.2];simp⟩
  have HFL : Aside0 (F.length = 5):=⟨by rw [hF];rfl⟩
  have HPS : Aside0 (posN F ⟨1,-1,0,1,2⟩ = 2):=⟨by rw [hF];kernel_rfl⟩
  have HAT : Aside0 (∀ (w : World) (A : Option Addr),kNode.C w A 5 F → _):=⟨fun w A h => wake25_at (by rw [hF] at h;exact h)⟩
  clear hwg hF
  go_enter Try.func33,Try.ntmps33
  go_upto_region 2 with (go_at_call 43;go_loud (refine (of_ok HOF.out w).mono ?_;rintro e w1 ⟨⟨A1,A2,A3,c1,c2,c3,rfl,hg1⟩,hb1⟩;have HB1:=Aside0.mk hb1;have HG1:=Aside0.mk hg1;clear hg1 hb1))
  obtain ⟨v,hv⟩ : ∃ v,v = (w1.alloc (.cells #[.slice A1 wg.terms.length c1,.slice A2 wg.names.length c2,.slice A3 wg.rules.length c3] 25 (0,0))).alloc (.cells #[.int .i64 0,.int .i64 0] 89 (0,0)):=⟨_,rfl⟩
  have K1 : Aside0 (v.heap[w1.heap.size]? = some (.cells #[.slice A1 wg.terms.length c1,.slice A2 wg.names.length c2,.slice A3 wg.rules.length c3] 25 (0,0))):=⟨by rw [hv];exact blk_alloc (blk_new w1 _) _⟩
  have K2 : Aside0 (v.heap[w1.heap.size + 1]? = some (.cells #[.int .i64 0,.int .i64 0] 89 (0,0))):=⟨by rw [hv];exact blk_snd w1 _ _⟩
  have HG : Aside0 (RepG v wg A1 A2 A3 c1 c2 c3):=⟨by rw [hv];exact HG1.out.below_ (below_alloc (below_alloc (Below.refl _ _) _) _)⟩
  have HB : Aside0 (Below w.heap.size w v):=⟨by rw [hv];exact (HB1.out.alloc HB1.out.size _).alloc (by simp;have:=HB1.out.size;omega) _⟩
  simp only [← hv]
  clear hv HG1 HB1
  refine pl_start ?_
  refine pl_held (B:=v.heap.size) (v:=v) (Below.refl _ _) (fun hHeld => ?_)
  refine pp_ ?_ ?_ ?_ (y:=by have d0:=(blk_cell (blk_below K1.out hHeld) 0).trans rfl;have d1:=(blk_cell (blk_below K1.out hHeld) 1).trans rfl;have d2:=(blk_cell (blk_below K1.out hHeld) 2).trans rfl;go_simp;rfl)
  refine pl_alloc (N:=(some 17)) (v:=?v10) (o:=?o10) (by rfl) rfl ?h10 ?_
  case h10 => (go_simp;first | rfl | (constructor;rfl;rfl))
  intro x2_1 hb2_1 hx2_1 hs2_1 hq2_1
  simp only [Act.put,List.setIfInBounds_toArray,List.set_cons_zero,List.set_cons_succ]
  refine pl_held (B:=v.heap.size) (v:=v) (below_then hHeld hHeld.size hb2_1) (fun hHeld => ?_)
  refine goesCL_ (N:=(some 18)) Try.func34 (by kernel_rfl) rfl (by rfl) rfl rfl (fo_c wg A1 A2 A3 c1 c2 c3 (some ⟨v.heap.size,0,none⟩) 2 [0,0] 100 _ (HG.out.below_ hHeld) (ints_C hx2_1 (by decide)) (by decide) (by omega)) (by simp [Act.eval]) ?_
  rintro e x2_2 ⟨⟨A4,c4,rfl,hc4,hC4⟩,hb2_2⟩
  refine ⟨_,rfl,?_⟩
  simp only [Act.put,List.setIfInBounds_toArray,List.set_cons_zero,List.set_cons_succ]
  rw [H100.out.2,HFL.out] at hC4
  rw [H100.out.1,H100.out.2,HFL.out]
  refine pl_held (B:=v.heap.size) (v:=v) (below_then hHeld hHeld.size hb2_2) (fun hHeld => ?_)
  refine pp_ ?_ ?_ ?_
  refine pp_ ?_ ?_ ?_
  refine pp_ ?_ ?_ ?_
  refine pl_value (N:=(some 3)) (v:=?v15) (w1:=?w15) (by rfl) rfl ?h15 ?_
  case h15 => (go_simp;first | rfl | (constructor;rfl;rfl))
  simp only [Act.put,List.setIfInBounds_toArray,List.set_cons_zero,List.set_cons_succ]
  refine pl_skip (w1:=?w16) (by rfl) rfl ?h16 ?_
  case h16 => (go_simp;rfl)
  refine pl_world ?_
  intro x2_7 hb2_7 hx2_7 hs2_7 hq2_7
  refine pl_held (B:=v.heap.size) (v:=v) (below_then hHeld hHeld.size hb2_7) (fun hHeld => ?_)
  refine pp_ ?_ ?_ ?_
  refine pl_nil ?_
  go_upto_region 3 with (fail)
  obtain ⟨q3,hq3⟩ : ∃ q3,q3 = x2_2.heap.size:=⟨_,rfl⟩
  rw [← hq3] at hx2_7
  have HG3:=Aside0.mk (HG.out.below_ hHeld)
  have K13:=Aside0.mk (blk_below K1.out hHeld)
  have K23:=Aside0.mk (blk_below K2.out hHeld)
  have KX3:=Aside0.mk hx2_7
  have HC3:=Aside0.mk (Kd.C_below hC4 hb2_7)
  have HB3:=Aside0.mk (below_then HB.out HB.out.size hHeld)
  simp only [← hq3]
  clear hq3 hb2_1 hb2_2 hb2_7 hx2_1 hx2_7 hC4 hc4 hHeld K1 K2 HG HB
  refine pl_start ?_
  refine pl_held (B:=x2_7.heap.size) (v:=x2_7) (Below.refl _ _) (fun hHeld => ?_)
  refine pp_ ?_ ?_ ?_ (y:=by have d0:=(blk_cell (blk_below K13.out hHeld) 0).trans rfl;have d1:=(blk_cell (blk_below K13.out hHeld) 1).trans rfl;have d2:=(blk_cell (blk_below K13.out hHeld) 2).trans rfl;go_simp;rfl)
  refine goesCL_ (N:=(some 23)) Try.func34 (by kernel_rfl) rfl (by rfl) rfl rfl (fo_c wg A1 A2 A3 c1 c2 c3 none 0 [] 100 _ (HG3.out.below_ hHeld) (C_none _ _) (by decide) (by omega)) (by simp [Act.eval]) ?_
  rintro e x3_1 ⟨⟨A5,c5,rfl,hc5,hC5⟩,hb3_1⟩
  refine ⟨_,rfl,?_⟩
  simp only [Act.put,List.setIfInBounds_toArray,List.set_cons_zero,List.set_cons_succ]
  rw [H0.out.1,H0.out.2]
  refine pl_held (B:=x2_7.heap.size) (v:=x2_7) (below_then hHeld hHeld.size hb3_1) (fun hHeld => ?_)
  refine pp_ ?_ ?_ ?_
  refine pp_ ?_ ?_ ?_
  refine pp_ ?_ ?_ ?_
  refine pl_value (N:=(some 5)) (v:=?v23) (w1:=?w23) (by rfl) rfl ?h23 ?_
  case h23 => (go_simp;first | rfl | (constructor;rfl;rfl))
  simp only [Act.put,List.setIfInBounds_toArray,List.set_cons_zero,List.set_cons_succ]
  refine pl_skip (w1:=?w24) (by rfl) rfl ?h24 ?_
  case h24 => (go_simp;rfl)
  refine pl_world ?_
  intro x3_6 hb3_6 hx3_6 hs3_6 hq3_6
  refine pl_held (B:=x2_7.heap.size) (v:=x2_7) (below_then hHeld hHeld.size hb3_6) (fun hHeld => ?_)
  refine pp_ ?_ ?_ ?_
  refine pl_nil ?_
  go_upto_region 4 with (fail)
  have HG4:=Aside0.mk (HG3.out.below_ hHeld)
  have K14:=Aside0.mk (blk_below K13.out hHeld)
  have K24:=Aside0.mk (blk_below K23.out hHeld)
  have KX4:=Aside0.mk (blk_below KX3.out hHeld)
  have HC4:=Aside0.mk (Kd.C_below HC3.out hHeld)
  have HB4:=Aside0.mk (below_then HB3.out HB3.out.size hHeld)
  clear hb3_1 hx3_6 hb3_6 hC5 hc5 hHeld HG3 K13 K23 KX3 HC3 HB3
  refine pl_start ?_
  refine pl_held (B:=x3_6.heap.size) (v:=x3_6) (Below.refl _ _) (fun hHeld => ?_)
  refine pp_ ?_ ?_ ?_ (y:=by have d0:=(blk_cell (blk_below K14.out hHeld) 0).trans rfl;have d1:=(blk_cell (blk_below K14.out hHeld) 1).trans rfl;have d2:=(blk_cell (blk_below K14.out hHeld) 2).trans rfl;go_simp;rfl)
  refine pl_alloc (N:=(some 28)) (v:=?v27) (o:=?o27) (by rfl) rfl ?h27 ?_
  case h27 => (go_simp;first | rfl | (constructor;rfl;rfl))
  intro x4_1 hb4_1 hx4_1 hs4_1 hq4_1
  simp only [Act.put,List.setIfInBounds_toArray,List.set_cons_zero,List.set_cons_succ]
  refine pl_held (B:=x3_6.heap.size) (v:=x3_6) (below_then hHeld hHeld.size hb4_1) (fun hHeld => ?_)
  refine goesCL_ (N:=(some 29)) Try.func34 (by kernel_rfl) rfl (by rfl) rfl rfl (fo_c wg A1 A2 A3 c1 c2 c3 (some ⟨x3_6.heap.size,0,none⟩) 2 [0,0] 4 _ (HG4.out.below_ hHeld) (ints_C hx4_1 (by decide)) (by decide) (by omega)) (by simp [Act.eval]) ?_
  rintro e x4_2 ⟨⟨A6,c6,rfl,hc6,hC6⟩,hb4_2⟩
  refine ⟨_,rfl,?_⟩
  simp only [Act.put,List.setIfInBounds_toArray,List.set_cons_zero,List.set_cons_succ]
  rw [H4.out.1,H4.out.2]
  refine pl_held (B:=x3_6.heap.size) (v:=x3_6) (below_then hHeld hHeld.size hb4_2) (fun hHeld => ?_)
  refine pp_ ?_ ?_ ?_
  refine pp_ ?_ ?_ ?_
  refine pp_ ?_ ?_ ?_
  refine pl_value (N:=(some 7)) (v:=?v32) (w1:=?w32) (by rfl) rfl ?h32 ?_
  case h32 => (go_simp;first | rfl | (constructor;rfl;rfl))
  simp only [Act.put,List.setIfInBounds_toArray,List.set_cons_zero,List.set_cons_succ]
  refine pl_skip (w1:=?w33) (by rfl) rfl ?h33 ?_
  case h33 => (go_simp;rfl)
  refine pl_world ?_
  intro x4_7 hb4_7 hx4_7 hs4_7 hq4_7
  refine pl_held (B:=x3_6.heap.size) (v:=x3_6) (below_then hHeld hHeld.size hb4_7) (fun hHeld => ?_)
  refine pp_ ?_ ?_ ?_
  refine pl_nil ?_
  go_upto_region 5 with (fail)
  have HG5:=Aside0.mk (HG4.out.below_ hHeld)
  have K15:=Aside0.mk (blk_below K14.out hHeld)
  have K25:=Aside0.mk (blk_below K24.out hHeld)
  have KX5:=Aside0.mk (blk_below KX4.out hHeld)
  have HC5:=Aside0.mk (Kd.C_below HC4.out hHeld)
  have HB5:=Aside0.mk (below_then HB4.out HB4.out.size hHeld)
  clear hb4_1 hb4_2 hx4_1 hx4_7 hb4_7 hC6 hc6 hHeld HG4 K14 K24 KX4 HC4 HB4
  have p0:=(blk_cell K25.out 0).trans rfl
  have x0:=(blk_cell KX5.out 0).trans rfl
  obtain ⟨ad,ap,cp,ead,z0,z4,z5,y0,y1,y2,y3⟩:=HAT.out _ _ HC5.out
  subst ead
  go_upto_region 7 with (fail)
  have HFI:=Aside0.mk (find_c (some ad) c4 F ⟨1,-1,0,1,2⟩ none 0 0 x4_7 (by rw [HFL.out];exact HC5.out))
  rw [HPS.out,HFL.out] at HFI
  have X0:=Aside0.mk x0
  have Z0:=Aside0.mk z0
  have Z4:=Aside0.mk z4
  have Z5:=Aside0.mk z5
  have Y0:=Aside0.mk y0
  have Y1:=Aside0.mk y1
  have Y2:=Aside0.mk y2
  have Y3:=Aside0.mk y3
  clear p0 x0 z0 z4 z5 y0 y1 y2 y3
  refine pl_start ?_
  refine pl_held (B:=x4_7.heap.size) (v:=x4_7) (Below.refl _ _) (fun hHeld => ?_)
  refine pp_ ?_ ?_ ?_ (y:=by have d0:=cell_at hHeld X0.out;go_simp;rfl)
  refine pp_ ?_ ?_ ?_
  refine goesCL_ (N:=(some 57)) Try.func38 (by kernel_rfl) rfl (by rfl) rfl rfl (HFI.out) (by simp [Act.eval]) ?_
  rintro e x7_2 ⟨rfl,hb7_2⟩
  refine ⟨_,rfl,?_⟩
  simp only [Act.put,List.setIfInBounds_toArray,List.set_cons_zero,List.set_cons_succ]
  refine pl_held (B:=x4_7.heap.size) (v:=x4_7) (below_then hHeld hHeld.size hb7_2) (fun hHeld => ?_)
  refine pp_ ?_ ?_ ?_
  refine pp_ ?_ ?_ ?_
  refine pp_ ?_ ?_ ?_
  refine pp_ ?_ ?_ ?_
  refine pp_ ?_ ?_ ?_
  refine pl_nil ?_
  go_upto_region 8 with (fail)
  refine pl_start ?_
  refine pl_held (B:=x4_7.heap.size) (v:=x4_7) (hHeld) (fun hHeld => ?_)
  refine pp_ ?_ ?_ ?_
  refine pp_ ?_ ?_ ?_ (y:=by have d0:=(blk_cell (blk_below K15.out hHeld) 0).trans rfl;have d1:=(blk_cell (blk_below K15.out hHeld) 1).trans rfl;have d2:=(blk_cell (blk_below K15.out hHeld) 2).trans rfl;have d3:=cell_at hHeld X0.out;have d4:=cell_at hHeld Z0.out;have d5:=cell_at hHeld Z4.out;have d6:=cell_at hHeld Z5.out;have d7:=cell_at hHeld Y0.out;have d8:=cell_at hHeld Y1.out;have d9:=cell_at hHeld Y2.out;have d10:=cell_at hHeld Y3.out;go_simp;rfl)
  refine pp_ ?_ ?_ ?_
  refine pp_ ?_ ?_ ?_
  refine pp_ ?_ ?_ ?_ (y:=by have d0:=(blk_cell (blk_below K15.out hHeld) 0).trans rfl;have d1:=(blk_cell (blk_below K15.out hHeld) 1).trans rfl;have d2:=(blk_cell (blk_below K15.out hHeld) 2).trans rfl;have d3:=cell_at hHeld X0.out;have d4:=cell_at hHeld Z0.out;have d5:=cell_at hHeld Z4.out;have d6:=cell_at hHeld Z5.out;have d7:=cell_at hHeld Y0.out;have d8:=cell_at hHeld Y1.out;have d9:=cell_at hHeld Y2.out;have d10:=cell_at hHeld Y3.out;go_simp;rfl)
  refine pp_ ?_ ?_ ?_
  refine pp_ ?_ ?_ ?_
  refine pp_ ?_ ?_ ?_
  refine pp_ ?_ ?_ ?_ (y:=by have d0:=(blk_cell (blk_below K15.out hHeld) 0).trans rfl;have d1:=(blk_cell (blk_below K15.out hHeld) 1).trans rfl;have d2:=(blk_cell (blk_below K15.out hHeld) 2).trans rfl;have d3:=cell_at hHeld X0.out;have d4:=cell_at hHeld Z0.out;have d5:=cell_at hHeld Z4.out;have d6:=cell_at hHeld Z5.out;have d7:=cell_at hHeld Y0.out;have d8:=cell_at hHeld Y1.out;have d9:=cell_at hHeld Y2.out;have d10:=cell_at hHeld Y3.out;go_simp;rfl)
  refine pp_ ?_ ?_ ?_
  refine pp_ ?_ ?_ ?_
  refine pp_ ?_ ?_ ?_ (y:=by have d0:=(blk_cell (blk_below K15.out hHeld) 0).trans rfl;have d1:=(blk_cell (blk_below K15.out hHeld) 1).trans rfl;have d2:=(blk_cell (blk_below K15.out hHeld) 2).trans rfl;have d3:=cell_at hHeld X0.out;have d4:=cell_at hHeld Z0.out;have d5:=cell_at hHeld Z4.out;have d6:=cell_at hHeld Z5.out;have d7:=cell_at hHeld Y0.out;have d8:=cell_at hHeld Y1.out;have d9:=cell_at hHeld Y2.out;have d10:=cell_at hHeld Y3.out;go_simp;rfl)
  refine pp_ ?_ ?_ ?_
  refine pp_ ?_ ?_ ?_
  refine pp_ ?_ ?_ ?_
  refine pp_ ?_ ?_ ?_
  refine pp_ ?_ ?_ ?_ (y:=by have d0:=(blk_cell (blk_below K15.out hHeld) 0).trans rfl;have d1:=(blk_cell (blk_below K15.out hHeld) 1).trans rfl;have d2:=(blk_cell (blk_below K15.out hHeld) 2).trans rfl;have d3:=cell_at hHeld X0.out;have d4:=cell_at hHeld Z0.out;have d5:=cell_at hHeld Z4.out;have d6:=cell_at hHeld Z5.out;have d7:=cell_at hHeld Y0.out;have d8:=cell_at hHeld Y1.out;have d9:=cell_at hHeld Y2.out;have d10:=cell_at hHeld Y3.out;go_simp;rfl)
  refine pp_ ?_ ?_ ?_
  refine pp_ ?_ ?_ ?_
  refine pp_ ?_ ?_ ?_ (y:=by have d0:=(blk_cell (blk_below K15.out hHeld) 0).trans rfl;have d1:=(blk_cell (blk_below K15.out hHeld) 1).trans rfl;have d2:=(blk_cell (blk_below K15.out hHeld) 2).trans rfl;have d3:=cell_at hHeld X0.out;have d4:=cell_at hHeld Z0.out;have d5:=cell_at hHeld Z4.out;have d6:=cell_at hHeld Z5.out;have d7:=cell_at hHeld Y0.out;have d8:=cell_at hHeld Y1.out;have d9:=cell_at hHeld Y2.out;have d10:=cell_at hHeld Y3.out;go_simp;rfl)
  refine pp_ ?_ ?_ ?_
  refine pp_ ?_ ?_ ?_ (y:=by have d0:=(blk_cell (blk_below K15.out hHeld) 0).trans rfl;have d1:=(blk_cell (blk_below K15.out hHeld) 1).trans rfl;have d2:=(blk_cell (blk_below K15.out hHeld) 2).trans rfl;have d3:=cell_at hHeld X0.out;have d4:=cell_at hHeld Z0.out;have d5:=cell_at hHeld Z4.out;have d6:=cell_at hHeld Z5.out;have d7:=cell_at hHeld Y0.out;have d8:=cell_at hHeld Y1.out;have d9:=cell_at hHeld Y2.out;have d10:=cell_at hHeld Y3.out;go_simp;rfl)
  refine pp_ ?_ ?_ ?_
  refine pp_ ?_ ?_ ?_
  refine pp_ ?_ ?_ ?_
  refine pp_ ?_ ?_ ?_
  refine pp_ ?_ ?_ ?_
  refine pp_ ?_ ?_ ?_
  refine pp_ ?_ ?_ ?_
  refine pp_ ?_ ?_ ?_
  refine pp_ ?_ ?_ ?_
  refine pp_ ?_ ?_ ?_
  refine pp_ ?_ ?_ ?_
  refine pp_ ?_ ?_ ?_
  refine pp_ ?_ ?_ ?_
  refine pp_ ?_ ?_ ?_
  refine pp_ ?_ ?_ ?_
  refine pp_ ?_ ?_ ?_
  refine pp_ ?_ ?_ ?_
  refine pp_ ?_ ?_ ?_
  refine pp_ ?_ ?_ ?_
  refine pp_ ?_ ?_ ?_ (y:=by have d0:=(blk_cell (blk_below K15.out hHeld) 0).trans rfl;have d1:=(blk_cell (blk_below K15.out hHeld) 1).trans rfl;have d2:=(blk_cell (blk_below K15.out hHeld) 2).trans rfl;have d3:=cell_at hHeld X0.out;have d4:=cell_at hHeld Z0.out;have d5:=cell_at hHeld Z4.out;have d6:=cell_at hHeld Z5.out;have d7:=cell_at hHeld Y0.out;have d8:=cell_at hHeld Y1.out;have d9:=cell_at hHeld Y2.out;have d10:=cell_at hHeld Y3.out;go_simp;rfl)
  refine pl_alloc (N:=(some 102)) (v:=?v77) (o:=?o77) (by rfl) rfl ?h77 ?_
  case h77 => (go_simp;first | rfl | (constructor;rfl;rfl))
  intro x8_42 hb8_42 hx8_42 hs8_42 hq8_42
  simp only [Act.put,List.setIfInBounds_toArray,List.set_cons_zero,List.set_cons_succ]
  refine pl_held (B:=x4_7.heap.size) (v:=x4_7) (below_then hHeld hHeld.size hb8_42) (fun hHeld => ?_)
  refine pp_ ?_ ?_ ?_ (y:=by have d0:=(blk_cell (blk_below K15.out hHeld) 0).trans rfl;have d1:=(blk_cell (blk_below K15.out hHeld) 1).trans rfl;have d2:=(blk_cell (blk_below K15.out hHeld) 2).trans rfl;have d3:=cell_at hHeld X0.out;have d4:=cell_at hHeld Z0.out;have d5:=cell_at hHeld Z4.out;have d6:=cell_at hHeld Z5.out;have d7:=cell_at hHeld Y0.out;have d8:=cell_at hHeld Y1.out;have d9:=cell_at hHeld Y2.out;have d10:=cell_at hHeld Y3.out;go_simp;rfl)
  refine goesCL_ (N:=(some 104)) Try.func40 (by kernel_rfl) rfl (by rfl) rfl rfl (goodFo_n wg A1 A2 A3 c1 c2 c3 (some ⟨x7_2.heap.size,0,none⟩) 2 [0,0] (some ad) 5 c4 F _ (HG5.out.below_ hHeld) (ints_C hx8_42 (by decide)) (by decide) (Kd.C_below HC5.out hHeld)) (by simp [Act.eval]) ?_
  rintro e x8_44 ⟨rfl,hb8_44⟩
  refine ⟨_,rfl,?_⟩
  simp only [Act.put,List.setIfInBounds_toArray,List.set_cons_zero,List.set_cons_succ]
  refine pl_held (B:=x4_7.heap.size) (v:=x4_7) (below_then hHeld hHeld.size hb8_44) (fun hHeld => ?_)
  refine pp_ ?_ ?_ ?_
  refine pp_ ?_ ?_ ?_
  refine pl_nil ?_
  go_wp2
  go_ret
  exact ⟨ret_bool HGD.out,below_then HB5.out HB5.out.size hHeld⟩
end Go.Proofs.Ytmkgcjhimajgiaa


set_option linter.unusedVariables false
set_option linter.unusedSimpArgs false
namespace Go.Proofs.Ytmkgcjhimajgiaa
open Go.RowKit Go.Proofs.YtmkgcjhimajgiaaW.PrintWords Go.Proofs.YtmkgcjhimajgiaaW.PrintLast Go.Conc

/-- How large a forest is: its nodes and packs. -/
def sizeFo (F : Forest) : Nat:=(F.map fun x => 1 + x.packs.length).sum
def LargeFo (F : Forest) (e : Ending) : Prop:=∃ b,e = .returned (.bool b) ∧ (b = false → sizeFo F ≤ 3000)
theorem two_l1 (W : World) (o a : Obj) : ((W.alloc o).alloc a).drew.heap[W.heap.size]? = some o:=by
  have h1 : (W.alloc o).heap[W.heap.size]? = some o:=heap_alloc_new _ _
  exact (Below.heap_alloc (W.alloc o) a _ (by simp)).trans h1
theorem two_l2 (W : World) (a o : Obj) : ((W.alloc a).alloc o).drew.heap[W.heap.size + 1]? = some o:=by
  have : ((W.alloc a).alloc o).heap[(W.alloc a).heap.size]? = some o:=heap_alloc_new _ _
  rw [World.size_alloc] at this
  exact this
theorem nod_ne {x y : Nod} (h : ¬ (x.lab = y.lab ∧ x.packs.length = y.packs.length)) : x.lab.sym ≠ y.lab.sym ∨ (x.lab.sym = y.lab.sym ∧ x.lab.rule ≠ y.lab.rule) ∨ (x.lab.sym = y.lab.sym ∧ x.lab.rule = y.lab.rule ∧ x.lab.dot ≠ y.lab.dot) ∨ (x.lab.sym = y.lab.sym ∧ x.lab.rule = y.lab.rule ∧ x.lab.dot = y.lab.dot ∧ x.lab.i ≠ y.lab.i) ∨ (x.lab.sym = y.lab.sym ∧ x.lab.rule = y.lab.rule ∧ x.lab.dot = y.lab.dot ∧ x.lab.i = y.lab.i ∧ x.lab.j ≠ y.lab.j) ∨ (x.lab.sym = y.lab.sym ∧ x.lab.rule = y.lab.rule ∧ x.lab.dot = y.lab.dot ∧ x.lab.i = y.lab.i ∧ x.lab.j = y.lab.j ∧ x.packs.length ≠ y.packs.length):=by
  by_cases hl : x.lab = y.lab
  · rw [hl]
    exact .inr (.inr (.inr (.inr (.inr ⟨rfl,rfl,rfl,rfl,rfl,fun e => h ⟨hl,e⟩⟩))))
  · rcases lab_ne hl with h | h | h | h | h
    · exact .inl h
    · exact .inr (.inl h)
    · exact .inr (.inr (.inl h))
    · exact .inr (.inr (.inr (.inl h)))
    · exact .inr (.inr (.inr (.inr (.inl h))))
/-- A node's box is written. -/
def setN (W : World) (b : Nat) (x : Lab) (A : Option Addr) (n c : Nat) : World:=(((((W.setCell ⟨b,0,none⟩ (.int .i64 x.sym)).setCell ⟨b,1,none⟩ (.int .i64 x.rule)).setCell ⟨b,2,none⟩ (.int .i64 x.dot)).setCell ⟨b,3,none⟩ (.int .i64 x.i)).setCell ⟨b,4,none⟩ (.int .i64 x.j)).setCell ⟨b,5,none⟩ (.slice A n c)
theorem setN_at {W : World} {b t : Nat} {a0 a1 a2 a3 a4 a5 : Value} (h : W.heap[b]? = some (.cells #[a0,a1,a2,a3,a4,a5] t (0,0))) (x : Lab) (A : Option Addr) (n c : Nat) : (setN W b x A n c).heap[b]? = some (.cells #[.int .i64 x.sym,.int .i64 x.rule,.int .i64 x.dot,.int .i64 x.i,.int .i64 x.j,.slice A n c] t (0,0)) :=
  blk_set (blk_set (blk_set (blk_set (blk_set (blk_set h 0 _) 1 _) 2 _) 3 _) 4 _) 5 _
theorem setN_far {W : World} {b q : Nat} {o : Obj} (x : Lab) (A : Option Addr) (n c : Nat) (h : W.heap[q]? = some o) (hne : q ≠ b) : (setN W b x A n c).heap[q]? = some o :=
  set_heap_far (set_heap_far (set_heap_far (set_heap_far (set_heap_far (set_heap_far h hne) hne) hne) hne) hne) hne
theorem setN_below {B b : Nat} {a W : World} (h : Below B a W) (hl : B ≤ b) (x : Lab) (A : Option Addr) (n c : Nat) : Below B a (setN W b x A n c) :=
  below_set (below_set (below_set (below_set (below_set (below_set h hl _ _) hl _ _) hl _ _) hl _ _) hl _ _) hl _ _
set_option maxRecDepth 100000 in
set_option maxHeartbeats 8000000 in
theorem keepForest_c (A B : Option Addr) (c d : Nat) (xs ys : Forest) (w : World) (hr : kNode.C w A xs.length xs) (hs : kNode.C w B ys.length ys) :
    Calls Try.prog 36 #[.agg #[.slice A xs.length c],.agg #[.slice B ys.length d]] w fun e w' => e = .returned (.bool (decide (xs = ys))) ∧ Below w.heap.size w w':=by
  have hm:=C_max hr
  have hm2:=C_max hs
  obtain ⟨v0,hv0⟩ : ∃ v0 : World,v0 = (w.alloc (.cells #[.slice A xs.length c] 63 (0,0))).alloc (.cells #[.slice B ys.length d] 63 (0,0)):=⟨_,rfl⟩
  have HB0 : Aside0 (Below w.heap.size w v0):=⟨by rw [hv0];exact below_alloc (below_alloc (Below.refl _ _) _) _⟩
  have HP0 : Aside0 (v0.heap[w.heap.size]? = some (.cells #[.slice A xs.length c] 63 (0,0))):=⟨by rw [hv0];exact blk_alloc (blk_new w _) _⟩
  have HQ0 : Aside0 (v0.heap[w.heap.size + 1]? = some (.cells #[.slice B ys.length d] 63 (0,0))):=⟨by rw [hv0];exact blk_snd _ _ _⟩
  have HR:=Aside0.mk (Kd.C_below hr HB0.out)
  have HS:=Aside0.mk (Kd.C_below hs HB0.out)
  obtain ⟨z0,hz0⟩ : ∃ z0,z0 = w.heap.size:=⟨_,rfl⟩
  obtain ⟨z1,hz1⟩ : ∃ z1,z1 = w.heap.size + 1:=⟨_,rfl⟩
  rw [← hz0] at HP0
  rw [← hz1] at HQ0
  have a0:=(blk_cell HP0.out 0).trans rfl
  have b0:=(blk_cell HQ0.out 0).trans rfl
  clear hr hs
  by_cases hl : xs.length = ys.length
  · have hlb : ((xs.length : Int) != (ys.length : Int)) = false:=by rw [hl];simp
    have HL:=Lib.hid hl
    clear hl
    go_enter Try.func36,Try.ntmps36
    go_upto_region 1 with (fail)
    simp only [← hv0]
    simp only [← hz1]
    simp only [← hz0]
    clear hv0 hz0 hz1
    go_wp2
    clear a0 b0
    go_loopw [5] (fun i wr => ∃ k : Nat,k ≤ xs.length ∧ i = .int .i64 k ∧ Aside0 (∀ j (hj : j < xs.length),j < k → xs[j] = ys[j]'(by have:=HL.out;omega)) ∧ Aside0 (Below v0.heap.size v0 wr)) (fun i _ => xs.length - (intOf i).toNat)
    case atStart => exact ⟨0,Nat.zero_le _,rfl,⟨by intro j hj h;omega⟩,⟨Below.refl _ _⟩⟩
    case round =>
      obtain ⟨k,hk,rfl,HI,HB⟩:=hrel
      rename World => wk
      have HPk:=Aside0.mk (blk_below HP0.out HB.out)
      have HQk:=Aside0.mk (blk_below HQ0.out HB.out)
      by_cases hlt : k < xs.length
      · have hlt2 : k < ys.length:=by have:=HL.out;omega
        obtain ⟨ad,Ap,cp,ead,hx0,hx1,hx2,hx3,hx4,hx5,hcp,hCp⟩:=at_node (Kd.C_below HR.out HB.out) k hlt
        obtain ⟨bd,Aq,cq,ebd,hy0,hy1,hy2,hy3,hy4,hy5,hcq,hCq⟩:=at_node (Kd.C_below HS.out HB.out) k hlt2
        cases ead
        cases ebd
        obtain ⟨p,hp⟩ : ∃ p,p = xs[k]'hlt:=⟨_,rfl⟩
        obtain ⟨q,hq⟩ : ∃ q,q = ys[k]'hlt2:=⟨_,rfl⟩
        rw [← hp] at hx0 hx1 hx2 hx3 hx4 hx5 hcp hCp
        rw [← hq] at hy0 hy1 hy2 hy3 hy4 hy5 hcq hCq
        have HPQ:=Lib.hid (And.intro hp hq)
        have HCp:=Aside0.mk hCp
        have HCq:=Aside0.mk hCq
        have i1 : (0 : Int) ≤ (k : Int):=by omega
        have i2 : (k : Int) < (xs.length : Int):=by omega
        have i3 : (k : Int) < (ys.length : Int):=by omega
        have a0:=(blk_cell HPk.out 0).trans rfl
        have b0:=(blk_cell HQk.out 0).trans rfl
        clear hcp hCp hcq hCq hp hq
        go_upto_region 6 with (fail)
        clear a0 b0
        refine start_ (n:=14) (S:=fun w' => Below wk.heap.size wk w') (ds:=[13]) (lb 14 0x0) (by kernel_rfl) rfl (by kernel_rfl) (below_drew1 (Below.refl _ _)) (fun hHeld => ?_)
        refine pu_ ?_ ?_ 0 (some 23) (lb 14 0x1) ?_
        refine pu_ ?_ ?_ 2 (some 25) (lb 14 0x5) ?_
        refine pu_ ?_ ?_ 5 (some 28) (lb 14 0x25) ?_
        refine pu_ ?_ ?_ 7 (some 30) (lb 14 0xa5) ?_
        refine ta_ ?_ ?_ 1 (some 24) (lb 14 0xa7) hHeld ?_ (y:=by rintro w' hS;have d0:=(blk_cell (blk_below HPk.out hS) 0).trans rfl;have d1:=(blk_cell (blk_below HQk.out hS) 0).trans rfl;have d2:=cell_at hS hx0;have d3:=cell_at hS hx1;have d4:=cell_at hS hx2;have d5:=cell_at hS hx3;have d6:=cell_at hS hx4;have d7:=cell_at hS hx5;have d8:=cell_at hS hy0;have d9:=cell_at hS hy1;have d10:=cell_at hS hy2;have d11:=cell_at hS hy3;have d12:=cell_at hS hy4;have d13:=cell_at hS hy5;go_simp;with_reducible rfl)
        refine pu_ ?_ ?_ 3 (some 26) (lb 14 0xaf) ?_
        refine ta_ ?_ ?_ 4 (some 27) (lb 14 0xbf) hHeld ?_ (y:=by rintro w' hS;have d0:=(blk_cell (blk_below HPk.out hS) 0).trans rfl;have d1:=(blk_cell (blk_below HQk.out hS) 0).trans rfl;have d2:=cell_at hS hx0;have d3:=cell_at hS hx1;have d4:=cell_at hS hx2;have d5:=cell_at hS hx3;have d6:=cell_at hS hx4;have d7:=cell_at hS hx5;have d8:=cell_at hS hy0;have d9:=cell_at hS hy1;have d10:=cell_at hS hy2;have d11:=cell_at hS hy3;have d12:=cell_at hS hy4;have d13:=cell_at hS hy5;go_simp;with_reducible rfl)
        refine ta_ ?_ ?_ 6 (some 29) (lb 14 0xff) hHeld ?_ (y:=by rintro w' hS;have d0:=(blk_cell (blk_below HPk.out hS) 0).trans rfl;have d1:=(blk_cell (blk_below HQk.out hS) 0).trans rfl;have d2:=cell_at hS hx0;have d3:=cell_at hS hx1;have d4:=cell_at hS hx2;have d5:=cell_at hS hx3;have d6:=cell_at hS hx4;have d7:=cell_at hS hx5;have d8:=cell_at hS hy0;have d9:=cell_at hS hy1;have d10:=cell_at hS hy2;have d11:=cell_at hS hy3;have d12:=cell_at hS hy4;have d13:=cell_at hS hy5;go_simp;with_reducible rfl)
        refine pu_ ?_ ?_ 8 (some 31) (lb 14 0x1ff) ?_
        refine ta_ ?_ ?_ 9 (some 32) (lb 14 0x3ff) hHeld ?_ (y:=by rintro w' hS;have d0:=(blk_cell (blk_below HPk.out hS) 0).trans rfl;have d1:=(blk_cell (blk_below HQk.out hS) 0).trans rfl;have d2:=cell_at hS hx0;have d3:=cell_at hS hx1;have d4:=cell_at hS hx2;have d5:=cell_at hS hx3;have d6:=cell_at hS hx4;have d7:=cell_at hS hx5;have d8:=cell_at hS hy0;have d9:=cell_at hS hy1;have d10:=cell_at hS hy2;have d11:=cell_at hS hy3;have d12:=cell_at hS hy4;have d13:=cell_at hS hy5;go_simp;with_reducible rfl)
        refine join_ (σ:=Nat × Nat) 2 (lb 14 0xfff) (fun s => [(6,.pointer (some ⟨s.1,0,none⟩)),(7,.pointer (some ⟨s.2,0,none⟩))]) (fun s w' => Below wk.heap.size wk w' ∧ w'.heap[s.1]? = some (.cells #[.int .i64 0,.int .i64 0,.int .i64 0,.int .i64 0,.int .i64 0,.slice none 0 0] 66 (0,0)) ∧ w'.heap[s.2]? = some (.cells #[.int .i64 0,.int .i64 0,.int .i64 0,.int .i64 0,.int .i64 0,.slice none 0 0] 66 (0,0)) ∧ wk.heap.size ≤ s.1 ∧ wk.heap.size ≤ s.2 ∧ s.1 ≠ s.2) ?_ ?_
        rotate_left
        · intro hrest
          simp only [putAll,Act.put,List.setIfInBounds_toArray,List.set_cons_zero,List.set_cons_succ] at hrest
          refine two_ (i:=10) (j:=11) (Ni:=(some 6)) (Nj:=(some 7)) (lb 14 0x7ff) (lb 14 0xbff) rfl rfl rfl rfl (by kernel_rfl) (by decide) (by decide) (fun K hK => ?_) (fun K hK => ?_)
          · refine value_ (w1:=?_) (v:=?_) (by rfl) rfl ?_ ?_
            rotate_left 2
            · (go_simp;constructor;rfl;rfl)
            refine hK.out _ _ (hHeld.alloc hHeld.size _) (fun hHeld => ?_)
            clear hK K
            refine norm_ (a':=?_) ?_ ?_
            rotate_left
            · (show Act.put _ (some 6) _ = _;simp only [Act.put,List.setIfInBounds_toArray,List.set_cons_zero,List.set_cons_succ];rfl)
            refine one_ (i:=11) (N:=(some 7)) (lb 14 0xfff) rfl rfl (by kernel_rfl) (by decide) (fun K hK => ?_)
            refine value_ (w1:=?_) (v:=?_) (by rfl) rfl ?_ ?_
            rotate_left 2
            · (go_simp;constructor;rfl;rfl)
            refine hK.out _ _ (hHeld.alloc hHeld.size _) (fun hHeld => ?_)
            clear hK K
            refine norm_ (a':=?_) ?_ ?_
            rotate_left
            · (show Act.put _ (some 7) _ = _;simp only [Act.put,List.setIfInBounds_toArray,List.set_cons_zero,List.set_cons_succ];rfl)
            first | exact hrest (wk.heap.size,wk.heap.size + 1) _ ⟨hHeld,two_l1 _ _ _,two_l2 _ _ _,Nat.le_refl _,Nat.le_succ _,Nat.ne_of_lt (Nat.lt_succ_self _)⟩ | exact hrest (wk.heap.size + 1,wk.heap.size) _ ⟨hHeld,two_l2 _ _ _,two_l1 _ _ _,Nat.le_succ _,Nat.le_refl _,Nat.ne_of_gt (Nat.lt_succ_self _)⟩
          · refine value_ (w1:=?_) (v:=?_) (by rfl) rfl ?_ ?_
            rotate_left 2
            · (go_simp;constructor;rfl;rfl)
            refine hK.out _ _ (hHeld.alloc hHeld.size _) (fun hHeld => ?_)
            clear hK K
            refine norm_ (a':=?_) ?_ ?_
            rotate_left
            · (show Act.put _ (some 7) _ = _;simp only [Act.put,List.setIfInBounds_toArray,List.set_cons_zero,List.set_cons_succ];rfl)
            refine one_ (i:=10) (N:=(some 6)) (lb 14 0xfff) rfl rfl (by kernel_rfl) (by decide) (fun K hK => ?_)
            refine value_ (w1:=?_) (v:=?_) (by rfl) rfl ?_ ?_
            rotate_left 2
            · (go_simp;constructor;rfl;rfl)
            refine hK.out _ _ (hHeld.alloc hHeld.size _) (fun hHeld => ?_)
            clear hK K
            refine norm_ (a':=?_) ?_ ?_
            rotate_left
            · (show Act.put _ (some 6) _ = _;simp only [Act.put,List.setIfInBounds_toArray,List.set_cons_zero,List.set_cons_succ];rfl)
            first | exact hrest (wk.heap.size,wk.heap.size + 1) _ ⟨hHeld,two_l1 _ _ _,two_l2 _ _ _,Nat.le_refl _,Nat.le_succ _,Nat.ne_of_lt (Nat.lt_succ_self _)⟩ | exact hrest (wk.heap.size + 1,wk.heap.size) _ ⟨hHeld,two_l2 _ _ _,two_l1 _ _ _,Nat.le_succ _,Nat.le_refl _,Nat.ne_of_gt (Nat.lt_succ_self _)⟩
        rintro s w' hF
        obtain ⟨hHeld,HT1,HT2,hl1,hl2,hne⟩:=hF;have HBJ:=Aside0.mk hHeld;have HNE:=Lib.hid hne;have HNE2:=Lib.hid (show ¬ s.2 = s.1 from fun e => hne e.symm);have HT10:=Aside0.mk HT1;have HT20:=Aside0.mk HT2;have HL1:=Aside0.mk hl1;have HL2:=Aside0.mk hl2;have t0:=(blk_cell HT1 0).trans rfl;have f0:=blk_frozen HT1 0;have t1:=(blk_cell HT1 1).trans rfl;have f1:=blk_frozen HT1 1;have t2:=(blk_cell HT1 2).trans rfl;have f2:=blk_frozen HT1 2;have t3:=(blk_cell HT1 3).trans rfl;have f3:=blk_frozen HT1 3;have t4:=(blk_cell HT1 4).trans rfl;have f4:=blk_frozen HT1 4;have t5:=(blk_cell HT1 5).trans rfl;have f5:=blk_frozen HT1 5;clear hne HT1 HT2
        refine norm_ (a':=?_) ?_ ?_
        rotate_left
        · (simp only [putAll,Act.put,List.setIfInBounds_toArray,List.set_cons_zero,List.set_cons_succ];rfl)
        refine on_ 12 none (lb 14 0x1fff) (fun K hK => ?_)
        refine skip_ (w1:=?_) (by rfl) rfl ?_ ?_
        rotate_left
        · (go_simp;first | rfl | (constructor;rfl;rfl))
        refine hK.out _ _ ((below_set (below_set (below_set (below_set (below_set (below_set hHeld hl1 _ _) hl1 _ _) hl1 _ _) hl1 _ _) hl1 _ _) hl1 _ _)) (fun hHeld => ?_)
        clear hK K
        have HZ1:=Aside0.mk (setN_at HT10.out p.lab Ap p.packs.length cp);have HZ2:=Aside0.mk (setN_far (b:=s.1) p.lab Ap p.packs.length cp HT20.out HNE2.out);have HBZ:=Aside0.mk (setN_below HBJ.out hl1 p.lab Ap p.packs.length cp);obtain ⟨W12,hW12⟩ : ∃ W12,W12 = setN w' s.1 p.lab Ap p.packs.length cp:=⟨_,rfl⟩;rw [← hW12] at HZ1 HZ2 HBZ;unfold setN at hW12;simp only [← hW12];clear hW12 t0 t1 t2 t3 t4 t5 f0 f1 f2 f3 f4 f5 HT10 HT20 HBJ;have s0:=(blk_cell HZ2.out 0).trans rfl;have g0:=blk_frozen HZ2.out 0;have s1:=(blk_cell HZ2.out 1).trans rfl;have g1:=blk_frozen HZ2.out 1;have s2:=(blk_cell HZ2.out 2).trans rfl;have g2:=blk_frozen HZ2.out 2;have s3:=(blk_cell HZ2.out 3).trans rfl;have g3:=blk_frozen HZ2.out 3;have s4:=(blk_cell HZ2.out 4).trans rfl;have g4:=blk_frozen HZ2.out 4;have s5:=(blk_cell HZ2.out 5).trans rfl;have g5:=blk_frozen HZ2.out 5
        refine ls_ 13 none (lb 14 0x3fff) (fun K hK => ?_)
        skip
        refine skip_ (w1:=?_) (by rfl) rfl ?_ ?_
        rotate_left
        · (go_simp;first | rfl | (constructor;rfl;rfl))
        refine hK.out _ _ ?_
        clear hK K
        refine done_ (by kernel_rfl) ?_
        have HY1:=Aside0.mk (setN_far (b:=s.2) q.lab Aq q.packs.length cq HZ1.out HNE.out)
        have HY2:=Aside0.mk (setN_at HZ2.out q.lab Aq q.packs.length cq)
        have HBY:=Aside0.mk (setN_below HBZ.out hl2 q.lab Aq q.packs.length cq)
        obtain ⟨W13,hW13⟩ : ∃ W13,W13 = setN W12 s.2 q.lab Aq q.packs.length cq:=⟨_,rfl⟩
        rw [← hW13] at HY1 HY2 HBY
        unfold setN at hW13
        simp only [← hW13]
        clear hW13 s0 s1 s2 s3 s4 s5 g0 g1 g2 g3 g4 g5 HZ1 HZ2 HBZ hx0 hx1 hx2 hx3 hx4 hx5 hy0 hy1 hy2 hy3 hy4 hy5
        have HBY0:=HBY
        have HBZ:=Aside0.mk HBY.out
        have c0:=(blk_cell HY1.out 0).trans rfl
        have e0:=(blk_cell HY2.out 0).trans rfl
        have c1:=(blk_cell HY1.out 1).trans rfl
        have e1:=(blk_cell HY2.out 1).trans rfl
        have c2:=(blk_cell HY1.out 2).trans rfl
        have e2:=(blk_cell HY2.out 2).trans rfl
        have c3:=(blk_cell HY1.out 3).trans rfl
        have e3:=(blk_cell HY2.out 3).trans rfl
        have c4:=(blk_cell HY1.out 4).trans rfl
        have e4:=(blk_cell HY2.out 4).trans rfl
        have c5:=(blk_cell HY1.out 5).trans rfl
        have e5:=(blk_cell HY2.out 5).trans rfl
        clear hl1 hl2 HNE HNE2 HL1 HL2 HBY hlb
        by_cases he : p.lab = q.lab ∧ p.packs.length = q.packs.length
        · obtain ⟨he1,he2⟩:=he
          have n0 : (p.lab.sym != q.lab.sym) = false:=by rw [he1];simp
          have n1 : (p.lab.rule != q.lab.rule) = false:=by rw [he1];simp
          have n2 : (p.lab.dot != q.lab.dot) = false:=by rw [he1];simp
          have n3 : (p.lab.i != q.lab.i) = false:=by rw [he1];simp
          have n4 : (p.lab.j != q.lab.j) = false:=by rw [he1];simp
          have n5 : ((p.packs.length : Int) != (q.packs.length : Int)) = false:=by rw [he2];simp
          have HE1:=Lib.hid he1
          have HE2:=Lib.hid he2
          clear he1 he2
          go_wp2
          clear n0 n1 n2 n3 n4 n5
          go_loopw [8] (fun jv wr => ∃ j : Nat,j ≤ p.packs.length ∧ jv = .int .i64 j ∧ Aside0 (∀ i (hi : i < p.packs.length),i < j → p.packs[i] = q.packs[i]'(by have:=HE2.out;omega)) ∧ Aside0 (Below W13.heap.size W13 wr)) (fun jv _ => p.packs.length - (intOf jv).toNat)
          case atStart => exact ⟨0,Nat.zero_le _,rfl,⟨by intro j hj h;omega⟩,⟨Below.refl _ _⟩⟩
          case round =>
            obtain ⟨j,hj,rfl,HI2,HB2⟩:=hrel
            rename World => wj
            have HY1j:=Aside0.mk (blk_below HY1.out HB2.out)
            have HY2j:=Aside0.mk (blk_below HY2.out HB2.out)
            have hmp:=C_max HCp.out
            clear c0 c1 c2 c3 c4 c5 e0 e1 e2 e3 e4 e5
            have c5:=(blk_cell HY1j.out 5).trans rfl
            by_cases hjl : j < p.packs.length
            · have hjl2 : j < q.packs.length:=by have:=HE2.out;omega
              obtain ⟨ap,eap,hu0,hu1,hu2,hu3⟩:=at_pk (Kd.C_below (Kd.C_below HCp.out HBZ.out) HB2.out) j hjl
              obtain ⟨aq,eaq,hv0,hv1,hv2,hv3⟩:=at_pk (Kd.C_below (Kd.C_below HCq.out HBZ.out) HB2.out) j hjl2
              cases eap
              cases eaq
              have j1 : (0 : Int) ≤ (j : Int):=by omega
              have j2 : (j : Int) < (p.packs.length : Int):=by omega
              have j3 : (j : Int) < (q.packs.length : Int):=by omega
              obtain ⟨R,hR⟩ : ∃ R,(!decide (p.packs[j]'hjl = q.packs[j]'hjl2)) = R:=⟨_,rfl⟩
              have HRR:=Lib.hid hR
              have U0:=Aside0.mk hu0
              have U1:=Aside0.mk hu1
              have U2:=Aside0.mk hu2
              have U3:=Aside0.mk hu3
              have V0:=Aside0.mk hv0
              have V1:=Aside0.mk hv1
              have V2:=Aside0.mk hv2
              have V3:=Aside0.mk hv3
              clear hR hu0 hu1 hu2 hu3 hv0 hv1 hv2 hv3
              go_upto_region 12 with (fail)
              clear c5
              refine start_ (n:=11) (S:=fun w' => Below wj.heap.size wj w') (ds:=[]) (lb 11 0x0) (by kernel_rfl) rfl (by kernel_rfl) (below_drew1 (Below.refl _ _)) (fun hHeld => ?_)
              refine pu_ ?_ ?_ 0 (some 82) (lb 11 0x1) ?_
              refine pu_ ?_ ?_ 2 (some 84) (lb 11 0x5) ?_
              refine pu_ ?_ ?_ 5 (some 87) (lb 11 0x25) ?_
              refine pu_ ?_ ?_ 7 (some 89) (lb 11 0xa5) ?_
              refine ta_ ?_ ?_ 1 (some 83) (lb 11 0xa7) hHeld ?_ (y:=by rintro w' hS;have d0:=(blk_cell (blk_below HY1j.out hS) 0).trans rfl;have d1:=(blk_cell (blk_below HY1j.out hS) 1).trans rfl;have d2:=(blk_cell (blk_below HY1j.out hS) 2).trans rfl;have d3:=(blk_cell (blk_below HY1j.out hS) 3).trans rfl;have d4:=(blk_cell (blk_below HY1j.out hS) 4).trans rfl;have d5:=(blk_cell (blk_below HY1j.out hS) 5).trans rfl;have d6:=(blk_cell (blk_below HY2j.out hS) 0).trans rfl;have d7:=(blk_cell (blk_below HY2j.out hS) 1).trans rfl;have d8:=(blk_cell (blk_below HY2j.out hS) 2).trans rfl;have d9:=(blk_cell (blk_below HY2j.out hS) 3).trans rfl;have d10:=(blk_cell (blk_below HY2j.out hS) 4).trans rfl;have d11:=(blk_cell (blk_below HY2j.out hS) 5).trans rfl;have d12:=cell_at hS U0.out;have d13:=cell_at hS U1.out;have d14:=cell_at hS U2.out;have d15:=cell_at hS U3.out;have d16:=cell_at hS V0.out;have d17:=cell_at hS V1.out;have d18:=cell_at hS V2.out;have d19:=cell_at hS V3.out;go_simp;with_reducible rfl)
              refine pu_ ?_ ?_ 3 (some 85) (lb 11 0xaf) ?_
              refine ta_ ?_ ?_ 4 (some 86) (lb 11 0xbf) hHeld ?_ (y:=by rintro w' hS;have d0:=(blk_cell (blk_below HY1j.out hS) 0).trans rfl;have d1:=(blk_cell (blk_below HY1j.out hS) 1).trans rfl;have d2:=(blk_cell (blk_below HY1j.out hS) 2).trans rfl;have d3:=(blk_cell (blk_below HY1j.out hS) 3).trans rfl;have d4:=(blk_cell (blk_below HY1j.out hS) 4).trans rfl;have d5:=(blk_cell (blk_below HY1j.out hS) 5).trans rfl;have d6:=(blk_cell (blk_below HY2j.out hS) 0).trans rfl;have d7:=(blk_cell (blk_below HY2j.out hS) 1).trans rfl;have d8:=(blk_cell (blk_below HY2j.out hS) 2).trans rfl;have d9:=(blk_cell (blk_below HY2j.out hS) 3).trans rfl;have d10:=(blk_cell (blk_below HY2j.out hS) 4).trans rfl;have d11:=(blk_cell (blk_below HY2j.out hS) 5).trans rfl;have d12:=cell_at hS U0.out;have d13:=cell_at hS U1.out;have d14:=cell_at hS U2.out;have d15:=cell_at hS U3.out;have d16:=cell_at hS V0.out;have d17:=cell_at hS V1.out;have d18:=cell_at hS V2.out;have d19:=cell_at hS V3.out;go_simp;with_reducible rfl)
              refine ta_ ?_ ?_ 6 (some 88) (lb 11 0xff) hHeld ?_ (y:=by rintro w' hS;have d0:=(blk_cell (blk_below HY1j.out hS) 0).trans rfl;have d1:=(blk_cell (blk_below HY1j.out hS) 1).trans rfl;have d2:=(blk_cell (blk_below HY1j.out hS) 2).trans rfl;have d3:=(blk_cell (blk_below HY1j.out hS) 3).trans rfl;have d4:=(blk_cell (blk_below HY1j.out hS) 4).trans rfl;have d5:=(blk_cell (blk_below HY1j.out hS) 5).trans rfl;have d6:=(blk_cell (blk_below HY2j.out hS) 0).trans rfl;have d7:=(blk_cell (blk_below HY2j.out hS) 1).trans rfl;have d8:=(blk_cell (blk_below HY2j.out hS) 2).trans rfl;have d9:=(blk_cell (blk_below HY2j.out hS) 3).trans rfl;have d10:=(blk_cell (blk_below HY2j.out hS) 4).trans rfl;have d11:=(blk_cell (blk_below HY2j.out hS) 5).trans rfl;have d12:=cell_at hS U0.out;have d13:=cell_at hS U1.out;have d14:=cell_at hS U2.out;have d15:=cell_at hS U3.out;have d16:=cell_at hS V0.out;have d17:=cell_at hS V1.out;have d18:=cell_at hS V2.out;have d19:=cell_at hS V3.out;go_simp;with_reducible rfl)
              refine pu_ ?_ ?_ 8 (some 90) (lb 11 0x1ff) ?_
              refine ta_ ?_ ?_ 9 (some 91) (lb 11 0x3ff) hHeld ?_ (y:=by rintro w' hS;have d0:=(blk_cell (blk_below HY1j.out hS) 0).trans rfl;have d1:=(blk_cell (blk_below HY1j.out hS) 1).trans rfl;have d2:=(blk_cell (blk_below HY1j.out hS) 2).trans rfl;have d3:=(blk_cell (blk_below HY1j.out hS) 3).trans rfl;have d4:=(blk_cell (blk_below HY1j.out hS) 4).trans rfl;have d5:=(blk_cell (blk_below HY1j.out hS) 5).trans rfl;have d6:=(blk_cell (blk_below HY2j.out hS) 0).trans rfl;have d7:=(blk_cell (blk_below HY2j.out hS) 1).trans rfl;have d8:=(blk_cell (blk_below HY2j.out hS) 2).trans rfl;have d9:=(blk_cell (blk_below HY2j.out hS) 3).trans rfl;have d10:=(blk_cell (blk_below HY2j.out hS) 4).trans rfl;have d11:=(blk_cell (blk_below HY2j.out hS) 5).trans rfl;have d12:=cell_at hS U0.out;have d13:=cell_at hS U1.out;have d14:=cell_at hS U2.out;have d15:=cell_at hS U3.out;have d16:=cell_at hS V0.out;have d17:=cell_at hS V1.out;have d18:=cell_at hS V2.out;have d19:=cell_at hS V3.out;go_simp;with_reducible rfl)
              refine pu_ (.bool R) ?_ 10 (some 92) (lb 11 0x7ff) ?_ (hy:=by intro w';go_simp;rw [pk_if];exact pk_bool _ _ (fun b => Result.ok (Next.value (.bool b)) w') HRR.out)
              refine done_ (by kernel_rfl) ?_
              have HB2d:=Aside0.mk (below_then HB2.out HB2.out.size hHeld)
              clear hHeld
              cases R
              · have HE : Aside0 (p.packs[j]'hjl = q.packs[j]'hjl2):=⟨by have:=HRR.out;simpa using this⟩
                go_wp2
                go_roundw
                case rel => exact ⟨j + 1,by omega,by go_num,⟨fun i hi hij => by
                  rcases Nat.lt_or_ge i j with h | h
                  · exact HI2.out i hi h
                  · obtain rfl : i = j:=by omega
                    exact HE.out⟩,HB2d⟩
                case measure => simp [intOf];omega
              · have HE : Aside0 (¬ (p.packs[j]'hjl = q.packs[j]'hjl2)):=⟨by have:=HRR.out;simpa using this⟩
                have HNQ : Aside0 (¬ xs = ys):=⟨by
                  rintro rfl
                  have h1:=HPQ.out
                  have h2 : p = q:=h1.1.trans h1.2.symm
                  subst h2
                  exact HE.out rfl⟩
                go_wp2
                go_ret
                exact ⟨ret_bool (by symm;rw [decide_eq_false_iff_not];exact HNQ.out),below_then HB0.out HB0.out.size (below_then HB.out HB.out.size (below_then HBY0.out HBY0.out.size HB2d.out))⟩
            · have HEQ : Aside0 (xs[k]'hlt = ys[k]'hlt2):=⟨by
                have h1:=HPQ.out
                rw [← h1.1,← h1.2]
                have h3 : p.packs = q.packs:=List.ext_getElem HE2.out (fun i hi _ => HI2.out i hi (by omega))
                have h4:=HE1.out
                obtain ⟨pa,pb⟩:=p
                obtain ⟨qa,qb⟩:=q
                simp only at h3 h4
                rw [h3,h4]⟩
              have HB4:=Aside0.mk (below_then HB.out HB.out.size (below_then HBY0.out HBY0.out.size HB2.out))
              go_wp2
              go_roundw
              case rel => exact ⟨k + 1,by omega,by go_num,⟨fun j hj hjk => by
                rcases Nat.lt_or_ge j k with h | h
                · exact HI.out j hj h
                · obtain rfl : j = k:=by omega
                  exact HEQ.out⟩,HB4⟩
              case measure => simp [intOf];omega
        · have HNQ : Aside0 (¬ xs = ys):=⟨by
            rintro rfl
            have h1:=HPQ.out
            have h2 : p = q:=h1.1.trans h1.2.symm
            subst h2
            exact he ⟨rfl,rfl⟩⟩
          have HB4:=Aside0.mk (below_then HB0.out HB0.out.size (below_then HB.out HB.out.size HBY0.out))
          have h0:=nod_ne he
          clear he
          rcases h0 with h | ⟨h1,h⟩ | ⟨h1,h2,h⟩ | ⟨h1,h2,h3,h⟩ | ⟨h1,h2,h3,h4,h⟩ | ⟨h1,h2,h3,h4,h5,h⟩
          · have n0 : (p.lab.sym != q.lab.sym) = true:=by simpa using h
            clear h
            go_wp2
            go_ret
            exact ⟨ret_bool (by symm;rw [decide_eq_false_iff_not];exact HNQ.out),HB4.out⟩
          · have n0 : (p.lab.sym != q.lab.sym) = false:=by simpa using h1
            have n1 : (p.lab.rule != q.lab.rule) = true:=by simpa using h
            clear h h1
            go_wp2
            go_ret
            exact ⟨ret_bool (by symm;rw [decide_eq_false_iff_not];exact HNQ.out),HB4.out⟩
          · have n0 : (p.lab.sym != q.lab.sym) = false:=by simpa using h1
            have n1 : (p.lab.rule != q.lab.rule) = false:=by simpa using h2
            have n2 : (p.lab.dot != q.lab.dot) = true:=by simpa using h
            clear h h1 h2
            go_wp2
            go_ret
            exact ⟨ret_bool (by symm;rw [decide_eq_false_iff_not];exact HNQ.out),HB4.out⟩
          · have n0 : (p.lab.sym != q.lab.sym) = false:=by simpa using h1
            have n1 : (p.lab.rule != q.lab.rule) = false:=by simpa using h2
            have n2 : (p.lab.dot != q.lab.dot) = false:=by simpa using h3
            have n3 : (p.lab.i != q.lab.i) = true:=by simpa using h
            clear h h1 h2 h3
            go_wp2
            go_ret
            exact ⟨ret_bool (by symm;rw [decide_eq_false_iff_not];exact HNQ.out),HB4.out⟩
          · have n0 : (p.lab.sym != q.lab.sym) = false:=by simpa using h1
            have n1 : (p.lab.rule != q.lab.rule) = false:=by simpa using h2
            have n2 : (p.lab.dot != q.lab.dot) = false:=by simpa using h3
            have n3 : (p.lab.i != q.lab.i) = false:=by simpa using h4
            have n4 : (p.lab.j != q.lab.j) = true:=by simpa using h
            clear h h1 h2 h3 h4
            go_wp2
            go_ret
            exact ⟨ret_bool (by symm;rw [decide_eq_false_iff_not];exact HNQ.out),HB4.out⟩
          · have n0 : (p.lab.sym != q.lab.sym) = false:=by simpa using h1
            have n1 : (p.lab.rule != q.lab.rule) = false:=by simpa using h2
            have n2 : (p.lab.dot != q.lab.dot) = false:=by simpa using h3
            have n3 : (p.lab.i != q.lab.i) = false:=by simpa using h4
            have n4 : (p.lab.j != q.lab.j) = false:=by simpa using h5
            have n5 : ((p.packs.length : Int) != (q.packs.length : Int)) = true:=by simp;omega
            clear h h1 h2 h3 h4 h5
            go_wp2
            go_ret
            exact ⟨ret_bool (by symm;rw [decide_eq_false_iff_not];exact HNQ.out),HB4.out⟩
      · have a0:=(blk_cell HPk.out 0).trans rfl
        have b0:=(blk_cell HQk.out 0).trans rfl
        go_wp2
        go_ret
        exact ⟨ret_bool (by symm;rw [decide_eq_true_eq];exact List.ext_getElem HL.out (fun j hj _ => HI.out j hj (by omega))),below_then HB0.out HB0.out.size HB.out⟩
  · have hlb : ((xs.length : Int) != (ys.length : Int)) = true:=by simp;omega
    have HL:=Aside0.mk hl
    clear hl
    go_enter Try.func36,Try.ntmps36
    go_upto_region 1 with (fail)
    simp only [← hv0]
    simp only [← hz1]
    simp only [← hz0]
    clear hv0 hz0 hz1
    go_wp2
    go_ret
    exact ⟨ret_bool (by symm;rw [decide_eq_false_iff_not];rintro rfl;exact HL.out rfl),HB0.out⟩
end Go.Proofs.Ytmkgcjhimajgiaa


set_option linter.unusedVariables false
set_option linter.unusedSimpArgs false
namespace Go.Proofs.Ytmkgcjhimajgiaa
open Go.RowKit Go.Proofs.YtmkgcjhimajgiaaW.PrintWords Go.Deep Go.ChangeShapes Go.WideShapes

def PackI (p : PackN) : Prop:=I64 p.rule ∧ I64 p.pivot ∧ I64 p.left ∧ I64 p.right
def LabB (x : Lab) : Prop:=I64 x.sym ∧ I64 x.rule ∧ I64 x.dot ∧ I64 x.i ∧ I64 x.j
def NodI (x : Nod) : Prop:=LabB x.lab ∧ ∀ p ∈ x.packs,PackI p
section
variable {H : Type} {enc : TypeId × Value → H} {w : World} {base : Nat} {spare : Nat → Bool} {held : Bool} {fuel : Nat}
end
end Go.Proofs.Ytmkgcjhimajgiaa

