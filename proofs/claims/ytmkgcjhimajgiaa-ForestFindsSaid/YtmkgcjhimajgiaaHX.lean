/- Contracts of functions of the program, and plain laws (texts N20, P43, F7, F8), joined: each theorem says what it proves. -/
import Derived.Test.YtmkgcjhimajgiaaFW
import Derived.Test.YtmkgcjhimajgiaaFA
import Derived.Test.YtmkgcjhimajgiaaFB
import Derived.Test.YtmkgcjhimajgiaaFC
import Derived.Test.YtmkgcjhimajgiaaFD
import Derived.Test.YtmkgcjhimajgiaaFE
import Derived.Test.YtmkgcjhimajgiaaFN
import Derived.Test.YtmkgcjhimajgiaaFK
import Derived.Test.YtmkgcjhimajgiaaFH
import Derived.Test.YtmkgcjhimajgiaaFI
import Derived.Test.YtmkgcjhimajgiaaFG
import Derived.Test.YtmkgcjhimajgiaaFP
import Derived.Test.YtmkgcjhimajgiaaFS
import Derived.Test.YtmkgcjhimajgiaaFT
import Derived.Test.YtmkgcjhimajgiaaFU
import Derived.Test.YtmkgcjhimajgiaaFI2
import Derived.OrdersHeld
import Derived.Deep.RegionHeld3
import Derived.Laws.BitsLemmas
import Derived.RowKit
import Derived.Below
import Derived.Deep.Draws
import Derived.Deep.AppendLies
import Derived.Maps.AppendAt
import Derived.OwnWalk
import Derived.Laws.BytesArg
import Derived.Laws.MakeOwn
import Derived.Laws.OwnMore
import Derived.Deep.OwnRows
import Derived.Tactics
import Derived.Lib.ConvBytes
import Derived.Laws.Slices
import Derived.WalkKit
import Derived.KernelRfl
import Derived.RowKit3
import Derived.Deep.LoopGhost
import Derived.Deep.QuietTactic
import Derived.BigQuiet
import Derived.WideLaws
import Derived.Deep.DeepCutAuto
import Derived.Deep.CutBlock
import Derived.Laws.Rows
import Derived.Lib.AppendStr
import Derived.ArgAppend
import Derived.Laws.IdiomCopy
import Derived.Lib.Hide
import Derived.WalkLawsBesides
import Derived.WalkSpells
import Derived.StillTailTactics
import Derived.Recover
import Derived.Conc.LoneCalls
import Derived.Conc.LoneSelect
import Derived.Conc.SmallLaws
import Derived.Maps.OwnSet
import Derived.DeepKeys4
import Derived.MapViews
import Derived.ChangeSame
import Derived.Deep.Cut
import Derived.Deep.Slices
import Derived.Lib.SmallJoins
import Derived.ProofKit
import Derived.OpenShut
import Derived.ShutString
import Derived.ChangeOld
import Derived.Deep.Strs
set_option linter.unusedVariables false
set_option linter.unusedSimpArgs false
namespace Go.Proofs.Ytmkgcjhimajgiaa
open Go.RowKit Go.Proofs.YtmkgcjhimajgiaaW.PrintWords Go.Proofs.YtmkgcjhimajgiaaW.PrintLast Go.Conc

theorem sizeFo_take (F : Forest) {k : Nat} (hk : k < F.length) : sizeFo (F.take (k + 1)) = sizeFo (F.take k) + (1 + (F[k]'hk).packs.length):=by
  unfold sizeFo
  rw [List.take_succ_eq_append_getElem hk,List.map_append,List.sum_append]
  simp
set_option maxRecDepth 100000 in
set_option maxHeartbeats 2000000 in
theorem largeFo_c (F : Forest) (A : Option Addr) (c : Nat) (w : World) (hr : kNode.C w A F.length F) :
    Calls Try.prog 32 #[.agg #[.slice A F.length c]] w fun e w' => LargeFo F e ∧ Below w.heap.size w w':=by
  have hm:=C_max hr
  have HP:=Aside0.mk (blk_new w (.cells #[.slice A F.length c] 63 (0,0)))
  have HB:=Aside0.mk (below_alloc (Below.refl w.heap.size w) (.cells #[.slice A F.length c] 63 (0,0)))
  have HR:=Aside0.mk (Kd.C_below hr HB.out)
  obtain ⟨v0,hv0⟩ : ∃ v0,v0 = w.alloc (.cells #[.slice A F.length c] 63 (0,0)):=⟨_,rfl⟩
  obtain ⟨x0,hx0⟩ : ∃ x0,x0 = w.heap.size:=⟨_,rfl⟩
  rw [← hv0,← hx0] at HP
  rw [← hv0] at HB HR
  have a0:=(blk_cell HP.out 0).trans rfl
  clear hr
  go_enter Try.func32,Try.ntmps32
  go_upto_region 1 with (fail)
  simp only [← hv0]
  simp only [← hx0]
  clear hv0 hx0
  go_wp2
  go_loop [4,3] (fun i nv => ∃ (k : Nat) (n : Int),k ≤ F.length ∧ i = .int .i64 k ∧ nv = .int .i64 n ∧ 0 ≤ n ∧ n ≤ 6001 ∧ Aside0 ((n ≤ 3000 → (sizeFo (F.take k) : Int) = n))) (fun i _ => F.length - (intOf i).toNat)
  case atStart => exact ⟨0,0,Nat.zero_le _,rfl,rfl,by omega,by omega,⟨fun _ => by simp [sizeFo]⟩⟩
  case round =>
    obtain ⟨k,n,hk,rfl,rfl,hn0,hn,HS⟩:=hrel
    by_cases hlt : k < F.length
    · by_cases h4 : n ≤ 3000
      · have i1 : (0 : Int) ≤ (k : Int):=by omega
        have i2 : (k : Int) < (F.length : Int):=by omega
        obtain ⟨ad,Ap,cp,ead,hx0,hx1,hx2,hx3,hx4,hx5,hcp,hCp⟩:=at_node HR.out k hlt
        cases ead
        obtain ⟨np,hnp⟩ : ∃ np,np = (F[k]'hlt).packs.length:=⟨_,rfl⟩
        have hst:=sizeFo_take F hlt
        rw [← hnp] at hx5 hst
        have HS2 : Aside0 (((sizeFo (F.take k) : Nat) : Int) = n):=⟨HS.out h4⟩
        have HST:=Lib.hid hst
        clear hst hnp hCp hcp
        go_wp2
        go_roundw
        case rel =>
          refine ⟨k + 1,_,by omega,by go_num,rfl,?_,?_,⟨?_⟩⟩
          · split <;> go_num
          · split <;> go_num
          · intro h5
            rw [HST.out]
            have:=HS2.out
            revert h5
            split <;> intro h5 <;> go_num
        case measure => simp [intOf];omega
      · go_wp2
        go_ret
        exact ⟨⟨_,rfl,fun h => by simp at h <;> omega⟩,HB.out⟩
    · have hke : k = F.length:=by omega
      have HS2 : Aside0 (n ≤ 3000 → sizeFo F ≤ 3000):=⟨fun h => by have:=HS.out h;rw [hke,List.take_length] at this;omega⟩
      go_wp2
      go_ret
      exact ⟨⟨_,rfl,fun h => HS2.out (by simpa using h)⟩,HB.out⟩
end Go.Proofs.Ytmkgcjhimajgiaa


set_option linter.unusedVariables false
set_option linter.unusedSimpArgs false
namespace Go.Proofs.Ytmkgcjhimajgiaa
open Go.RowKit Go.Proofs.YtmkgcjhimajgiaaW.PrintWords Go.Proofs.YtmkgcjhimajgiaaW.PrintLast Go.Conc

theorem posF_first {α : Type} {p : α → Bool} : ∀ (l : List α) (m i : Nat) (hi : i < l.length),p l[i] = true → ∃ (k : Nat) (hk : k < l.length),k ≤ i ∧ posF p l m = ((m + k : Nat) : Int) ∧ p l[k] = true
  | [],m,i,hi,h => absurd hi (Nat.not_lt_zero _)
  | a :: l,m,i,hi,h => by
    unfold posF
    by_cases ha : p a = true
    · rw [if_pos ha]
      exact ⟨0,Nat.succ_pos _,Nat.zero_le _,by simp,ha⟩
    · rw [if_neg ha]
      cases i with
      | zero => exact absurd h ha
      | succ i =>
        obtain ⟨k,hk,h1,h2,h3⟩:=posF_first l (m + 1) i (by simpa using hi) (by simpa using h)
        exact ⟨k + 1,by simpa using hk,by omega,by rw [h2];congr 1;omega,by simpa using h3⟩
theorem posN_at {F : Forest} {i : Nat} (hi : i < F.length) : ∃ (k : Nat) (hk : k < F.length),k ≤ i ∧ posN F F[i].lab = (k : Int) ∧ F[k].lab = F[i].lab:=by
  obtain ⟨k,hk,h1,h2,h3⟩:=posF_first (p:=fun y : Nod => decide (y.lab = F[i].lab)) F 0 i hi (by simp)
  exact ⟨k,hk,h1,by unfold posN;rw [h2];simp,of_decide_eq_true h3⟩
def hasN (F : Forest) (x : Lab) : Bool:=F.any fun y => decide (y.lab = x)
theorem posN_has (F : Forest) (x : Lab) : decide (0 ≤ posN F x) = hasN F x:=posF_any _ _ _
theorem hasN_take {F : Forest} {x : Lab} {k : Nat} (hk : k < F.length) : hasN (F.take (k + 1)) x = (hasN (F.take k) x || decide (F[k].lab = x)):=by
  unfold hasN
  rw [List.take_succ_eq_append_getElem hk,List.any_append]
  simp
end Go.Proofs.Ytmkgcjhimajgiaa


set_option linter.unusedVariables false
set_option linter.unusedSimpArgs false
namespace Go.Proofs.Ytmkgcjhimajgiaa
open Go.RowKit Go.Proofs.YtmkgcjhimajgiaaW.PrintWords Go.Deep Go.ChangeShapes Go.WideShapes

section
variable {H : Type} {enc : TypeId × Value → H} {w : World} {base : Nat} {spare : Nat → Bool} {held : Bool} {fuel : Nat}
set_option maxRecDepth 100000 in
theorem one_int {u : Value} {m : Nat} {y : DataW H × List MemPlace} (h : DataW.trod enc Try.prog w base spare held m 3 [u] = some y) : ∃ x : Int,u = .int .i64 x ∧ I64 x:=by
  obtain ⟨x,hx,_,wx⟩:=DataW.trod_int Try.underlying3 h
  injection hx with hx _
  exact ⟨x,hx,bounds_i64 wx⟩
set_option maxRecDepth 100000 in
theorem struct_cells {t : TypeId} {fs : Array Field} {v : Value} {r : Reach} {b0 : Nat} {n : Nat} (ht : Try.prog.underlying t = some (.struct fs)) (hn : Try.prog.cellsOf t = n) (hv : Value.okWide Try.prog w r b0 t v) : ∃ l : List Value,v = .agg l.toArray ∧ l.length = n ∧ (Value.cells v).toList = l:=by
  obtain ⟨cs,rfl,hsz⟩:=okWide_struct ht hv
  exact ⟨cs.toList,rfl,by simpa [hn] using hsz,by simp [Value.cells]⟩
end
end Go.Proofs.Ytmkgcjhimajgiaa


set_option linter.unusedVariables false
set_option linter.unusedSimpArgs false
namespace Go.Proofs.Ytmkgcjhimajgiaa
open Go.RowKit Go.Proofs.YtmkgcjhimajgiaaW.PrintWords Go.Deep Go.ChangeShapes Go.WideShapes

section
variable {H : Type} {enc : TypeId × Value → H} {w : World} {base : Nat} {spare : Nat → Bool} {held : Bool} {fuel : Nat}
set_option maxRecDepth 100000 in
theorem pack_cells {m : Nat} {u0 u1 u2 u3 : Value} {y : DataW H × List MemPlace} (h : DataW.trod enc Try.prog w base spare held m 82 [u0,u1,u2,u3] = some y) : ∃ p : PackN,[u0,u1,u2,u3] = [.int .i64 p.rule,.int .i64 p.pivot,.int .i64 p.left,.int .i64 p.right] ∧ PackI p:=by
  obtain ⟨xs,n,_,_,_,hlen,hf⟩:=DataW.trod_struct Try.underlying82 h
  match xs,hlen with
  | [y0,y1,y2,y3],_ =>
    have e0 : DataW.trod enc Try.prog w base spare held n 3 [u0] = some y0:=hf 0 _ rfl
    have e1 : DataW.trod enc Try.prog w base spare held n 3 [u1] = some y1:=hf 1 _ rfl
    have e2 : DataW.trod enc Try.prog w base spare held n 3 [u2] = some y2:=hf 2 _ rfl
    have e3 : DataW.trod enc Try.prog w base spare held n 3 [u3] = some y3:=hf 3 _ rfl
    obtain ⟨a,rfl,ha⟩:=one_int e0
    obtain ⟨b,rfl,hb⟩:=one_int e1
    obtain ⟨c,rfl,hc⟩:=one_int e2
    obtain ⟨d,rfl,hd⟩:=one_int e3
    exact ⟨⟨a,b,c,d⟩,rfl,ha,hb,hc,hd⟩
set_option maxRecDepth 100000 in
theorem packs_open {v : Value} {x : DataW H × List MemPlace} (h : DataW.trod enc Try.prog w base spare held fuel 64 [v] = some x) : ∃ A n c xs,v = .slice A n c ∧ n = xs.length ∧ n ≤ c ∧ kPk.C w A n xs ∧ ∀ p ∈ xs,PackI p :=
  C_openP (d:=kPk) PackI Try.underlying64 (by kernel_rfl) (fun n cs y hy => by
    obtain ⟨xs,m,_,_,hl,hlen,hf⟩:=DataW.trod_struct Try.underlying82 hy
    have hl4 : cs.length = 4:=hl.trans (by kernel_rfl)
    match cs,hl4 with
    | [u0,u1,u2,u3],_ =>
      obtain ⟨p,e,hp⟩:=pack_cells hy
      refine ⟨p,?_,hp⟩
      rw [e]
      exact kPk.K_of_M (M_pk w 0 (fun _ => True) p)) h
set_option maxRecDepth 100000 in
theorem node_cells {m : Nat} {u0 u1 u2 u3 u4 u5 : Value} {y : DataW H × List MemPlace} (h : DataW.trod enc Try.prog w base spare held m 66 [u0,u1,u2,u3,u4,u5] = some y) :
    ∃ (x : Nod) (A : Option Addr) (c : Nat),[u0,u1,u2,u3,u4,u5] = [.int .i64 x.lab.sym,.int .i64 x.lab.rule,.int .i64 x.lab.dot,.int .i64 x.lab.i,.int .i64 x.lab.j,.slice A x.packs.length c] ∧ x.packs.length ≤ c ∧ kPk.C w A x.packs.length x.packs ∧ NodI x:=by
  obtain ⟨xs,n,_,_,_,hlen,hf⟩:=DataW.trod_struct Try.underlying66 h
  match xs,hlen with
  | [y0,y1,y2,y3,y4,y5],_ =>
    have e0 : DataW.trod enc Try.prog w base spare held n 3 [u0] = some y0:=hf 0 _ rfl
    have e1 : DataW.trod enc Try.prog w base spare held n 3 [u1] = some y1:=hf 1 _ rfl
    have e2 : DataW.trod enc Try.prog w base spare held n 3 [u2] = some y2:=hf 2 _ rfl
    have e3 : DataW.trod enc Try.prog w base spare held n 3 [u3] = some y3:=hf 3 _ rfl
    have e4 : DataW.trod enc Try.prog w base spare held n 3 [u4] = some y4:=hf 4 _ rfl
    have e5 : DataW.trod enc Try.prog w base spare held n 64 [u5] = some y5:=hf 5 _ rfl
    obtain ⟨a,rfl,ha⟩:=one_int e0
    obtain ⟨b,rfl,hb⟩:=one_int e1
    obtain ⟨c,rfl,hc⟩:=one_int e2
    obtain ⟨d,rfl,hd⟩:=one_int e3
    obtain ⟨e,rfl,he⟩:=one_int e4
    obtain ⟨A,k,cc,ps,rfl,rfl,hcc,hC,hP⟩:=packs_open e5
    exact ⟨⟨⟨a,b,c,d,e⟩,ps⟩,A,cc,rfl,hcc,hC,⟨ha,hb,hc,hd,he⟩,hP⟩
set_option maxRecDepth 100000 in
theorem nodes_open {v : Value} {x : DataW H × List MemPlace} (h : DataW.trod enc Try.prog w base spare held fuel 61 [v] = some x) : ∃ A n c xs,v = .slice A n c ∧ n = xs.length ∧ n ≤ c ∧ kNode.C w A n xs ∧ ∀ p ∈ xs,NodI p :=
  C_openP (d:=kNode) NodI Try.underlying61 (by kernel_rfl) (fun n cs y hy => by
    obtain ⟨xs,m,_,_,hl,hlen,hf⟩:=DataW.trod_struct Try.underlying66 hy
    have hl6 : cs.length = 6:=hl.trans (by kernel_rfl)
    match cs,hl6 with
    | [u0,u1,u2,u3,u4,u5],_ =>
      obtain ⟨p,A,c,e,h1,h2,h3⟩:=node_cells hy
      refine ⟨p,?_,h3⟩
      rw [e]
      exact K_node_of h1 h2) h
set_option maxRecDepth 100000 in
theorem forest_open {v : Value} {dd : DataW H} {p : List MemPlace} {r : Reach} {b0 : Nat} (hv : Value.okWide Try.prog w r b0 63 v) (h : DataW.Trod enc Try.prog w base spare held 63 v dd p) :
    ∃ (F : Forest) (A : Option Addr) (c : Nat),v = .agg #[.slice A F.length c] ∧ F.length ≤ c ∧ kNode.C w A F.length F ∧ ∀ x ∈ F,NodI x:=by
  obtain ⟨l,rfl,hl,hcl⟩:=struct_cells (n:=1) Try.underlying63 (by kernel_rfl) hv
  obtain ⟨fuel,hf⟩:=h
  rw [hcl] at hf
  match l,hl with
  | [u0],_ =>
    obtain ⟨xs,n,_,_,_,hlen,hg⟩:=DataW.trod_struct Try.underlying63 hf
    match xs,hlen with
    | [y0],_ =>
      have e0 : DataW.trod enc Try.prog w base spare held n 61 [u0] = some y0:=hg 0 _ rfl
      obtain ⟨A,k,c,F,rfl,rfl,hc,hC,hP⟩:=nodes_open e0
      exact ⟨F,A,c,rfl,hc,hC,hP⟩
end
end Go.Proofs.Ytmkgcjhimajgiaa

