/- Contracts of functions of the program, and plain laws (texts X1, X2, T2), joined: each theorem says what it proves. -/
import Derived.Test.YtmkgcjhimajgiaaFB
import Derived.Conc.LoneCalls
import Derived.Conc.LoneSelect
import Derived.Test.YtmkgcjhimajgiaaFA
set_option linter.unusedVariables false
set_option linter.unusedSimpArgs false
namespace Go.Proofs.Ytmkgcjhimajgiaa
open Go.RowKit Go.Conc

/-- As Code.wp,of frames of ordinary calls alone. -/
def wpN (P : Program) (c : Code) (Q : Exit → Act → World → Prop) (a : Act) (w : World) : Prop :=
  ∀ (b : Frame) (k : List Item) (cs : List Frame),b.kind ≠ .early → ∃ e a' w',Q e a' w' ∧ Arrives P (lone (b.at a (.code c :: k)) cs w) b k cs e a' w'
/-- In the midst of a region. -/
def inN (P : Program) (ops : Array Oper) (l : List Nat) (Q : Exit → Act → World → Prop) (a : Act) (w : World) : Prop :=
  ∀ (b : Frame) (k : List Item) (cs : List Frame),b.kind ≠ .early → ∃ e a' w',Q e a' w' ∧ Arrives P (lone (b.at a (.inRegion ops l :: k)) cs w) b k cs e a' w'
section
variable {P : Program} {Q : Exit → Act → World → Prop} {a : Act} {w : World}
theorem wpN_of_wp {c : Code} (h : c.wp P Q a w) : wpN P c Q a w:=fun b k cs _ => h b k cs
theorem wpN_seq {x y : Code} (h : wpN P x (Exit.then (wpN P y Q) Q) a w) : wpN P (Code.seq x y) Q a w:=by
  intro b k cs hb
  obtain ⟨e,a₁,w₁,hq,harr⟩:=h b (.code y :: k) cs hb
  cases e with
  | normal =>
    obtain ⟨e₂,a₂,w₂,hq₂,harr₂⟩:=hq b k cs hb
    exact ⟨e₂,a₂,w₂,hq₂,.of_steps (.head step_seq harr) harr₂⟩
  | exit id => exact ⟨_,a₁,w₁,hq,.of_steps (.one step_seq) (.pass (x:=.code y) rfl (fun _ _ => .inl (by simp)) harr)⟩
  | goto l => exact ⟨_,a₁,w₁,hq,.of_steps (.one step_seq) (.pass (x:=.code y) rfl (fun _ _ => .inl (by simp)) harr)⟩
  | ret => exact ⟨_,a₁,w₁,hq,.of_steps (.one step_seq) (.pass (x:=.code y) rfl (fun _ _ => .inl (by simp)) harr)⟩
  | panic ch => exact ⟨_,a₁,w₁,hq,.of_steps (.one step_seq) (.pass (x:=.code y) rfl (fun _ _ => .inl (by simp)) harr)⟩
  | outgrown => exact ⟨_,a₁,w₁,hq,.of_steps (.one step_seq) (.pass (x:=.code y) rfl (fun _ _ => .inl (by simp)) harr)⟩
theorem wpN_seq_k {x y : Code} (h : ∀ K : Act → World → Prop,(∀ a w,wpN P y Q a w → K a w) → x.wp P (Exit.then K Q) a w) : wpN P (Code.seq x y) Q a w :=
  wpN_seq (wpN_of_wp (h _ fun _ _ h => h))
theorem wpN_seq_n {x y : Code} (h : ∀ K : Act → World → Prop,(∀ a w,wpN P y Q a w → K a w) → wpN P x (Exit.then K Q) a w) : wpN P (Code.seq x y) Q a w :=
  wpN_seq (h _ fun _ _ h => h)
theorem wpN_cond {c : Operand} {x y : Code} {t : Bool} (hc : a.eval c = .bool t) (h : wpN P (if t then x else y) Q a w) : wpN P (Code.cond c x y) Q a w :=
  fun b k cs hb => let ⟨e,a',w',q,r⟩:=h b k cs hb;⟨e,a',w',q,.of_steps (.one (step_cond hc)) r⟩
theorem wpN_block {id : Nat} {c : Code} (h : wpN P c (Exit.inBlock id Q) a w) : wpN P (Code.block id c) Q a w:=by
  intro b k cs hb
  obtain ⟨e,a₁,w₁,hq,harr⟩:=h b (.inBlock id :: k) cs hb
  cases e with
  | normal => exact ⟨.normal,a₁,w₁,hq,.head step_block (Steps.trans harr (.one step_inBlock))⟩
  | exit id' =>
    by_cases hid : id' = id
    · simp only [Exit.inBlock,hid,if_true] at hq
      exact ⟨.normal,a₁,w₁,hq,.head step_block (harr k (by simp [exitTo,hid]))⟩
    · simp only [Exit.inBlock,hid,if_false] at hq
      refine ⟨.exit id',a₁,w₁,hq,fun k' hk => .head step_block (harr k' ?_)⟩
      have : (id == id') = false:=by simp;exact fun h => hid h.symm
      simp [exitTo,this,hk]
  | goto l => exact ⟨_,a₁,w₁,hq,fun k' hk => .head step_block (harr k' (by simp [gotoIn,hk]))⟩
  | ret => exact ⟨_,a₁,w₁,hq,.of_steps (.one step_block) harr⟩
  | panic ch => exact ⟨_,a₁,w₁,hq,.of_steps (.one step_block) harr⟩
  | outgrown => exact ⟨_,a₁,w₁,hq,.of_steps (b:=b) (k:=k) (cs:=cs) (e:=.outgrown) (.one step_block) harr⟩
theorem wpN_loop {c : Code} (I : Act → World → Prop) (μ : Act → World → Nat) (h₀ : I a w)
    (round : ∀ a w,I a w → ∀ K : Act → World → Prop,(∀ a' w',I a' w' ∧ μ a' w' < μ a w → K a' w') → wpN P c (Exit.then K Q) a w) : wpN P (Code.loop c) Q a w:=by
  intro b k cs hb
  have key : ∀ n a w,μ a w = n → I a w →
      ∃ e a' w',Q e a' w' ∧ Arrives P (lone (b.at a (.code c :: .inLoop c :: k)) cs w) b k cs e a' w':=by
    intro n
    induction n using Nat.strongRecOn with
    | _ n ih =>
      intro a w hn hI
      obtain ⟨e,a₁,w₁,hq,harr⟩:=round a w hI (fun a' w' => I a' w' ∧ μ a' w' < μ a w) (fun _ _ h => h) b (.inLoop c :: k) cs hb
      cases e with
      | normal =>
        obtain ⟨hI₁,hlt⟩:=hq
        obtain ⟨e₂,a₂,w₂,hq₂,harr₂⟩:=ih (μ a₁ w₁) (hn ▸ hlt) a₁ w₁ rfl hI₁
        exact ⟨e₂,a₂,w₂,hq₂,.of_steps (Steps.trans harr (.one step_inLoop)) harr₂⟩
      | exit id => exact ⟨_,a₁,w₁,hq,.pass (x:=.inLoop c) rfl (fun _ _ => .inl (by simp)) harr⟩
      | goto l => exact ⟨_,a₁,w₁,hq,.pass (x:=.inLoop c) rfl (fun _ _ => .inl (by simp)) harr⟩
      | ret => exact ⟨_,a₁,w₁,hq,.pass (x:=.inLoop c) rfl (fun _ _ => .inl (by simp)) harr⟩
      | panic ch => exact ⟨_,a₁,w₁,hq,.pass (x:=.inLoop c) rfl (fun _ _ => .inl (by simp)) harr⟩
      | outgrown => exact ⟨_,a₁,w₁,hq,.pass (x:=.inLoop c) rfl (fun _ _ => .inl (by simp)) harr⟩
  obtain ⟨e,a',w',hq,harr⟩:=key _ a w rfl h₀
  exact ⟨e,a',w',hq,.of_steps (.one step_loop) harr⟩
variable {ops : Array Oper} {i : Nat} {rest : List Nat} {o : Oper}
theorem wpN_region {id : Nat} (h : inN P ops (List.range ops.size) Q a w) : wpN P (Code.region id ops false) Q a w :=
  fun b k cs hb => let ⟨e,a',w',q,r⟩:=h b k cs hb;⟨e,a',w',q,.of_steps (.one step_region) r⟩
theorem inN_nil (h : Q .normal a w) : inN P ops [] Q a w:=fun b k cs _ => ⟨.normal,a,w,h,.one step_region_end⟩
theorem inN_value {v : Value} {w' : World} (ho : ops[i]? = some o) (hw : Region.wanted o (yielded ops a.tmps) = true) (hr : (execOp a.eval o).run P w = .ok (.value v) w')
    (h : inN P ops rest Q (a.put o.dst v) w') : inN P ops (i :: rest) Q a w:=by
  intro b k cs hb
  obtain ⟨e,a',w'',hq,harr⟩:=h b k cs hb
  refine ⟨e,a',w'',hq,.of_steps (.one (step_lone_go ?_)) harr⟩
  have hfin : (b.at a (.inRegion ops (i :: rest) :: k)).finish v = b.at (a.put o.dst v) (.inRegion ops rest :: k):=by
    rw [Frame.finish_at,ho];rfl
  rw [stepG_op ho hw,← hfin]
  simp [stepG.apply,hr]
theorem inN_comm {cases : Array CommCase} {blocking : Bool} {shape : CommShape} {w₁ w' : World} {v : Value} (ho : ops[i]? = some o) (hw : Region.wanted o (yielded ops a.tmps) = true)
    (hr : (execOp a.eval o).run P w = .ok (.comm cases blocking shape) w₁)
    (hs : ∀ (fr : Frame) (cs : List Frame) es,stepG P true (G fr cs) w = .comm (G fr cs) cases blocking shape w₁ es → step P (solo (G fr cs) w) = .next (solo (G (fr.finish v) cs) w'))
    (h : inN P ops rest Q (a.put o.dst v) w') : inN P ops (i :: rest) Q a w:=by
  intro b k cs hb
  obtain ⟨e,a',w'',hq,harr⟩:=h b k cs hb
  refine ⟨e,a',w'',hq,.of_steps (.one ?_) harr⟩
  have hfin : (b.at a (.inRegion ops (i :: rest) :: k)).finish v = b.at (a.put o.dst v) (.inRegion ops rest :: k):=by
    rw [Frame.finish_at,ho];rfl
  have:=hs (b.at a (.inRegion ops (i :: rest) :: k)) cs _ (stepG_comm ho hw hb hr)
  rw [hfin] at this
  exact this
variable {c cap s r : Nat} {buf : Array Value} {z z' v : Value} {tm closed : Bool} {w₁ : World}
theorem inN_send (ho : ops[i]? = some o) (hw : Region.wanted o (yielded ops a.tmps) = true) (hr : (execOp a.eval o).run P w = .ok (.comm #[scase c v z'] true .send) w₁)
    (hc : w₁.heap[c]? = some (.chan cap buf false s r tm)) (hroom : buf.size < cap) (h : inN P ops rest Q (a.put o.dst undef) (w₁.setChan c cap (buf.push v) false (s + 1) r tm)) : inN P ops (i :: rest) Q a w :=
  inN_comm ho hw hr (fun fr cs es he => step_lone_send_room he hc hroom) h
theorem inN_take (ho : ops[i]? = some o) (hw : Region.wanted o (yielded ops a.tmps) = true) (hr : (execOp a.eval o).run P w = .ok (.comm #[rcase c z] false .select) w₁)
    (hc : w₁.heap[c]? = some (.chan cap buf closed s r tm)) (hsome : 0 < buf.size) (h : inN P ops rest Q (a.put o.dst (.tuple #[goInt 0,.bool true,buf.getD 0 undef])) (w₁.setChan c cap (buf.extract 1 buf.size) closed s (r + 1) tm)) : inN P ops (i :: rest) Q a w :=
  inN_comm ho hw hr (fun fr cs es he => step_lone_select_recv_buf he hc hsome) h
theorem inN_default (ho : ops[i]? = some o) (hw : Region.wanted o (yielded ops a.tmps) = true) (hr : (execOp a.eval o).run P w = .ok (.comm #[rcase c z] false .select) w₁)
    (hc : w₁.heap[c]? = some (.chan cap #[] false s r tm)) (h : inN P ops rest Q (a.put o.dst (.tuple #[goInt (-1),.bool false,z])) w₁) : inN P ops (i :: rest) Q a w :=
  inN_comm ho hw hr (fun fr cs es he => step_lone_select_default he hc) h
end
theorem calls_of_wpN {P : Program} {f : FuncId} {fn : Func} {c : Code} {args : Array Value} {w : World} {R : Ending → World → Prop}
    (hf : P.funcs[f]? = some fn) (hb : fn.body = some c)
    (h : wpN P c (bodyPost P fn R) { tmps:=args ++ Array.replicate (fn.ntmps - args.size) undef,defers:=[] } w) :
    Calls P f args w R:=by
  intro cs
  let b : Frame:={ (default : Frame) with fn:=f,kind:=.normal }
  have henter : Frame.enter P f args .normal =
      b.at { tmps:=args ++ Array.replicate (fn.ntmps - args.size) undef,defers:=[] } [.code c]:=by
    simp [Frame.enter,Frame.at,hf,hb,b]
  obtain ⟨e,a',w',hq,harr⟩:=h b [] cs (by simp [b])
  rw [← henter] at harr
  cases e with
  | normal =>
    obtain ⟨hd,v,hr,hR⟩:=hq
    exact ⟨.returned v,w',_,hR,Steps.trans harr (.one step_end),rfl,rfl,hd,rfl,fn,hf,hr⟩
  | ret =>
    obtain ⟨hd,v,hr,hR⟩:=hq
    obtain ⟨todo,hs⟩:=harr
    exact ⟨.returned v,w',_,hR,hs,rfl,rfl,hd,rfl,fn,hf,hr⟩
  | panic chain =>
    obtain ⟨hd,hR⟩:=hq
    obtain ⟨todo,hs⟩:=harr
    exact ⟨.panicked chain,w',_,hR,hs,rfl,rfl,hd,fn,hf⟩
  | exit id => exact hq.elim
  | goto l => exact hq.elim
  | outgrown => exact ⟨.outgrown,w',b,hq,harr.resolve_left (by simp [b]),rfl,trivial⟩
end Go.Proofs.Ytmkgcjhimajgiaa


set_option linter.unusedVariables false
set_option linter.unusedSimpArgs false
namespace Go.Proofs.Ytmkgcjhimajgiaa
open Go.RowKit Go.Proofs.YtmkgcjhimajgiaaW.PrintWords Go.Proofs.YtmkgcjhimajgiaaW.PrintLast
section
variable {P : Program} {ops : Array Oper} {Q : Exit → Act → World → Prop}
theorem goesC_ {oi : Oper} {N : Option Tmp} {a : Act} {w : World} {K : Act → World → Prop} {f : FuncId} {fn : Func} {az : Array Operand} {ts : Array TypeId} {args : Array Value} {R : Ending → World → Prop} (hf : P.funcs[f]? = some fn) (hname : (fn.name == "runtime.NumGoroutine") = false) (hb : fn.body.isSome = true)
    (hw : Region.wanted oi (yielded ops a.tmps) = true) (hN : oi.dst = N) (hop : oi.op = .call { callee:=.value (.func f),args:=az,argTypes:=ts }) (hc : Calls P f args w R) (hargs : az.map a.eval = args)
    (h : ∀ e w',R e w' → ∃ v,e = .returned v ∧ K (a.put N v) w') : if Region.wanted oi (yielded ops a.tmps) = true then Oper.wp P oi a w K Q else K (a.put N undef) w :=
  goes_ hf hname hb args hw hN hop hargs (hc.mono h)
/-- wpList,closed: so that nothing unfolds it. -/
structure WpL (P : Program) (ops : Array Oper) (Q : Exit → Act → World → Prop) (l : List Oper) (a : Act) (w : World) : Prop where
  out : wpList P ops Q l a w
variable {rest : List Oper} {oi : Oper} {a : Act} {w : World}
theorem pl_start {id : Nat} {l : List Oper} (h : WpL P l.toArray Q l a w) : (Code.region id l.toArray false).wp P Q a w:=wp_region_lit h.out
theorem pl_nil (h : Q .normal a w) : WpL P ops Q [] a w:=⟨h⟩
theorem goesCL_ {f : FuncId} {fn : Func} {az : Array Operand} {ts : Array TypeId} {args : Array Value} {R : Ending → World → Prop} {N : Option Tmp} (hf : P.funcs[f]? = some fn) (hname : (fn.name == "runtime.NumGoroutine") = false) (hb : fn.body.isSome = true)
    (hw : Region.wanted oi (yielded ops a.tmps) = true) (hN : oi.dst = N) (hop : oi.op = .call { callee:=.value (.func f),args:=az,argTypes:=ts }) (hc : Calls P f args w R) (hargs : az.map a.eval = args)
    (h : ∀ e w',R e w' → ∃ v,e = .returned v ∧ WpL P ops Q rest (a.put N v) w') : WpL P ops Q (oi :: rest) a w:=by
  subst hN
  exact ⟨wpList_step fun K hK => goesC_ hf hname hb hw rfl hop hc hargs fun e w' r => let ⟨v,he,h2⟩:=h e w' r;⟨v,he,hK _ _ h2.out⟩⟩
theorem pl_value {N : Option Tmp} {w1 : World} {v : Value} (hw : Region.wanted oi (yielded ops a.tmps) = true) (hN : oi.dst = N) (hrun : (execOp a.eval oi).run P w = .ok (.value v) w1) (h : WpL P ops Q rest (a.put N v) w1) : WpL P ops Q (oi :: rest) a w:=by
  subst hN
  exact ⟨wpList_step fun K hK => value_ hw rfl hrun (hK _ _ h.out)⟩
theorem pl_alloc {N : Option Tmp} {o : Obj} {v : Value} (hw : Region.wanted oi (yielded ops a.tmps) = true) (hN : oi.dst = N) (hrun : (execOp a.eval oi).run P w = .ok (.value v) (w.alloc o))
    (h : ∀ x : World,Below w.heap.size w x → x.heap[w.heap.size]? = some o → x.heap.size = w.heap.size + 1 → Hid (x = w.alloc o) → WpL P ops Q rest (a.put N v) x) : WpL P ops Q (oi :: rest) a w :=
  pl_value hw hN hrun (h _ (below_alloc (Below.refl _ _) _) (blk_new w o) (by simp) (Lib.hid rfl))
theorem pl_held {B : Nat} {v : World} {l : List Oper} (hS : Below B v w) (h : Below B v w → WpL P ops Q l a w) : WpL P ops Q l a w:=h hS
theorem pl_skip {w1 : World} (hw : Region.wanted oi (yielded ops a.tmps) = true) (hN : oi.dst = none) (hrun : (execOp a.eval oi).run P w = .ok .skip w1) (h : WpL P ops Q rest a w1) : WpL P ops Q (oi :: rest) a w :=
  ⟨wpList_step fun K hK => by have:=skip_ (K:=K) (Q:=Q) hw hN hrun (hK _ _ h.out);rw [hN];exact this⟩
theorem pl_world {l : List Oper} {o : Obj} (h : ∀ x : World,Below w.heap.size w x → x.heap[w.heap.size]? = some o → x.heap.size = w.heap.size + 1 → Hid (x = w.alloc o) → WpL P ops Q l a x) : WpL P ops Q l a (w.alloc o) :=
  h _ (below_alloc (Below.refl _ _) _) (blk_new w o) (by simp) (Lib.hid rfl)
theorem pp_ (v : Value) (a' : Act) (h : WpL P ops Q rest a' w) (hw : Region.wanted oi (yielded ops a.tmps) = true:=by rfl) (y : (execOp a.eval oi).run P w = .ok (.value v) w:=by go_simp;rfl)
    (ha : a.put oi.dst v = a':=by simp only [Act.put,List.setIfInBounds_toArray,List.set_cons_zero,List.set_cons_succ];rfl) : WpL P ops Q (oi :: rest) a w:=pl_value hw rfl y (by rw [ha];exact h)
theorem pf_ (a' : Act) (h : WpL P ops Q rest a' w) (hw : Region.wanted oi (yielded ops a.tmps) = false:=by rfl)
    (ha : a.put oi.dst undef = a':=by simp only [Act.put,List.setIfInBounds_toArray,List.set_cons_zero,List.set_cons_succ];rfl) : WpL P ops Q (oi :: rest) a w:=⟨wpList_skip hw (by rw [ha];exact h.out)⟩
end
end Go.Proofs.Ytmkgcjhimajgiaa


set_option linter.unusedVariables false
set_option linter.unusedSimpArgs false
namespace Go.Proofs.Ytmkgcjhimajgiaa
open Go.RowKit Go.Proofs.YtmkgcjhimajgiaaW.PrintWords Go.Proofs.YtmkgcjhimajgiaaW.PrintLast

theorem cell_at {w W : World} {p : Addr} {v : Value} (hb : Below w.heap.size w W) (h : w.cell? p = some v) : W.cell? p = some v:=by
  have hlt : p.block < w.heap.size:=by
    unfold World.cell? at h
    split at h
    · rename_i hb;exact blk_lt hb
    · cases h
  exact (Below.cell hb hlt).trans h
set_option maxRecDepth 100000 in
set_option maxHeartbeats 2000000 in
theorem at1_c (A : Option Addr) (c n : Nat) (l : List ByteArray) (x : ByteArray) (w : World) (hr : kStr.C w A n l) :
    Calls Try.prog 55 #[.slice A n c,.string x] w fun e w' => e = .returned (.int .i64 (idxF l x)) ∧ w = w':=by
  obtain rfl:=C_len hr
  have hm:=C_max hr
  have HR:=Aside0.mk hr
  clear hr
  obtain ⟨R,hR⟩ : ∃ R,idxF l x = R:=⟨_,rfl⟩
  rw [hR]
  have HE:=Aside0.mk hR
  clear hR
  go_enter Try.func55,Try.ntmps55
  go_wp2
  go_loop [5] (fun i => ∃ k : Nat,k ≤ l.length ∧ i = .int .i64 k ∧ Aside0 (posF (fun y => decide (x = y)) (l.drop k) k = R)) (fun i => l.length - (intOf i).toNat)
  case atStart => exact ⟨0,Nat.zero_le _,rfl,⟨HE.out⟩⟩
  case round =>
    clear HE
    obtain ⟨k,hk,rfl,HI⟩:=hrel
    by_cases hlt : k < l.length
    · obtain ⟨ad,ead,hx⟩:=at_str HR.out k hlt
      cases ead
      have i1 : (0 : Int) ≤ (k : Int):=by omega
      have i2 : (k : Int) < (l.length : Int):=by omega
      by_cases he : (l[k]'hlt) = x
      · have hb : ((l[k]'hlt).toList == x.toList) = true:=by rw [str_beq];exact decide_eq_true he
        have HH:=Aside0.mk (posF_hit hlt HI.out (decide_eq_true he.symm))
        clear he
        go_wp2
        go_ret
        exact ⟨ret_int HH.out.symm,rfl⟩
      · have hb : ((l[k]'hlt).toList == x.toList) = false:=by rw [str_beq];exact decide_eq_false he
        have HH:=Aside0.mk (posF_step hlt HI.out (decide_eq_false (fun h => he h.symm)))
        clear he
        go_wp2
        go_round
        case rel => exact ⟨k + 1,by omega,by go_num,HH⟩
        case measure => simp [intOf];omega
    · have HH:=Aside0.mk (posF_end (by omega) HI.out)
      go_wp2
      go_ret
      exact ⟨ret_int HH.out.symm,rfl⟩
def has1_rel (x y : Rule) (k : Nat) : Prop:=x.left = y.left ∧ x.right.length = y.right.length ∧ x.right.take k = y.right.take k
set_option maxRecDepth 100000 in
set_option maxHeartbeats 4000000 in
theorem has1_c (A B : Option Addr) (c d n : Nat) (l : List Rule) (y : Rule) (w : World) (hr : kRule.C w A n l) (hs : kInt.C w B y.right.length y.right) :
    Calls Try.prog 57 #[.slice A n c,.agg #[.int .i64 y.left,.slice B y.right.length d]] w fun e w' => e = .returned (.bool (l.any fun x => decide (x = y))) ∧ Below w.heap.size w w':=by
  obtain rfl:=C_len hr
  have hm:=C_max hr
  have hmy:=C_max hs
  obtain ⟨w1,hw1⟩ : ∃ w1 : World,w1 = w.alloc (.cells #[.int .i64 y.left,.slice B y.right.length d] 46 (0,0)):=⟨_,rfl⟩
  have HB1 : Aside0 (Below w.heap.size w w1):=⟨by rw [hw1];exact (Below.refl w.heap.size w).alloc (Nat.le_refl _) _⟩
  have hp : w1.heap[w.heap.size]? = some (.cells #[.int .i64 y.left,.slice B y.right.length d] 46 (0,0)):=by rw [hw1];exact blk_new w _
  have HR:=Aside0.mk (Kd.C_below hr HB1.out)
  have HS:=Aside0.mk (Kd.C_below hs HB1.out)
  have p0:=Aside0.mk ((blk_cell hp 0).trans rfl : w1.cell? ⟨w.heap.size,0,none⟩ = some (.int .i64 y.left))
  have p1:=Aside0.mk ((blk_cell hp 1).trans rfl : w1.cell? ⟨w.heap.size,1,none⟩ = some (.slice B y.right.length d))
  clear hr hs hp
  go_enter Try.func57,Try.ntmps57
  go_wp2
  simp only [← hw1]
  clear hw1
  go_loopw [5] (fun iv wr => ∃ i : Nat,i ≤ l.length ∧ iv = .int .i64 i ∧ Aside0 (Below w1.heap.size w1 wr) ∧ Aside0 (∀ j (hj : j < l.length),j < i → ¬ l[j] = y)) (fun iv _ => l.length - (intOf iv).toNat)
  case atStart => exact ⟨0,Nat.zero_le _,rfl,⟨Below.refl _ _⟩,⟨fun j hj h => by omega⟩⟩
  case round =>
    obtain ⟨i,hi,rfl,HB,HN⟩:=hrel
    by_cases hlt : i < l.length
    · obtain ⟨ad,R,cr,eA,hx1,hx2,hcr,hR⟩:=at_rule HR.out i hlt
      subst eA
      obtain ⟨x,hx⟩ : ∃ x,x = l[i]'hlt:=⟨_,rfl⟩
      rw [← hx] at hx1 hx2 hcr hR
      have HX:=Aside0.mk hx
      have hmx:=C_max hR
      have K1:=Aside0.mk hx1
      have K2:=Aside0.mk hx2
      have KR:=Aside0.mk hR
      have j1 : (0 : Int) ≤ (i : Int):=by omega
      have j2 : (i : Int) < (l.length : Int):=by omega
      clear hx hx1 hx2 hR
      by_cases hl : x.left = y.left
      · have hlb : (x.left == y.left) = true:=by rw [hl];simp
        by_cases hn : x.right.length = y.right.length
        · have hnb : ((x.right.length : Int) == (y.right.length : Int)) = true:=by rw [hn];simp
          have HL:=Aside0.mk hl
          have HLN:=Aside0.mk hn
          clear hl hn
          go_wp2
          refine start_ (n:=21) (S:=fun w' => Below w1.heap.size w1 w') (ds:=[]) (lb 21 0x0) (by kernel_rfl) rfl (by kernel_rfl) (below_drew1 HB.out) (fun hHeld => ?_)
          refine pu_ ?_ ?_ 0 (some 14) (lb 21 0x1) ?_
          refine pu_ ?_ ?_ 1 (some 15) (lb 21 0x3) ?_
          refine pu_ ?_ ?_ 2 (some 16) (lb 21 0x7) ?_
          refine pu_ ?_ ?_ 3 (some 17) (lb 21 0xf) ?_
          refine pu_ ?_ ?_ 5 (some 19) (lb 21 0x2f) ?_
          refine ta_ ?_ ?_ 4 (some 18) (lb 21 0x3f) hHeld ?_ (y:=by rintro w' hS;have d0:=cell_at hS p0.out;have d1:=cell_at hS p1.out;have d2:=cell_at hS K1.out;have d3:=cell_at hS K2.out;go_simp;with_reducible rfl)
          refine ta_ ?_ ?_ 6 (some 20) (lb 21 0x7f) hHeld ?_ (y:=by rintro w' hS;have d0:=cell_at hS p0.out;have d1:=cell_at hS p1.out;have d2:=cell_at hS K1.out;have d3:=cell_at hS K2.out;go_simp;with_reducible rfl)
          refine pu_ ?_ ?_ 7 (some 21) (lb 21 0xff) ?_
          refine pu_ ?_ ?_ 8 (some 22) (lb 21 0x1ff) ?_
          refine pu_ ?_ ?_ 9 (some 23) (lb 21 0x3ff) ?_
          refine pu_ ?_ ?_ 10 (some 24) (lb 21 0x7ff) ?_
          refine pu_ ?_ ?_ 11 (some 25) (lb 21 0xfff) ?_
          refine pu_ ?_ ?_ 12 (some 26) (lb 21 0x1fff) ?_
          refine pu_ ?_ ?_ 15 (some 29) (lb 21 0x9fff) ?_
          refine ta_ ?_ ?_ 13 (some 27) (lb 21 0xbfff) hHeld ?_ (y:=by rintro w' hS;have d0:=cell_at hS p0.out;have d1:=cell_at hS p1.out;have d2:=cell_at hS K1.out;have d3:=cell_at hS K2.out;go_simp;with_reducible rfl)
          refine pu_ ?_ ?_ 14 (some 28) (lb 21 0xffff) ?_
          refine ta_ ?_ ?_ 16 (some 30) (lb 21 0x1ffff) hHeld ?_ (y:=by rintro w' hS;have d0:=cell_at hS p0.out;have d1:=cell_at hS p1.out;have d2:=cell_at hS K1.out;have d3:=cell_at hS K2.out;go_simp;with_reducible rfl)
          refine pu_ ?_ ?_ 17 (some 31) (lb 21 0x3ffff) ?_
          refine pu_ ?_ ?_ 18 (some 32) (lb 21 0x7ffff) ?_
          refine pu_ ?_ ?_ 19 (some 33) (lb 21 0xfffff) ?_
          refine pu_ ?_ ?_ 20 (some 6) (lb 21 0x1fffff) ?_
          refine done_ (by kernel_rfl) ?_
          go_wp2
          go_loopw [7,6] (fun kv sv wi => ∃ (k : Nat) (sb : Bool),k ≤ y.right.length ∧ kv = .int .i64 k ∧ sv = .bool sb ∧ Aside0 (Below w1.heap.size w1 wi) ∧ Aside0 ((sb = true → x.right.take k = y.right.take k) ∧ (sb = false → ¬ x = y))) (fun kv _ _ => y.right.length - (intOf kv).toNat)
          case atStart => exact ⟨0,true,Nat.zero_le _,rfl,rfl,⟨below_drew1 HB.out⟩,⟨⟨fun _ => rfl,fun h => (by cases h)⟩⟩⟩
          case round =>
            clear HB
            obtain ⟨k,sb,hk,rfl,rfl,HB,HC⟩:=hrel
            have z1:=cell_at HB.out p1.out
            cases sb with
            | true =>
              by_cases hkl : k < y.right.length
              · have hkx : k < x.right.length:=by have:=HLN.out;omega
                obtain ⟨xd,eX,hxv⟩:=at_int KR.out k hkx
                subst eX
                obtain ⟨yd,eY,hyv⟩:=at_int HS.out k hkl
                subst eY
                have KX:=Aside0.mk hxv
                have KY:=Aside0.mk hyv
                have j3 : (0 : Int) ≤ (k : Int):=by omega
                have j4 : (k : Int) < (y.right.length : Int):=by omega
                have j5 : (k : Int) < (x.right.length : Int):=by omega
                clear hxv hyv
                by_cases he : (x.right[k]'hkx) = (y.right[k]'hkl)
                · have hb : ((x.right[k]'hkx) == (y.right[k]'hkl)) = true:=by rw [he];simp
                  have HE:=Aside0.mk he
                  clear he
                  go_wp2
                  refine start_ (n:=15) (S:=fun w' => Below w1.heap.size w1 w') (ds:=[]) (lb 15 0x0) (by kernel_rfl) rfl (by kernel_rfl) (below_drew1 HB.out) (fun hHeld => ?_)
                  refine pu_ ?_ ?_ 0 (some 44) (lb 15 0x1) ?_
                  refine pu_ ?_ ?_ 1 (some 45) (lb 15 0x3) ?_
                  refine pu_ ?_ ?_ 2 (some 46) (lb 15 0x7) ?_
                  refine pu_ ?_ ?_ 3 (some 47) (lb 15 0xf) ?_
                  refine pu_ ?_ ?_ 5 (some 49) (lb 15 0x2f) ?_
                  refine pu_ ?_ ?_ 8 (some 52) (lb 15 0x12f) ?_
                  refine pu_ ?_ ?_ 10 (some 54) (lb 15 0x52f) ?_
                  refine ta_ ?_ ?_ 4 (some 48) (lb 15 0x53f) hHeld ?_ (y:=by rintro w' hS;have d0:=cell_at hS p1.out;have d1:=cell_at hS K2.out;have d2:=cell_at hS KX.out;have d3:=cell_at hS KY.out;go_simp;with_reducible rfl)
                  refine pu_ ?_ ?_ 6 (some 50) (lb 15 0x57f) ?_
                  refine ta_ ?_ ?_ 7 (some 51) (lb 15 0x5ff) hHeld ?_ (y:=by rintro w' hS;have d0:=cell_at hS p1.out;have d1:=cell_at hS K2.out;have d2:=cell_at hS KX.out;have d3:=cell_at hS KY.out;go_simp;with_reducible rfl)
                  refine ta_ ?_ ?_ 9 (some 53) (lb 15 0x7ff) hHeld ?_ (y:=by rintro w' hS;have d0:=cell_at hS p1.out;have d1:=cell_at hS K2.out;have d2:=cell_at hS KX.out;have d3:=cell_at hS KY.out;go_simp;with_reducible rfl)
                  refine pu_ ?_ ?_ 11 (some 55) (lb 15 0xfff) ?_
                  refine ta_ ?_ ?_ 12 (some 56) (lb 15 0x1fff) hHeld ?_ (y:=by rintro w' hS;have d0:=cell_at hS p1.out;have d1:=cell_at hS K2.out;have d2:=cell_at hS KX.out;have d3:=cell_at hS KY.out;go_simp;with_reducible rfl)
                  refine pu_ ?_ ?_ 13 (some 57) (lb 15 0x3fff) ?_
                  refine pu_ ?_ ?_ 14 (some 6) (lb 15 0x7fff) ?_
                  refine done_ (by kernel_rfl) ?_
                  go_wp2
                  go_roundw
                  case rel => exact ⟨k + 1,true,by omega,by go_num,rfl,⟨below_drew1 HB.out⟩,⟨⟨fun _ => by rw [List.take_succ_eq_append_getElem hkx,List.take_succ_eq_append_getElem hkl,HC.out.1 (by first | rfl | trivial),HE.out],fun h => (by cases h)⟩⟩⟩
                  case measure => simp [intOf];omega
                · have hb : ((x.right[k]'hkx) == (y.right[k]'hkl)) = false:=by rw [beq_eq_false_iff_ne];exact he
                  have HE:=Aside0.mk he
                  clear he
                  go_wp2
                  refine start_ (n:=15) (S:=fun w' => Below w1.heap.size w1 w') (ds:=[]) (lb 15 0x0) (by kernel_rfl) rfl (by kernel_rfl) (below_drew1 HB.out) (fun hHeld => ?_)
                  refine pu_ ?_ ?_ 0 (some 44) (lb 15 0x1) ?_
                  refine pu_ ?_ ?_ 1 (some 45) (lb 15 0x3) ?_
                  refine pu_ ?_ ?_ 2 (some 46) (lb 15 0x7) ?_
                  refine pu_ ?_ ?_ 3 (some 47) (lb 15 0xf) ?_
                  refine pu_ ?_ ?_ 5 (some 49) (lb 15 0x2f) ?_
                  refine pu_ ?_ ?_ 8 (some 52) (lb 15 0x12f) ?_
                  refine pu_ ?_ ?_ 10 (some 54) (lb 15 0x52f) ?_
                  refine ta_ ?_ ?_ 4 (some 48) (lb 15 0x53f) hHeld ?_ (y:=by rintro w' hS;have d0:=cell_at hS p1.out;have d1:=cell_at hS K2.out;have d2:=cell_at hS KX.out;have d3:=cell_at hS KY.out;go_simp;with_reducible rfl)
                  refine pu_ ?_ ?_ 6 (some 50) (lb 15 0x57f) ?_
                  refine ta_ ?_ ?_ 7 (some 51) (lb 15 0x5ff) hHeld ?_ (y:=by rintro w' hS;have d0:=cell_at hS p1.out;have d1:=cell_at hS K2.out;have d2:=cell_at hS KX.out;have d3:=cell_at hS KY.out;go_simp;with_reducible rfl)
                  refine ta_ ?_ ?_ 9 (some 53) (lb 15 0x7ff) hHeld ?_ (y:=by rintro w' hS;have d0:=cell_at hS p1.out;have d1:=cell_at hS K2.out;have d2:=cell_at hS KX.out;have d3:=cell_at hS KY.out;go_simp;with_reducible rfl)
                  refine pu_ ?_ ?_ 11 (some 55) (lb 15 0xfff) ?_
                  refine ta_ ?_ ?_ 12 (some 56) (lb 15 0x1fff) hHeld ?_ (y:=by rintro w' hS;have d0:=cell_at hS p1.out;have d1:=cell_at hS K2.out;have d2:=cell_at hS KX.out;have d3:=cell_at hS KY.out;go_simp;with_reducible rfl)
                  refine pu_ ?_ ?_ 13 (some 57) (lb 15 0x3fff) ?_
                  refine pu_ ?_ ?_ 14 (some 6) (lb 15 0x7fff) ?_
                  refine done_ (by kernel_rfl) ?_
                  go_wp2
                  go_roundw
                  case rel => exact ⟨k + 1,false,by omega,by go_num,rfl,⟨below_drew1 HB.out⟩,⟨⟨fun h => (by cases h),fun _ e => HE.out (by subst e;rfl)⟩⟩⟩
                  case measure => simp [intOf];omega
              · go_wp2
                go_ret
                refine ⟨ret_bool ?_,below_then HB1.out HB1.out.size HB.out⟩
                have hxy : x = y:=by
                  have h1:=HC.out.1 (by first | rfl | trivial)
                  rw [List.take_of_length_le (by have:=HLN.out;omega),List.take_of_length_le (by omega)] at h1
                  have:=HL.out
                  cases x;cases y;simp_all
                symm
                rw [List.any_eq_true]
                exact ⟨x,by rw [HX.out];exact List.getElem_mem hlt,decide_eq_true hxy⟩
            | false =>
              go_wp2
              all_goals
                go_roundw
                case rel => exact ⟨i + 1,by omega,by go_num,HB,⟨fun j hj hji => by
                  rcases Nat.lt_or_ge j i with h | h
                  · exact HN.out j hj h
                  · obtain rfl : j = i:=by omega
                    rw [← HX.out]
                    exact HC.out.2 (by first | rfl | trivial)⟩⟩
                case measure => simp [intOf];omega
        · have hnb : ((x.right.length : Int) == (y.right.length : Int)) = false:=by rw [beq_eq_false_iff_ne];omega
          have HNE : Aside0 (¬ x = y):=⟨fun e => hn (by rw [e])⟩
          clear hl hn
          go_wp2
          refine start_ (n:=21) (S:=fun w' => Below w1.heap.size w1 w') (ds:=[]) (lb 21 0x0) (by kernel_rfl) rfl (by kernel_rfl) (below_drew1 HB.out) (fun hHeld => ?_)
          refine pu_ ?_ ?_ 0 (some 14) (lb 21 0x1) ?_
          refine pu_ ?_ ?_ 1 (some 15) (lb 21 0x3) ?_
          refine pu_ ?_ ?_ 2 (some 16) (lb 21 0x7) ?_
          refine pu_ ?_ ?_ 3 (some 17) (lb 21 0xf) ?_
          refine pu_ ?_ ?_ 5 (some 19) (lb 21 0x2f) ?_
          refine ta_ ?_ ?_ 4 (some 18) (lb 21 0x3f) hHeld ?_ (y:=by rintro w' hS;have d0:=cell_at hS p0.out;have d1:=cell_at hS p1.out;have d2:=cell_at hS K1.out;have d3:=cell_at hS K2.out;go_simp;with_reducible rfl)
          refine ta_ ?_ ?_ 6 (some 20) (lb 21 0x7f) hHeld ?_ (y:=by rintro w' hS;have d0:=cell_at hS p0.out;have d1:=cell_at hS p1.out;have d2:=cell_at hS K1.out;have d3:=cell_at hS K2.out;go_simp;with_reducible rfl)
          refine pu_ ?_ ?_ 7 (some 21) (lb 21 0xff) ?_
          refine pu_ ?_ ?_ 8 (some 22) (lb 21 0x1ff) ?_
          refine pu_ ?_ ?_ 9 (some 23) (lb 21 0x3ff) ?_
          refine pu_ ?_ ?_ 10 (some 24) (lb 21 0x7ff) ?_
          refine pu_ ?_ ?_ 11 (some 25) (lb 21 0xfff) ?_
          refine pu_ ?_ ?_ 12 (some 26) (lb 21 0x1fff) ?_
          refine pu_ ?_ ?_ 15 (some 29) (lb 21 0x9fff) ?_
          refine ta_ ?_ ?_ 13 (some 27) (lb 21 0xbfff) hHeld ?_ (y:=by rintro w' hS;have d0:=cell_at hS p0.out;have d1:=cell_at hS p1.out;have d2:=cell_at hS K1.out;have d3:=cell_at hS K2.out;go_simp;with_reducible rfl)
          refine pu_ ?_ ?_ 14 (some 28) (lb 21 0xffff) ?_
          refine ta_ ?_ ?_ 16 (some 30) (lb 21 0x1ffff) hHeld ?_ (y:=by rintro w' hS;have d0:=cell_at hS p0.out;have d1:=cell_at hS p1.out;have d2:=cell_at hS K1.out;have d3:=cell_at hS K2.out;go_simp;with_reducible rfl)
          refine pu_ ?_ ?_ 17 (some 31) (lb 21 0x3ffff) ?_
          refine pu_ ?_ ?_ 18 (some 32) (lb 21 0x7ffff) ?_
          refine pu_ ?_ ?_ 19 (some 33) (lb 21 0xfffff) ?_
          refine pu_ ?_ ?_ 20 (some 6) (lb 21 0x1fffff) ?_
          refine done_ (by kernel_rfl) ?_
          go_wp2
          go_loopw [7,6] (fun kv sv wi => kv = .int .i64 0 ∧ sv = .bool false ∧ Aside0 (Below w1.heap.size w1 wi)) (fun kv _ _ => 0)
          case atStart => exact ⟨rfl,rfl,⟨below_drew1 HB.out⟩⟩
          case round =>
            clear HB
            obtain ⟨rfl,rfl,HB⟩:=hrel
            have z1:=cell_at HB.out p1.out
            go_wp2
            all_goals
              go_roundw
              case rel => exact ⟨i + 1,by omega,by go_num,HB,⟨fun j hj hji => by
                rcases Nat.lt_or_ge j i with h | h
                · exact HN.out j hj h
                · obtain rfl : j = i:=by omega
                  rw [← HX.out]
                  exact HNE.out⟩⟩
              case measure => simp [intOf];omega
      · have hlb : (x.left == y.left) = false:=by rw [beq_eq_false_iff_ne];exact hl
        have HNE : Aside0 (¬ x = y):=⟨fun e => hl (by rw [e])⟩
        clear hl
        go_wp2
        refine start_ (n:=21) (S:=fun w' => Below w1.heap.size w1 w') (ds:=[]) (lb 21 0x0) (by kernel_rfl) rfl (by kernel_rfl) (below_drew1 HB.out) (fun hHeld => ?_)
        refine pu_ ?_ ?_ 0 (some 14) (lb 21 0x1) ?_
        refine pu_ ?_ ?_ 1 (some 15) (lb 21 0x3) ?_
        refine pu_ ?_ ?_ 2 (some 16) (lb 21 0x7) ?_
        refine pu_ ?_ ?_ 3 (some 17) (lb 21 0xf) ?_
        refine pu_ ?_ ?_ 5 (some 19) (lb 21 0x2f) ?_
        refine ta_ ?_ ?_ 4 (some 18) (lb 21 0x3f) hHeld ?_ (y:=by rintro w' hS;have d0:=cell_at hS p0.out;have d1:=cell_at hS p1.out;have d2:=cell_at hS K1.out;have d3:=cell_at hS K2.out;go_simp;with_reducible rfl)
        refine ta_ ?_ ?_ 6 (some 20) (lb 21 0x7f) hHeld ?_ (y:=by rintro w' hS;have d0:=cell_at hS p0.out;have d1:=cell_at hS p1.out;have d2:=cell_at hS K1.out;have d3:=cell_at hS K2.out;go_simp;with_reducible rfl)
        refine pu_ ?_ ?_ 7 (some 21) (lb 21 0xff) ?_
        refine pu_ ?_ ?_ 8 (some 22) (lb 21 0x1ff) ?_
        refine po_ ?_ 9 (some 23) (lb 21 0x3ff) ?_
        refine po_ ?_ 10 (some 24) (lb 21 0x7ff) ?_
        refine po_ ?_ 11 (some 25) (lb 21 0xfff) ?_
        refine po_ ?_ 12 (some 26) (lb 21 0x1fff) ?_
        refine po_ ?_ 15 (some 29) (lb 21 0x9fff) ?_
        refine po_ ?_ 13 (some 27) (lb 21 0xbfff) ?_
        refine po_ ?_ 14 (some 28) (lb 21 0xffff) ?_
        refine po_ ?_ 16 (some 30) (lb 21 0x1ffff) ?_
        refine po_ ?_ 17 (some 31) (lb 21 0x3ffff) ?_
        refine po_ ?_ 18 (some 32) (lb 21 0x7ffff) ?_
        refine pu_ ?_ ?_ 19 (some 33) (lb 21 0xfffff) ?_
        refine pu_ ?_ ?_ 20 (some 6) (lb 21 0x1fffff) ?_
        refine done_ (by kernel_rfl) ?_
        go_wp2
        go_loopw [7,6] (fun kv sv wi => kv = .int .i64 0 ∧ sv = .bool false ∧ Aside0 (Below w1.heap.size w1 wi)) (fun kv _ _ => 0)
        case atStart => exact ⟨rfl,rfl,⟨below_drew1 HB.out⟩⟩
        case round =>
          clear HB
          obtain ⟨rfl,rfl,HB⟩:=hrel
          have z1:=cell_at HB.out p1.out
          go_wp2
          all_goals
            go_roundw
            case rel => exact ⟨i + 1,by omega,by go_num,HB,⟨fun j hj hji => by
              rcases Nat.lt_or_ge j i with h | h
              · exact HN.out j hj h
              · obtain rfl : j = i:=by omega
                rw [← HX.out]
                exact HNE.out⟩⟩
            case measure => simp [intOf];omega
    · go_wp2
      go_ret
      refine ⟨ret_bool ?_,below_then HB1.out HB1.out.size HB.out⟩
      symm
      rw [List.any_eq_false]
      intro x hx h
      obtain ⟨j,hj,rfl⟩:=List.mem_iff_getElem.1 hx
      exact HN.out j hj (by omega) (of_decide_eq_true h)
end Go.Proofs.Ytmkgcjhimajgiaa

