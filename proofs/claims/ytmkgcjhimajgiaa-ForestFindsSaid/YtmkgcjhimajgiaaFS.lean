/- Contracts of functions of the program, and plain laws (texts N2, N0, N3, N4, N5, N6, N7, N8), joined: each theorem says what it proves. -/
import Derived.Test.YtmkgcjhimajgiaaFP
import Derived.Test.YtmkgcjhimajgiaaFI
import Derived.Test.YtmkgcjhimajgiaaFE
import Derived.Maps.OwnSet
import Derived.DeepKeys4
import Derived.MapViews
import Derived.ChangeSame
import Derived.ArgAppend
import Derived.Test.YtmkgcjhimajgiaaFH
set_option linter.unusedVariables false
set_option linter.unusedSimpArgs false
namespace Go.Proofs.Ytmkgcjhimajgiaa
open Go.RowKit Go.Proofs.YtmkgcjhimajgiaaW.PrintWords Go.Proofs.YtmkgcjhimajgiaaW.PrintLast Go.Conc

def kPk : Kd PackN:=Kd.iso (Kd.pair kInt (Kd.pair kInt (Kd.pair kInt kInt))) (fun p : PackN => (p.rule,p.pivot,p.left,p.right))
abbrev valK (p : PackN) : Value:=.agg #[.int .i64 p.rule,.int .i64 p.pivot,.int .i64 p.left,.int .i64 p.right]
theorem infoPack : (Try.prog.info? 82).map (fun i => (i.zero,i.size,i.bytes)) = some (some (.agg #[.int .i64 0,.int .i64 0,.int .i64 0,.int .i64 0]),4,32):=by kernel_rfl
theorem M_pk (w : World) (base : Nat) (ok : Nat → Prop) (p : PackN) : kPk.M w base ok p [.int .i64 p.rule,.int .i64 p.pivot,.int .i64 p.left,.int .i64 p.right] :=
  ⟨[.int .i64 p.rule],[.int .i64 p.pivot,.int .i64 p.left,.int .i64 p.right],rfl,rfl,⟨[.int .i64 p.pivot],[.int .i64 p.left,.int .i64 p.right],rfl,rfl,⟨[.int .i64 p.left],[.int .i64 p.right],rfl,rfl,rfl⟩⟩⟩
theorem K_pk {w : World} {p : PackN} {cs : List Value} (h : kPk.K w p cs) : cs = [.int .i64 p.rule,.int .i64 p.pivot,.int .i64 p.left,.int .i64 p.right]:=by
  obtain ⟨_,_,rfl,rfl,⟨_,_,rfl,rfl,⟨_,_,rfl,rfl,rfl⟩⟩⟩:=h
  rfl
theorem at_pk {w : World} {A : Option Addr} {n : Nat} {xs : List PackN} (h : kPk.C w A n xs) (i : Nat) (hi : i < xs.length) :
    ∃ ad,A = some ad ∧ w.cell? (ad.add (i * 4)) = some (.int .i64 xs[i].rule) ∧ w.cell? ⟨(ad.add (i * 4)).block,(ad.add (i * 4)).off + 1,none⟩ = some (.int .i64 xs[i].pivot) ∧ w.cell? ⟨(ad.add (i * 4)).block,(ad.add (i * 4)).off + 2,none⟩ = some (.int .i64 xs[i].left) ∧ w.cell? ⟨(ad.add (i * 4)).block,(ad.add (i * 4)).off + 3,none⟩ = some (.int .i64 xs[i].right):=by
  obtain ⟨ad,c,e,_,hK,hc0⟩:=C_at h i hi
  obtain rfl:=K_pk hK
  have hc : ∀ j u,_ → w.cell? (ad.add (i * 4 + j)) = some u:=hc0
  exact ⟨ad,e,hc 0 _ rfl,by rw [← add_field _ _ 1 (by omega)];exact hc 1 _ rfl,by rw [← add_field _ _ 2 (by omega)];exact hc 2 _ rfl,by rw [← add_field _ _ 3 (by omega)];exact hc 3 _ rfl⟩
structure ND where
  lab : Lab
  A : Option Addr
  n : Nat
  c : Nat
def kSl : Kd (Option Addr × Nat × Nat):=Kd.scalar (fun p => .slice p.1 p.2.1 p.2.2) (fun _ => rfl)
def kND : Kd ND:=Kd.iso (Kd.pair kInt (Kd.pair kInt (Kd.pair kInt (Kd.pair kInt (Kd.pair kInt kSl))))) (fun x : ND => (x.lab.sym,x.lab.rule,x.lab.dot,x.lab.i,x.lab.j,x.A,x.n,x.c))
abbrev cellsN (x : ND) : List Value:=[.int .i64 x.lab.sym,.int .i64 x.lab.rule,.int .i64 x.lab.dot,.int .i64 x.lab.i,.int .i64 x.lab.j,.slice x.A x.n x.c]
theorem infoNode : (Try.prog.info? 66).map (fun i => (i.zero,i.size,i.bytes)) = some (some (.agg #[.int .i64 0,.int .i64 0,.int .i64 0,.int .i64 0,.int .i64 0,.slice none 0 0]),6,64):=by kernel_rfl
theorem M_nd (w : World) (base : Nat) (ok : Nat → Prop) (x : ND) : kND.M w base ok x (cellsN x) :=
  ⟨[.int .i64 x.lab.sym],[.int .i64 x.lab.rule,.int .i64 x.lab.dot,.int .i64 x.lab.i,.int .i64 x.lab.j,.slice x.A x.n x.c],rfl,rfl,⟨[.int .i64 x.lab.rule],[.int .i64 x.lab.dot,.int .i64 x.lab.i,.int .i64 x.lab.j,.slice x.A x.n x.c],rfl,rfl,⟨[.int .i64 x.lab.dot],[.int .i64 x.lab.i,.int .i64 x.lab.j,.slice x.A x.n x.c],rfl,rfl,⟨[.int .i64 x.lab.i],[.int .i64 x.lab.j,.slice x.A x.n x.c],rfl,rfl,⟨[.int .i64 x.lab.j],[.slice x.A x.n x.c],rfl,rfl,rfl⟩⟩⟩⟩⟩
theorem of_M_nd {w : World} {base : Nat} {ok : Nat → Prop} {x : ND} {cs : List Value} (h : kND.M w base ok x cs) : cs = cellsN x:=by
  obtain ⟨_,_,rfl,rfl,⟨_,_,rfl,rfl,⟨_,_,rfl,rfl,⟨_,_,rfl,rfl,⟨_,_,rfl,rfl,rfl⟩⟩⟩⟩⟩:=h
  rfl
theorem K_nd {w : World} {x : ND} {cs : List Value} (h : kND.K w x cs) : cs = cellsN x:=by
  obtain ⟨_,_,rfl,rfl,⟨_,_,rfl,rfl,⟨_,_,rfl,rfl,⟨_,_,rfl,rfl,⟨_,_,rfl,rfl,rfl⟩⟩⟩⟩⟩:=h
  rfl
theorem at_nd {w : World} {A : Option Addr} {n : Nat} {xs : List ND} (h : kND.C w A n xs) (i : Nat) (hi : i < xs.length) :
    ∃ ad,A = some ad ∧ w.cell? (ad.add (i * 6)) = some (.int .i64 xs[i].lab.sym) ∧ w.cell? ⟨(ad.add (i * 6)).block,(ad.add (i * 6)).off + 1,none⟩ = some (.int .i64 xs[i].lab.rule) ∧ w.cell? ⟨(ad.add (i * 6)).block,(ad.add (i * 6)).off + 2,none⟩ = some (.int .i64 xs[i].lab.dot) ∧ w.cell? ⟨(ad.add (i * 6)).block,(ad.add (i * 6)).off + 3,none⟩ = some (.int .i64 xs[i].lab.i) ∧ w.cell? ⟨(ad.add (i * 6)).block,(ad.add (i * 6)).off + 4,none⟩ = some (.int .i64 xs[i].lab.j) ∧ w.cell? ⟨(ad.add (i * 6)).block,(ad.add (i * 6)).off + 5,none⟩ = some (.slice xs[i].A xs[i].n xs[i].c):=by
  obtain ⟨ad,c,e,_,hK,hc0⟩:=C_at h i hi
  obtain rfl:=K_nd hK
  have hc : ∀ j u,_ → w.cell? (ad.add (i * 6 + j)) = some u:=hc0
  exact ⟨ad,e,hc 0 _ rfl,by rw [← add_field _ _ 1 (by omega)];exact hc 1 _ rfl,by rw [← add_field _ _ 2 (by omega)];exact hc 2 _ rfl,by rw [← add_field _ _ 3 (by omega)];exact hc 3 _ rfl,by rw [← add_field _ _ 4 (by omega)];exact hc 4 _ rfl,by rw [← add_field _ _ 5 (by omega)];exact hc 5 _ rfl⟩
theorem nd_put {W : World} {base g c : Nat} {ok : Nat → Prop} {xs : List ND} (h : kND.R 66 W base ok (.slice (some ⟨g,0,none⟩) xs.length c) xs) {p : Nat} (hp : p < xs.length) (A : Option Addr) (n k : Nat) :
    kND.R 66 (W.setCell ⟨g,p * 6 + 5,none⟩ (.slice A n k)) base ok (.slice (some ⟨g,0,none⟩) xs.length c) (xs.set p { xs[p] with A:=A,n:=n,c:=k }):=by
  obtain ⟨h1,inner,ho,hl,hr⟩:=h
  have hs:=(ho.stored (p * 6 + 5) (.slice A n k)).1
  refine ⟨h1,inner.set (p * 6 + 5) (.slice A n k),by rw [List.length_set];exact hs,by rw [List.length_set,List.length_set];exact hl,fun j x hx => ?_⟩
  have hln : inner.length = xs.length * 6:=hl
  have hjl : j < xs.length:=by have:=(List.getElem?_eq_some_iff.1 hx).1;rwa [List.length_set] at this
  have hin:=of_M_nd (hr j xs[j] (List.getElem?_eq_getElem hjl))
  have hin' : (inner.drop (j * 6)).take 6 = cellsN xs[j]:=hin
  show kND.M _ _ _ x (((inner.set (p * 6 + 5) (.slice A n k)).drop (j * 6)).take 6)
  by_cases hjp : j = p
  · subst hjp
    rw [List.getElem?_set_self hjl] at hx
    injection hx with hx
    subst hx
    rw [List.drop_set,if_neg (by omega),List.take_set,hin',show j * 6 + 5 - j * 6 = 5 by omega]
    exact M_nd _ _ _ _
  · rw [List.getElem?_set_ne (Ne.symm hjp),List.getElem?_eq_getElem hjl] at hx
    injection hx with hx
    subst hx
    have e : ((inner.set (p * 6 + 5) (.slice A n k)).drop (j * 6)).take 6 = cellsN xs[j]:=by
      rw [List.drop_set]
      split
      · exact hin'
      · rw [List.take_set,hin',List.set_eq_of_length_le]
        show 6 ≤ _
        omega
    rw [e]
    exact M_nd _ _ _ _
theorem nd_free {W : World} {base g c : Nat} {ok : Nat → Prop} {xs : List ND} (h : kND.R 66 W base ok (.slice (some ⟨g,0,none⟩) xs.length c) xs) (i : Nat) : W.frozen? ⟨g,i,none⟩ = false:=by
  obtain ⟨h1,inner,ho,hl,hr⟩:=h
  obtain ⟨cells,hb⟩:=own_typed ho g (by simp [Value.ownBlock])
  exact blk_frozen hb i
theorem app_nd_step {ops : Array Oper} {o : Oper} {a : Act} {Q : Exit → Act → World → Prop} {Kc : Act → World → Prop} {base : Nat} {w0 W : World} {v : Value} {ok : Nat → Prop} {s x : Operand} {xs : List ND} {p : ND} (hw : Region.wanted o (yielded ops a.tmps) = true) (ho : o.op = .call { callee:=.builtin .append,args:=#[s,x],argTypes:=#[61,61] })
    (HO : kND.R 66 W base ok v xs) (HB : Below base w0 W) (hbase : base ≤ W.heap.size) (hl : xs.length + 1 ≤ 1000000000) (hfresh : ∀ k,W.heap.size ≤ k → ok k) (hs : a.eval s = v) (hx : a.eval x = .slice (some ⟨W.heap.size,0,none⟩) 1 1)
    (h : ∀ v1 w1,Appd kND 66 w0 W base ok v (xs ++ [p]) v1 w1 → Kc (a.put o.dst v1) w1) :
    if Region.wanted o (yielded ops a.tmps) = true then Oper.wp Try.prog o a (W.alloc (.cells (cellsN p).toArray 66)) Kc Q else Kc (a.put o.dst undef) (W.alloc (.cells (cellsN p).toArray 66)) :=
  Kd.R_append_step kND base hw s x 61 66 _ 64 ho Try.underlying61 infoNode rfl (show 0 < 6 by decide) (by decide) v xs p (cellsN p) ok (fun _ => False) hs hx (M_nd _ _ _ p) (fun _ h => h.elim) hfresh HO HB hbase (by omega) (fun v1 w1 h1 h2 h3 h4 => h v1 w1 ⟨h1,h2,h3,h4⟩)
theorem app_pk {ops : Array Oper} {rest : List Oper} {o : Oper} {a : Act} {Q : Exit → Act → World → Prop} {w0 W : World} {base : Nat} {v : Value} {ok : Nat → Prop} {s x : Operand} {xs : List PackN} {p : PackN} (hgd : o.guard = none) (ho : o.op = .call { callee:=.builtin .append,args:=#[s,x],argTypes:=#[64,64] })
    (HO : kPk.R 82 W base ok v xs) (HB : Below base w0 W) (hbase : base ≤ W.heap.size) (hl : xs.length + 1 ≤ 1000000000) (hfresh : ∀ k,W.heap.size ≤ k → ok k) (hs : a.eval s = v) (hx : a.eval x = .slice (some ⟨W.heap.size,0,none⟩) 1 1)
    (h : ∀ v1 w1,Appd kPk 82 w0 W base ok v (xs ++ [p]) v1 w1 → wpList Try.prog ops Q rest (a.put o.dst v1) w1) :
    wpList Try.prog ops Q (o :: rest) a (W.alloc (.cells #[.int .i64 p.rule,.int .i64 p.pivot,.int .i64 p.left,.int .i64 p.right] 82)) :=
  Kd.R_append kPk base hgd s x 64 82 _ 32 ho Try.underlying64 infoPack rfl (show 0 < 4 by decide) (by decide) v xs p [.int .i64 p.rule,.int .i64 p.pivot,.int .i64 p.left,.int .i64 p.right] ok (fun _ => False) hs hx (M_pk _ _ _ p) (fun _ h => h.elim) hfresh HO HB hbase (by omega) (fun v1 w1 h1 h2 h3 h4 => h v1 w1 ⟨h1,h2,h3,h4⟩)
abbrev labV (x : Lab) : Value:=.agg #[.int .i64 x.sym,.int .i64 x.rule,.int .i64 x.dot,.int .i64 x.i,.int .i64 x.j]
structure LabI (x : Lab) : Prop where
  s : (Lit.int .i64 x.sym).wf = true
  r : (Lit.int .i64 x.rule).wf = true
  d : (Lit.int .i64 x.dot).wf = true
  i : (Lit.int .i64 x.i).wf = true
  j : (Lit.int .i64 x.j).wf = true
theorem labLaw : Maps.Keyed Try.prog 150:=Maps.Keyed.of_law (deep_law_laid (P:=Try.prog) (by kernel_rfl) (m:=2) (by omega) (of_decide_eq_true (by kernel_rfl)) (by kernel_rfl) (by rw [Try.underlying150]))
theorem lab_zero (w : World) : (zeroValue 3).run Try.prog w = .ok (.int .i64 0) w:=by kernel_rfl
theorem trod_int1 {w : World} {base : Nat} {sp : Nat → Bool} {held : Bool} {a : Int} (h : (Lit.int .i64 a).wf = true) : DataW.trod (H:=Unit) (fun _ => ()) Try.prog w base sp held 1 3 [.int .i64 a] = some (.lit (.int .i64 a),[]):=by
  simp [DataW.trod,Try.underlying3,h]
theorem trod_lab {w : World} {base : Nat} {sp : Nat → Bool} {held : Bool} {x : Lab} (h : LabI x) : ∃ d ps,DataW.Trod (H:=Unit) (fun _ => ()) Try.prog w base sp held 150 (labV x) d ps:=by
  have hc : (labV x).cells.toList = [.int .i64 x.sym,.int .i64 x.rule,.int .i64 x.dot,.int .i64 x.i,.int .i64 x.j]:=rfl
  have hk : Try.prog.cellsOf 3 = 1:=by kernel_rfl
  have h1:=trod_int1 (w:=w) (base:=base) (sp:=sp) (held:=held) h.s
  have h2:=trod_int1 (w:=w) (base:=base) (sp:=sp) (held:=held) h.r
  have h3:=trod_int1 (w:=w) (base:=base) (sp:=sp) (held:=held) h.d
  have h4:=trod_int1 (w:=w) (base:=base) (sp:=sp) (held:=held) h.i
  have h5:=trod_int1 (w:=w) (base:=base) (sp:=sp) (held:=held) h.j
  have key:=Go.ChangeShapes.trod_struct_mk (enc:=fun _ => ()) (w:=w) (base:=base) (spare:=sp) (held:=held) (n:=1) (cs:=[.int .i64 x.sym,.int .i64 x.rule,.int .i64 x.dot,.int .i64 x.i,.int .i64 x.j]) (xs:=[(.lit (.int .i64 x.sym),[]),(.lit (.int .i64 x.rule),[]),(.lit (.int .i64 x.dot),[]),(.lit (.int .i64 x.i),[]),(.lit (.int .i64 x.j),[])]) Try.underlying150 (by kernel_rfl) (by simp [hk,h1,h2,h3,h4,h5])
  exact ⟨_,_,2,by rw [hc];exact key⟩
theorem lab_key {x : Lab} (h : LabI x) : ∃ l,keyOf Try.prog 150 (labV x) = some l:=by
  obtain ⟨d,ps,hd⟩:=trod_lab (w:=default) (base:=0) (sp:=fun _ => true) (held:=true) h
  exact ⟨_,(keyOf_asKey (by kernel_rfl) (by rw [Try.underlying150]) (by simp [Value.formed,Try.underlying150];kernel_rfl) hd).1⟩
/-- The key that a label reads as. -/
noncomputable def labK (x : Lab) : Lit:=(keyOf Try.prog 150 (labV x)).getD (.bool true)
theorem lab_is {x : Lab} (h : LabI x) : keyOf Try.prog 150 (labV x) = some (labK x):=by
  obtain ⟨l,hl⟩:=lab_key h
  unfold labK
  rw [hl];rfl
theorem lab_inj {x y : Lab} (hx : LabI x) (hy : LabI y) (h : labK x = labK y) : x = y:=by
  have h1:=lab_is hx
  rw [h] at h1
  have:=labLaw.inj h1 (lab_is hy)
  simp only [Value.agg.injEq] at this
  have h2:=congrArg Array.toList this
  simp only [List.cons.injEq,Value.int.injEq,true_and,and_true] at h2
  obtain ⟨a,b,c,d,e⟩:=x
  obtain ⟨a',b',c',d',e'⟩:=y
  simp_all
/-- The map holds the nodes' numbers. -/
def KM (W : World) (b : Nat) (L : List Lab) : Prop:=∃ (D : DataW Unit),W.ownsMap Try.prog 150 (plainElem Try.prog 3) b L.length D ∧ ∀ x,LabI x → Maps.has D (labK x) = decide (x ∈ L) ∧ (x ∈ L → D.atKey (labK x) (.lit (.int .i64 0)) = .lit (.int .i64 (L.idxOf x : Nat)))
theorem KM.new (W : World) : KM (W.alloc (.map #[] 0)) W.heap.size [] :=
  ⟨.map [],World.ownsMap_made _ _ _ _,fun x _ => ⟨by simp [Maps.has],fun h => by cases h⟩⟩
theorem KM.lt {W : World} {b : Nat} {L : List Lab} (h : KM W b L) : b < W.heap.size:=by obtain ⟨D,h1,_⟩:=h;exact h1.lt
theorem KM.block {W : World} {b : Nat} {L : List Lab} (h : KM W b L) : ∃ es clock,W.heap[b]? = some (.map es clock):=by
  obtain ⟨D,⟨es,clock,h1,_⟩,_⟩:=h
  exact ⟨es,clock,h1⟩
theorem KM.move {W W' : World} {b : Nat} {L : List Lab} (h : KM W b L) (hb : W'.heap[b]? = W.heap[b]?) : KM W' b L:=by
  obtain ⟨D,⟨es,clock,h1,h3⟩,h2⟩:=h
  exact ⟨D,⟨es,clock,hb.trans h1,h3⟩,h2⟩
theorem KM.look {W : World} {b : Nat} {L : List Lab} (h : KM W b L) {x : Lab} (hx : LabI x) : ∃ c : Int,(Instr.lookup 117 (.map (some b)) (labV x) true).run Try.prog W = .ok (.tuple #[.int .i64 c,.bool (decide (x ∈ L))]) W ∧ (x ∈ L → c = (L.idxOf x : Nat)):=by
  obtain ⟨D,h1,h2⟩:=h
  obtain ⟨v,ps,hrun,hv⟩:=h1.look_ok labLaw Try.underlying117 (lab_zero W) (plainElem_int (H:=Unit) Try.underlying3 (a:=0) (by decide)) (lab_is hx)
  obtain ⟨c,rfl,hc,hw⟩:=plainElem_int_inv Try.underlying3 hv
  refine ⟨c,by rw [hrun,(h2 x hx).1],fun hm => ?_⟩
  have h3:=(h2 x hx).2 hm
  simp only [Prod.mk.injEq] at hc
  rw [hc.1] at h3
  simpa using h3
theorem labK_key {x : Lab} (hx : LabI x) : WideAt.IsKeyLit (labK x):=by
  have h:=lab_is hx
  generalize labK x = l at h ⊢
  exact labLaw.key h
set_option maxRecDepth 100000 in
theorem KM.put {W : World} {b : Nat} {L : List Lab} (h : KM W b L) {x : Lab} (hx : LabI x) (hn : x ∉ L) (hl : L.length < 1000000) : ∃ W',(Instr.mapUpdate 117 (.map (some b)) (labV x) (.int .i64 (L.length : Nat))).run Try.prog W = .ok () W' ∧ KM W' b (L ++ [x]) ∧ W.grownBy W' (some b):=by
  obtain ⟨D,h1,h2⟩:=h
  obtain ⟨m,hm⟩ : ∃ m,m = L.length:=⟨_,rfl⟩
  rw [← hm] at h1 hl ⊢
  obtain ⟨W',hrun,hown,hg⟩:=h1.update labLaw Try.underlying117 (by unfold maxLen;omega) (lab_is hx) (plainElem_int (H:=Unit) Try.underlying3 (a:=(m : Nat)) (WalkArith.wf_i64 (by omega)))
  have hlen : (L ++ [x]).length = m + 1:=by simp [hm]
  refine ⟨W',hrun,⟨_,by rw [hlen];exact hown,fun y hy => ?_⟩,hg⟩
  have hkx : WideAt.IsKeyLit (labK x):=labK_key hx
  by_cases hyx : y = x
  · subst hyx
    refine ⟨by rw [Maps.has_put_same h1.isMap hkx];simp,fun _ => ?_⟩
    rw [Maps.atKey_put_same h1.isMap hkx,List.idxOf_append,if_neg hn,hm]
    simp
  · have hne : labK y ≠ labK x:=fun e => hyx (lab_inj hy hx e)
    refine ⟨by rw [Maps.has_put_other hne,(h2 y hy).1];simp [hyx],fun hm => ?_⟩
    have hm2 : y ∈ L:=by simpa [hyx] using hm
    rw [Maps.atKey_put_other hne,(h2 y hy).2 hm2,List.idxOf_append,if_pos hm2]
end Go.Proofs.Ytmkgcjhimajgiaa


set_option linter.unusedVariables false
set_option linter.unusedSimpArgs false
namespace Go.Proofs.Ytmkgcjhimajgiaa
open Go.RowKit Go.Proofs.YtmkgcjhimajgiaaW.PrintWords Go.Proofs.YtmkgcjhimajgiaaW.PrintLast Go.Conc

/-- The slice's row begins anywhere in its block. -/
def SLD (W : World) (base : Nat) (v : Value) (xs : List Int) : Prop :=
  (v = .slice none 0 0 ∧ xs = []) ∨ ∃ g o c cur,v = .slice (some ⟨g,o,none⟩) xs.length c ∧ base ≤ g ∧ W.heap[g]? = some (.cells cur 3 (0,0)) ∧ xs.length ≤ c ∧ c ≤ maxLen ∧ (c = 0 ∨ (o + c = cur.size ∧ (cur.toList.drop o).take xs.length = xs.map (fun x => Value.int .i64 x)))
theorem SLD.nil (W : World) (base : Nat) : SLD W base (.slice none 0 0) []:=.inl ⟨rfl,rfl⟩
section
variable {w0 W W' : World} {base : Nat} {v : Value} {xs : List Int}
theorem SLD.keep (h : SLD W base v xs) (hk : ∀ q,v.ownBlock = some q → W'.heap[q]? = W.heap[q]?) : SLD W' base v xs:=by
  rcases h with h | ⟨g,o,c,cur,rfl,hb,hg,rest⟩
  · exact .inl h
  · exact .inr ⟨g,o,c,cur,rfl,hb,(hk g rfl).trans hg,rest⟩
theorem SLD.own (h : SLD W base v xs) {q : Nat} (hq : v.ownBlock = some q) : (∃ cells,W.heap[q]? = some (.cells cells 3 (0,0))) ∧ base ≤ q:=by
  rcases h with ⟨rfl,_⟩ | ⟨g,o,c,cur,rfl,hb,hg,rest⟩
  · simp [Value.ownBlock] at hq
  · simp [Value.ownBlock] at hq
    subst hq
    exact ⟨⟨cur,hg⟩,hb⟩
theorem SLD.slice (h : SLD W base v xs) : ∃ A c,v = .slice A xs.length c:=by
  rcases h with ⟨rfl,rfl⟩ | ⟨g,o,c,cur,rfl,_⟩
  · exact ⟨none,0,rfl⟩
  · exact ⟨_,_,rfl⟩
theorem SLD.lt (h : SLD W base v xs) {q : Nat} (hq : v.ownBlock = some q) : q < W.heap.size:=by
  obtain ⟨⟨cells,hc⟩,_⟩:=h.own hq
  exact (Array.getElem?_eq_some_iff.1 hc).1
theorem SLD.below (h : SLD W base v xs) (hb : Below W.heap.size W W') : SLD W' base v xs:=h.keep fun q hq => hb.block q (h.lt hq)
theorem SLD.ne (h : SLD W base v xs) {q t : Nat} {cs : Array Value} (hq : W.heap[q]? = some (.cells cs t (0,0))) (ht : t ≠ 3) : some q ≠ v.ownBlock:=by
  intro he
  obtain ⟨⟨cells,hc⟩,_⟩:=h.own he.symm
  rw [hc] at hq
  injection hq with hq
  injection hq with _ hq
  exact ht hq.symm
theorem SLD.other (h : SLD W base v xs) {q t : Nat} {cs : Array Value} (hq : W.heap[q]? = some (.cells cs t (0,0))) (ht : t ≠ 3) (i : Nat) (u : Value) : SLD (W.setCell ⟨q,i,none⟩ u) base v xs :=
  h.keep fun p hp => Below.heap_setCell W ⟨q,i,none⟩ u p (fun e => h.ne hq ht (by rw [hp];exact congrArg some e.symm))
theorem SLD.head (h : SLD W base v xs) {i : Nat} (hi : i < xs.length) : ∃ g o c,v = .slice (some ⟨g,o,none⟩) xs.length c ∧ W.cell? ⟨g,o + i,none⟩ = some (.int .i64 xs[i]):=by
  rcases h with ⟨rfl,rfl⟩ | ⟨g,o,c,cur,rfl,hb,hg,h1,h2,h3⟩
  · simp at hi
  · rcases h3 with h3 | ⟨h3,h4⟩
    · omega
    · refine ⟨g,o,c,rfl,?_⟩
      rw [cell_of_row W g (o + i) cur _ (0,0) hg]
      have:=congrArg (fun l => l[i]?) h4
      simp only [List.getElem?_take,if_pos hi,List.getElem?_drop,List.getElem?_map,List.getElem?_eq_getElem hi,Option.map_some] at this
      rw [← Array.getElem?_toList]
      exact this
theorem SLD.tail {x : Int} {xs : List Int} (h : SLD W base v (x :: xs)) : ∃ v',(∀ W1 : World,(Instr.slice 26 v (some (.int .i64 1)) none none).run Try.prog W1 = .ok v' W1) ∧ SLD W base v' xs ∧ v'.ownBlock = v.ownBlock:=by
  rcases h with ⟨_,h⟩ | ⟨g,o,c,cur,rfl,hb,hg,h1,h2,h3⟩
  · cases h
  · rw [List.length_cons] at h1
    rcases h3 with h3 | ⟨h3,h4⟩
    · omega
    · obtain ⟨i0,hi,hzz⟩:=Option.map_eq_some_iff.1 infoInt
      simp only [Prod.mk.injEq] at hzz
      have hc:=cut_from (P:=Try.prog) 26 3 .i64 Try.underlying26 hi 1 hzz.2.1 (some ⟨g,o,none⟩) (xs.length + 1) c 1 (by omega) (by omega)
      have hd : cur.toList.drop o = (Value.int .i64 x) :: cur.toList.drop (o + 1):=by
        have e : (cur.toList.drop o)[0]? = some (Value.int .i64 x):=by
          have:=congrArg (fun l => l[0]?) h4
          simpa [List.getElem?_take] using this
        rw [show cur.toList.drop (o + 1) = (cur.toList.drop o).drop 1 by rw [List.drop_drop]]
        cases hl : cur.toList.drop o with
        | nil => rw [hl] at e;simp at e
        | cons y l => rw [hl] at e;simp at e;subst e;rfl
      have h5 : (cur.toList.drop (o + 1)).take xs.length = xs.map (fun x => Value.int .i64 x):=by
        rw [hd] at h4
        simpa using h4
      refine ⟨_,hc,.inr ?_,?_⟩
      · have n1 : (1 : Int).toNat = 1:=rfl
        rw [n1]
        by_cases hc1 : c = 1
        · subst hc1
          rw [if_pos rfl]
          exact ⟨g,o,0,cur,by simp,hb,hg,by omega,by omega,.inl rfl⟩
        · rw [if_neg hc1]
          exact ⟨g,o + 1,c - 1,cur,by simp [Addr.add_lit],hb,hg,by omega,by omega,.inr ⟨by omega,h5⟩⟩
      · rw [show (1 : Int).toNat = 1 from rfl]
        split <;> rfl
/-- What an append leaves. -/
structure SLDApp (w0 W : World) (base : Nat) (v : Value) (xs : List Int) (v1 : Value) (w1 : World) : Prop where
  row : SLD w1 base v1 xs
  below : Below base w0 w1
  grown : W.grownBy w1 v.ownBlock
  at_ : v1.ownBlock = v.ownBlock ∨ ∃ b,v1.ownBlock = some b ∧ W.heap.size ≤ b
theorem SLDApp.shape {p : Int} {v1 : Value} {w1 : World} (h : SLDApp w0 W base v (xs ++ [p]) v1 w1) : ∃ A c,v1 = .slice A (xs.length + 1) c:=by
  obtain ⟨A,c,h⟩:=h.row.slice
  rw [List.length_append,List.length_singleton] at h
  exact ⟨A,c,h⟩
theorem si_run (HO : SLD W base v xs) (HB : Below base w0 W) (hbase : base ≤ W.heap.size) (hl : xs.length + 1 ≤ 1000000000) (p : Int) (ty : TypeId) :
    ∃ v1 w1,(Builtin.append_ #[26,26] ty #[v,.slice (some ⟨W.heap.size,0,none⟩) 1 1]).run Try.prog (W.alloc (.cells #[Value.int .i64 p] 3)) = .ok v1 w1 ∧ SLDApp w0 W base v (xs ++ [p]) v1 w1:=by
  obtain ⟨i0,hi,hzz⟩:=Option.map_eq_some_iff.1 infoInt
  simp only [Prod.mk.injEq] at hzz
  obtain ⟨hz,hsz,hby⟩:=hzz
  have hnews : ∀ j u,[Value.int .i64 p][j]? = some u → (W.alloc (.cells #[Value.int .i64 p] 3)).cell? ((⟨W.heap.size,0,none⟩ : Addr).add j) = some u:=by
    intro j u hu
    have hj : j = 0:=by have:=(List.getElem?_eq_some_iff.1 hu).1;simpa using this
    subst hj
    simp at hu
    subst hu
    exact (blk_cell (blk_new W _) 0).trans rfl
  have hsize : (W.alloc (.cells #[Value.int .i64 p] 3)).heap.size = W.heap.size + 1:=by simp
  have h1 : ∀ u ∈ [Value.int .i64 p],u.oneCell' = true:=by intro u hu;rw [List.mem_singleton.1 hu];rfl
  have hga : W.grownBy (W.alloc (.cells #[Value.int .i64 p] 3)) v.ownBlock:=World.grownBy_alloc W _ _
  have trans : ∀ {w1 : World},(W.alloc (.cells #[Value.int .i64 p] 3)).grownBy w1 v.ownBlock → W.grownBy w1 v.ownBlock:=fun hg => ⟨hg.os.trans hga.os,hg.tape.trans hga.tape,hg.output.trans hga.output,Nat.le_trans hga.size hg.size,fun k hk hne => (hg.block k (by rw [hsize];omega) hne).trans (hga.block k hk hne)⟩
  have hown : ∀ q,v.ownBlock = some q → base ≤ q:=fun q hq => (HO.own hq).2
  -- what a new row comes to
  have fin : ∀ (v1 : Value) (w1 : World),w1.ownsRow (W.alloc (.cells #[Value.int .i64 p] 3)).heap.size 3 1 v1 (xs.length + 1) (xs.map (fun x => Value.int .i64 x) ++ [Value.int .i64 p]) → (W.alloc (.cells #[Value.int .i64 p] 3)).grownBy w1 v.ownBlock → SLDApp w0 W base v (xs ++ [p]) v1 w1:=by
    intro v1 w1 ho hg
    obtain ⟨_,ho⟩:=ho
    rcases ho with ⟨_,ho⟩ | ⟨g,c,cur,rfl,hb,hgg,hn,hm,hs,ht⟩
    · omega
    · rw [hsize] at hb
      refine ⟨.inr ⟨g,0,c,cur,by simp,by omega,hgg,by simpa using hn,hm,.inr ⟨by omega,by simpa using ht⟩⟩,HB.grown (trans hg) hbase hown,trans hg,.inr ⟨g,rfl,by omega⟩⟩
  rcases HO with ⟨rfl,rfl⟩ | ⟨g,o,c,cur,rfl,hb,hg,hn,hm,h3⟩
  · obtain ⟨v1,w1,hr,ho,hgr,_⟩:=run_append_own (P:=Try.prog) (W.alloc (.cells #[Value.int .i64 p] 3)) (W.alloc (.cells #[Value.int .i64 p] 3)).heap.size 26 ty 3 i0 _ 1 8 Try.underlying26 hi hz hsz hby rfl (by omega) (.slice none 0 0) 0 [] (World.ownsRow_nil _ _ _ _) ⟨W.heap.size,0,none⟩ 1 1 [Value.int .i64 p] (by simp) hnews h1 (by simp [maxLen]) (by omega) (Nat.le_refl _)
    exact ⟨v1,w1,hr,fin v1 w1 (by simpa using ho) hgr⟩
  · have hgl : g < W.heap.size:=(Array.getElem?_eq_some_iff.1 hg).1
    have hg' : (W.alloc (.cells #[Value.int .i64 p] 3)).heap[g]? = some (.cells cur 3 (0,0)):=blk_alloc hg _
    by_cases hroom : xs.length + 1 ≤ c
    · rcases h3 with h3 | ⟨h3,h4⟩
      · omega
      have hlc : cur.toList.length = cur.size:=by simp
      have hst:=run_storeCells_at (P:=Try.prog) g (o + xs.length) 3 [Value.int .i64 p] 0 cur _ hg' (by simp;omega) h1
      have hf:=run_firstCells_some (P:=Try.prog) (W.alloc (.cells #[Value.int .i64 p] 3)) 1 1 ⟨W.heap.size,0,none⟩ 1 1 [Value.int .i64 p] (by simp) hnews
      simp only [Nat.add_zero] at hst
      have hrun : (Builtin.append_ #[26,26] ty #[.slice (some ⟨g,o,none⟩) xs.length c,.slice (some ⟨W.heap.size,0,none⟩) 1 1]).run Try.prog (W.alloc (.cells #[Value.int .i64 p] 3)) = .ok (.slice (some ⟨g,o,none⟩) (xs.length + 1) c) ((W.alloc (.cells #[Value.int .i64 p] 3)).setRow g (cur.toList.take (o + xs.length) ++ [Value.int .i64 p] ++ cur.toList.drop (o + xs.length + 1)).toArray):=by
        simp [Builtin.append_,run_underlying Try.underlying26,sizeOf,typeInfo,hi,hsz,Builtin.lenOf,hroom,hf,Addr.add_lit,hst]
      refine ⟨_,_,hrun,?_⟩
      have hgr : (W.alloc (.cells #[Value.int .i64 p] 3)).grownBy ((W.alloc (.cells #[Value.int .i64 p] 3)).setRow g (cur.toList.take (o + xs.length) ++ [Value.int .i64 p] ++ cur.toList.drop (o + xs.length + 1)).toArray) (Value.ownBlock (.slice (some ⟨g,o,none⟩) xs.length c)):=⟨rfl,rfl,rfl,by simp,fun k _ hk => setRow_other _ g k _ (fun e => hk (by simp [Value.ownBlock,e]))⟩
      refine ⟨.inr ⟨g,o,c,(cur.toList.take (o + xs.length) ++ [Value.int .i64 p] ++ cur.toList.drop (o + xs.length + 1)).toArray,by simp,hb,setRow_heap _ g cur (cur.toList.take (o + xs.length) ++ [Value.int .i64 p] ++ cur.toList.drop (o + xs.length + 1)).toArray 3 _ hg',by simpa using hroom,hm,.inr ⟨by rw [List.size_toArray,List.length_append,List.length_append,List.length_take,List.length_drop,List.length_singleton,hlc];omega,?_⟩⟩,HB.grown (trans hgr) hbase hown,trans hgr,.inl rfl⟩
      simp only [List.length_append,List.length_singleton,List.map_append,List.map_cons,List.map_nil]
      rw [← h4]
      have e1 : (cur.toList.take (o + xs.length)).drop o = (cur.toList.drop o).take xs.length:=by rw [List.drop_take,Nat.add_sub_cancel_left]
      have hl1 : (cur.toList.take (o + xs.length)).length = o + xs.length:=by simp;omega
      rw [List.append_assoc,List.drop_append_of_le_length (by omega),e1]
      have hl2 : ((cur.toList.drop o).take xs.length).length = xs.length:=by simp;omega
      rw [List.take_append,hl2,List.take_of_length_le (by omega)]
      simp
    · have holds : ∀ j u,(xs.map (fun x => Value.int .i64 x))[j]? = some u → (W.alloc (.cells #[Value.int .i64 p] 3)).cell? ((⟨g,o,none⟩ : Addr).add j) = some u:=by
        intro j u hu
        rcases h3 with h3 | ⟨h3,h4⟩
        · have : xs = []:=List.eq_nil_of_length_eq_zero (by omega)
          subst this
          simp at hu
        · rw [← h4,List.getElem?_take] at hu
          split at hu
          · rw [show (⟨g,o,none⟩ : Addr).add j = ⟨g,o + j,none⟩ by simp [Addr.add_lit],cell_of_row _ g (o + j) cur _ (0,0) hg',← Array.getElem?_toList]
            rwa [List.getElem?_drop] at hu
          · cases hu
      obtain ⟨v1,w1,hr,ho,hgr⟩:=run_append_arg_grows (P:=Try.prog) (W.alloc (.cells #[Value.int .i64 p] 3)) 26 ty 3 i0 _ 1 8 Try.underlying26 hi hz hsz hby rfl (by omega) ⟨g,o,none⟩ xs.length c (xs.map (fun x => Value.int .i64 x)) (by simp) holds ⟨W.heap.size,0,none⟩ 1 1 [Value.int .i64 p] (by simp) hnews (by omega) (by simp [maxLen];omega) (by omega)
      exact ⟨v1,w1,hr,fin v1 w1 ho ⟨hgr.os,hgr.tape,hgr.output,hgr.size,fun k hk _ => hgr.block k hk (by simp)⟩⟩
theorem app_si {ops : Array Oper} {rest : List Oper} {o : Oper} {a : Act} {Q : Exit → Act → World → Prop} {s x : Operand} {p : Int} (hgd : o.guard = none) (ho : o.op = .call { callee:=.builtin .append,args:=#[s,x],argTypes:=#[26,26] })
    (HO : SLD W base v xs) (HB : Below base w0 W) (hbase : base ≤ W.heap.size) (hl : xs.length + 1 ≤ 1000000000) (hs : a.eval s = v) (hx : a.eval x = .slice (some ⟨W.heap.size,0,none⟩) 1 1)
    (h : ∀ v1 w1,SLDApp w0 W base v (xs ++ [p]) v1 w1 → wpList Try.prog ops Q rest (a.put o.dst v1) w1) :
    wpList Try.prog ops Q (o :: rest) a (W.alloc (.cells #[Value.int .i64 p] 3)) :=
  wpList_plain hgd fun _ hK => by
    obtain ⟨v1,w1,hr,hA⟩:=si_run HO HB hbase hl p o.type
    unfold Oper.wp execOp
    simp only [ho,resolve,invoke,builtin,Sem.run_bind,Sem.run_pure,Result.andThen_ok,List.map_toArray,List.map_cons,List.map_nil,hs,hx,hr]
    exact hK _ _ (h v1 w1 hA)
end
end Go.Proofs.Ytmkgcjhimajgiaa


set_option linter.unusedVariables false
set_option linter.unusedSimpArgs false
namespace Go.Proofs.Ytmkgcjhimajgiaa
open Go.RowKit Go.Proofs.YtmkgcjhimajgiaaW.PrintWords Go.Proofs.YtmkgcjhimajgiaaW.PrintLast Go.Conc

structure FB where
  b : Nat
  A1 : Option Addr
  A2 : Option Addr
  A3 : Option Addr
  c1 : Nat
  c2 : Nat
  c3 : Nat
  kb : Nat
  most : Int
  mb : Nat
  ch : Nat
/-- What is made so far: nodes,what waits,is it full. -/
structure FSt where
  X : List ND
  td : List Int
  full : Bool
def FSt.L (s : FSt) : List Lab:=s.X.map ND.lab
def nodeS (most : Int) (s : FSt) (x : Lab) : FSt:=if x ∈ s.L then s else ⟨s.X ++ [⟨x,none,0,0⟩],s.td ++ [((s.X.length : Nat) : Int)],s.full || decide (most ≤ ((s.X.length : Nat) : Int))⟩
theorem FSt.L_len (s : FSt) : s.L.length = s.X.length:=by simp [FSt.L]
theorem nodeS_L (most : Int) (s : FSt) (x : Lab) : (nodeS most s x).L = (nodeF s.L x).2:=by
  unfold nodeS nodeF
  split
  · rfl
  · simp [FSt.L]
/-- The maker's struct,its rows. -/
structure FM0 (w0 W : World) (f : FB) (g : Gram) (vN vT : Value) (s : FSt) : Prop where
  o : W.heap[f.b]? = some (.cells #[.slice f.A1 g.terms.length f.c1,.slice f.A2 g.names.length f.c2,.slice f.A3 g.rules.length f.c3,.pointer (some ⟨f.kb,0,none⟩),.int .i64 f.most,.map (some f.mb),vN,.bool s.full,vT,.chan (some f.ch)] 119 (0,0))
  nd : kND.R 66 W w0.heap.size (fun _ => True) vN s.X
  td : SLD W w0.heap.size vT s.td
  below : Below w0.heap.size w0 W
  lo : w0.heap.size ≤ f.b ∧ w0.heap.size ≤ f.mb ∧ w0.heap.size ≤ f.ch
structure FM (w0 W : World) (f : FB) (g : Gram) (vN vT : Value) (s : FSt) : Prop extends FM0 w0 W f g vN vT s where
  km : KM W f.mb s.L
/-- What a step leaves alone: all but the maker's own blocks. -/
structure GoF (f : FB) (W W' : World) (vN vT vN' vT' : Value) : Prop where
  size : W.heap.size ≤ W'.heap.size
  keep : ∀ q,q < W.heap.size → q ≠ f.b → q ≠ f.mb → some q ≠ vN.ownBlock → some q ≠ vT.ownBlock → W'.heap[q]? = W.heap[q]?
  atN : vN'.ownBlock = vN.ownBlock ∨ ∃ b,vN'.ownBlock = some b ∧ W.heap.size ≤ b
  atT : vT'.ownBlock = vT.ownBlock ∨ ∃ b,vT'.ownBlock = some b ∧ W.heap.size ≤ b
theorem GoF.refl (f : FB) (W : World) (vN vT : Value) : GoF f W W vN vT vN vT:=⟨Nat.le_refl _,fun _ _ _ _ _ _ => rfl,.inl rfl,.inl rfl⟩
theorem GoF.below {f : FB} {W W' : World} (h : Below W.heap.size W W') (vN vT : Value) : GoF f W W' vN vT vN vT:=⟨h.size,fun q hq _ _ _ _ => h.block q hq,.inl rfl,.inl rfl⟩
theorem GoF.trans {f : FB} {a b c : World} {n1 t1 n2 t2 n3 t3 : Value} (h : GoF f a b n1 t1 n2 t2) (i : GoF f b c n2 t2 n3 t3) : GoF f a c n1 t1 n3 t3:=by
  refine ⟨Nat.le_trans h.size i.size,fun q h1 h2 h3 h4 h5 => (i.keep q (Nat.lt_of_lt_of_le h1 h.size) h2 h3 ?_ ?_).trans (h.keep q h1 h2 h3 h4 h5),?_,?_⟩
  · rcases h.atN with e | ⟨d,e,hd⟩
    · rw [e];exact h4
    · rw [e];intro he;injection he with he;omega
  · rcases h.atT with e | ⟨d,e,hd⟩
    · rw [e];exact h5
    · rw [e];intro he;injection he with he;omega
  · rcases i.atN with e | ⟨d,e,hd⟩
    · rw [e];exact h.atN
    · exact .inr ⟨d,e,Nat.le_trans h.size hd⟩
  · rcases i.atT with e | ⟨d,e,hd⟩
    · rw [e];exact h.atT
    · exact .inr ⟨d,e,Nat.le_trans h.size hd⟩
theorem GoF.setB {f : FB} (W : World) (i : Nat) (u vN vT : Value) : GoF f W (W.setCell ⟨f.b,i,none⟩ u) vN vT vN vT:=⟨by simp [World.setCell],fun q _ h1 _ _ _ => Below.heap_setCell W ⟨f.b,i,none⟩ u q h1,.inl rfl,.inl rfl⟩
theorem GoF.map {f : FB} {W W' : World} (hg : W.grownBy W' (some f.mb)) (vN vT : Value) : GoF f W W' vN vT vN vT:=⟨hg.size,fun q hq _ h2 _ _ => hg.block q hq (fun e => h2 (by injection e)),.inl rfl,.inl rfl⟩
theorem GoF.appN {f : FB} {α : Type} {d : Kd α} {e base : Nat} {ok : Nat → Prop} {w0 W w1 : World} {v v1 vT : Value} {xs : List α} (A : Appd d e w0 W base ok v xs v1 w1) : GoF f W w1 v vT v1 vT:=⟨A.grown.size,fun q hq _ _ h _ => A.grown.block q hq h,A.at_,.inl rfl⟩
theorem GoF.appT {f : FB} {base : Nat} {w0 W w1 : World} {v v1 vN : Value} {xs : List Int} (A : SLDApp w0 W base v xs v1 w1) : GoF f W w1 vN v vN v1:=⟨A.grown.size,fun q hq _ _ _ h => A.grown.block q hq h,.inl rfl,A.at_⟩
theorem R_cells {α : Type} {d : Kd α} {e base : Nat} {ok : Nat → Prop} {W W' : World} {v : Value} {xs : List α} (h : d.R e W base ok v xs) (hk : ∀ (q : Nat) (cells : Array Value) (t : TypeId),W.heap[q]? = some (Obj.cells cells t (0,0)) → W'.heap[q]? = W.heap[q]?) : d.R e W' base ok v xs :=
  Kd.R_mono (Kd.R_step (Kd.R_bound h) fun q hq _ => by
    obtain ⟨_,_,_,t,_,cells,hx⟩:=hq
    exact hk q cells t hx) fun _ hk => hk.1
section
variable {w0 W W' : World} {f : FB} {g : Gram} {vN vT : Value} {s : FSt}
theorem FM0.below_ (h : FM0 w0 W f g vN vT s) (hb : Below W.heap.size W W') : FM0 w0 W' f g vN vT s :=
  ⟨blk_below h.o hb,Kd.R_below h.nd hb,h.td.below hb,below_then h.below h.below.size hb,h.lo⟩
theorem FM.below_ (h : FM w0 W f g vN vT s) (hb : Below W.heap.size W W') : FM w0 W' f g vN vT s :=
  ⟨h.toFM0.below_ hb,h.km.move (hb.block _ h.km.lt)⟩
theorem FM0.map (h : FM0 w0 W f g vN vT s) (hm : ∃ es clock,W.heap[f.mb]? = some (.map es clock)) (hg : W.grownBy W' (some f.mb)) : FM0 w0 W' f g vN vT s:=by
  obtain ⟨es,clock,hm⟩:=hm
  have key : ∀ (q : Nat) (cells : Array Value) (t : TypeId),W.heap[q]? = some (Obj.cells cells t (0,0)) → W'.heap[q]? = W.heap[q]?:=fun q cells t hq => hg.block q (Array.getElem?_eq_some_iff.1 hq).1 (fun e => by
    injection e with e
    subst e
    rw [hm] at hq
    cases hq)
  exact ⟨(key _ _ _ h.o).trans h.o,R_cells h.nd key,h.td.keep (fun q hq => by obtain ⟨⟨cs,hc⟩,_⟩:=h.td.own hq;exact key _ _ _ hc),h.below.grown hg h.below.size (fun j hj => by injection hj with hj;rw [← hj];exact h.lo.2.1),h.lo⟩
theorem map_ne {W : World} {a b t : Nat} {cs : Array Value} {es : Array MapEntry} {clock : Nat} (ha : W.heap[a]? = some (.cells cs t (0,0))) (hb : W.heap[b]? = some (.map es clock)) : a ≠ b:=by
  rintro rfl
  rw [ha] at hb
  cases hb
theorem FM0.full (h : FM0 w0 W f g vN vT s) (b : Bool) : FM0 w0 (W.setCell ⟨f.b,7,none⟩ (.bool b)) f g vN vT { s with full:=b } :=
  ⟨(blk_set h.o 7 _).trans (by rfl),R_setOther h.nd h.o (by decide) 7 _,h.td.other h.o (by decide) 7 _,below_set h.below h.lo.1 _ _,h.lo⟩
theorem FM0.nodes (h : FM0 w0 W f g vN vT s) {x : ND} {v1 : Value} {w1 : World} (A : Appd kND 66 w0 W w0.heap.size (fun _ => True) vN (s.X ++ [x]) v1 w1) : FM0 w0 (w1.setCell ⟨f.b,6,none⟩ v1) f g v1 vT { s with X:=s.X ++ [x] }:=by
  have ho:=blk_grown h.o A.grown (Kd.R_ne h.nd h.o (by decide))
  exact ⟨(blk_set ho 6 v1).trans (by rfl),R_setOther A.row ho (by decide) 6 _,(h.td.keep (fun q hq => A.grown.block q (h.td.lt hq) (fun e => by obtain ⟨⟨cs,hc⟩,_⟩:=h.td.own hq;exact Kd.R_ne h.nd hc (by decide) e))).other ho (by decide) 6 _,below_set A.below h.lo.1 _ _,h.lo⟩
theorem FM0.todo (h : FM0 w0 W f g vN vT s) {l : List Int} {v1 : Value} {w1 : World} (A : SLDApp w0 W w0.heap.size vT l v1 w1) : FM0 w0 (w1.setCell ⟨f.b,8,none⟩ v1) f g vN v1 { s with td:=l }:=by
  have ho:=blk_grown h.o A.grown (h.td.ne h.o (by decide))
  have hN : kND.R 66 w1 w0.heap.size (fun _ => True) vN s.X:=Kd.R_mono (Kd.R_step (Kd.R_bound h.nd) fun q hq hl => by
    obtain ⟨_,_,_,t,hm,cells,hx⟩:=hq
    refine A.grown.block q hl (h.td.ne hx ?_)
    have : ∀ t,t ∈ [66] → t ≠ 3:=by decide
    exact this t hm) fun _ hk => hk.1
  exact ⟨(blk_set ho 8 v1).trans (by rfl),R_setOther hN ho (by decide) 8 _,A.row.other ho (by decide) 8 _,below_set A.below h.lo.1 _ _,h.lo⟩
theorem own_cells {α : Type} {d : Kd α} {e base : Nat} {ok : Nat → Prop} {v : Value} {xs : List α} (h : d.R e W base ok v xs) {q : Nat} (hq : v.ownBlock = some q) : ∃ cells,W.heap[q]? = some (.cells cells e (0,0)):=by
  obtain ⟨inner,ho⟩:=Kd.R_own h
  exact own_typed ho q hq
theorem KM.set {b : Nat} {L : List Lab} (h : KM W b L) {p i t : Nat} {cs : Array Value} (hp : W.heap[p]? = some (.cells cs t (0,0))) (u : Value) : KM (W.setCell ⟨p,i,none⟩ u) b L:=by
  obtain ⟨es,clock,hm⟩:=h.block
  exact h.move (Below.heap_setCell W ⟨p,i,none⟩ u b (Ne.symm (map_ne hp hm)))
theorem KM.appd {α : Type} {d : Kd α} {e base b : Nat} {ok : Nat → Prop} {L : List Lab} {v v1 : Value} {xs ys : List α} {w1 : World} (h : KM W b L) (hr : d.R e W base ok v xs) (A : Appd d e w0 W base ok v ys v1 w1) : KM w1 b L:=by
  obtain ⟨es,clock,hm⟩:=h.block
  refine h.move (A.grown.block b h.lt fun e => ?_)
  obtain ⟨cells,hc⟩:=own_cells hr e.symm
  rw [hm] at hc
  cases hc
theorem KM.appdS {b base : Nat} {L : List Lab} {v v1 : Value} {xs ys : List Int} {w1 : World} (h : KM W b L) (hr : SLD W base v xs) (A : SLDApp w0 W base v ys v1 w1) : KM w1 b L:=by
  obtain ⟨es,clock,hm⟩:=h.block
  refine h.move (A.grown.block b h.lt fun e => ?_)
  obtain ⟨⟨cells,hc⟩,_⟩:=hr.own e.symm
  rw [hm] at hc
  cases hc
end
end Go.Proofs.Ytmkgcjhimajgiaa


set_option linter.unusedVariables false
set_option linter.unusedSimpArgs false
namespace Go.Proofs.Ytmkgcjhimajgiaa
open Go.RowKit Go.Proofs.YtmkgcjhimajgiaaW.PrintWords Go.Proofs.YtmkgcjhimajgiaaW.PrintLast Go.Conc

def NodeEnd (w0 W : World) (f : FB) (g : Gram) (vN vT : Value) (n : Nat) (s' : FSt) (e : Ending) (W' : World) : Prop:=∃ vN' vT',e = .returned (.int .i64 (n : Nat)) ∧ FM w0 W' f g vN' vT' s' ∧ GoF f W W' vN vT vN' vT'
set_option maxRecDepth 100000 in
set_option maxHeartbeats 16000000 in
theorem node_c (w0 : World) (f : FB) (g : Gram) (vN vT : Value) (s : FSt) (x : Lab) (W : World) (h : FM w0 W f g vN vT s) (hx : LabI x) (hl : s.X.length ≤ 100000) (htd : s.td.length ≤ 100000) :
    Calls Try.prog 85 #[.pointer (some ⟨f.b,0,none⟩),labV x] W fun e W' => NodeEnd w0 W f g vN vT (nodeF s.L x).1 (nodeS f.most s x) e W':=by
  obtain ⟨x0,hx0⟩ : ∃ x0,x0 = W.heap.size:=⟨_,rfl⟩
  obtain ⟨v0,hv0⟩ : ∃ v0 : World,v0 = W.alloc (.cells #[.int .i64 x.sym,.int .i64 x.rule,.int .i64 x.dot,.int .i64 x.i,.int .i64 x.j] 150 (0,0)):=⟨_,rfl⟩
  have HB0 : Aside0 (Below W.heap.size W v0):=⟨by rw [hv0];exact (Below.refl W.heap.size W).alloc (Nat.le_refl _) _⟩
  have HX : Aside0 (v0.heap[x0]? = some (.cells #[.int .i64 x.sym,.int .i64 x.rule,.int .i64 x.dot,.int .i64 x.i,.int .i64 x.j] 150 (0,0))):=⟨by rw [hv0,hx0];exact blk_new W _⟩
  have HF:=Aside0.mk (h.below_ HB0.out)
  have HO:=Aside0.mk HF.out.o
  have HLX:=Aside0.mk hx
  have HWS : Aside0 (W.heap.size ≤ v0.heap.size):=⟨HB0.out.size⟩
  have hxf : x0 ≠ f.b:=by rw [hx0];exact Ne.symm (Nat.ne_of_lt (blk_lt h.o))
  obtain ⟨As,cs,rfl⟩:=Kd.R_slice h.nd
  obtain ⟨At,ct,rfl⟩:=h.td.slice
  by_cases hm : x ∈ s.L
  · have hn1 : (nodeF s.L x).1 = s.L.idxOf x:=by unfold nodeF;rw [if_pos hm]
    have hn2 : nodeS f.most s x = s:=by unfold nodeS;rw [if_pos hm]
    rw [hn1,hn2]
    have HMM:=Lib.hid hm
    clear h hx hn1 hn2 hm
    go_enter Try.func85,Try.ntmps85
    go_upto_region 1 with (fail)
    simp only [← hv0]
    simp only [← hx0]
    clear hv0 hx0
    refine start_ (n:=11) (S:=fun w' => Below v0.heap.size v0 w') (ds:=[]) (lb 11 0x0) (by kernel_rfl) rfl (by kernel_rfl) (below_drew1 (Below.refl _ _)) (fun hHeld => ?_)
    refine pu_ ?_ ?_ 0 (some 8) (lb 11 0x1) ?_
    refine pu_ ?_ ?_ 1 (some 9) (lb 11 0x3) ?_
    refine pu_ ?_ ?_ 2 (some 10) (lb 11 0x7) ?_
    refine ta_ ?_ ?_ 3 (some 11) (lb 11 0xf) hHeld ?_ (y:=by rintro w' hS;have d0:=(blk_cell (blk_below HX.out hS) 0).trans rfl;have d1:=(blk_cell (blk_below HX.out hS) 1).trans rfl;have d2:=(blk_cell (blk_below HX.out hS) 2).trans rfl;have d3:=(blk_cell (blk_below HX.out hS) 3).trans rfl;have d4:=(blk_cell (blk_below HX.out hS) 4).trans rfl;have d5:=(blk_cell (blk_below HO.out hS) 0).trans rfl;have d6:=(blk_cell (blk_below HO.out hS) 1).trans rfl;have d7:=(blk_cell (blk_below HO.out hS) 2).trans rfl;have d8:=(blk_cell (blk_below HO.out hS) 3).trans rfl;have d9:=(blk_cell (blk_below HO.out hS) 4).trans rfl;have d10:=(blk_cell (blk_below HO.out hS) 5).trans rfl;have d11:=(blk_cell (blk_below HO.out hS) 6).trans rfl;have d12:=(blk_cell (blk_below HO.out hS) 7).trans rfl;have d13:=(blk_cell (blk_below HO.out hS) 8).trans rfl;have d14:=(blk_cell (blk_below HO.out hS) 9).trans rfl;go_simp;with_reducible rfl)
    refine ta_ ?_ ?_ 4 (some 12) (lb 11 0x1f) hHeld ?_ (y:=by rintro w' hS;have d0:=(blk_cell (blk_below HX.out hS) 0).trans rfl;have d1:=(blk_cell (blk_below HX.out hS) 1).trans rfl;have d2:=(blk_cell (blk_below HX.out hS) 2).trans rfl;have d3:=(blk_cell (blk_below HX.out hS) 3).trans rfl;have d4:=(blk_cell (blk_below HX.out hS) 4).trans rfl;have d5:=(blk_cell (blk_below HO.out hS) 0).trans rfl;have d6:=(blk_cell (blk_below HO.out hS) 1).trans rfl;have d7:=(blk_cell (blk_below HO.out hS) 2).trans rfl;have d8:=(blk_cell (blk_below HO.out hS) 3).trans rfl;have d9:=(blk_cell (blk_below HO.out hS) 4).trans rfl;have d10:=(blk_cell (blk_below HO.out hS) 5).trans rfl;have d11:=(blk_cell (blk_below HO.out hS) 6).trans rfl;have d12:=(blk_cell (blk_below HO.out hS) 7).trans rfl;have d13:=(blk_cell (blk_below HO.out hS) 8).trans rfl;have d14:=(blk_cell (blk_below HO.out hS) 9).trans rfl;go_simp;with_reducible rfl)
    refine on_ 5 (some 13) (lb 11 0x3f) (fun K hK => ?_)
    obtain ⟨c,hlk,hcc⟩:=(HF.out.below_ hHeld).km.look HLX.out;rw [decide_eq_true HMM.out] at hlk;obtain rfl:=hcc HMM.out
    refine va_ ?_ ?_ ?_
    refine hK.out _ _ hHeld (fun hHeld => ?_)
    clear hK K
    refine nm_ ?_ (some 13) ?_
    refine pu_ ?_ ?_ 6 (some 7) (lb 11 0x7f) ?_
    refine pu_ ?_ ?_ 7 (some 14) (lb 11 0xff) ?_
    refine pu_ ?_ ?_ 8 (some 15) (lb 11 0x1ff) ?_
    refine pu_ ?_ ?_ 9 (some 5) (lb 11 0x3ff) ?_
    refine pu_ ?_ ?_ 10 (some 6) (lb 11 0x7ff) ?_
    refine done_ (by kernel_rfl) ?_
    go_wp2
    go_ret
    exact ⟨_,_,rfl,HF.out.below_ hHeld,GoF.below (below_then HB0.out HB0.out.size hHeld) _ _⟩
  · have hn1 : (nodeF s.L x).1 = s.X.length:=by unfold nodeF;rw [if_neg hm,FSt.L_len]
    have hn2 : nodeS f.most s x = ⟨s.X ++ [⟨x,none,0,0⟩],s.td ++ [((s.X.length : Nat) : Int)],s.full || decide (f.most ≤ ((s.X.length : Nat) : Int))⟩:=by unfold nodeS;rw [if_neg hm]
    rw [hn1,hn2]
    obtain ⟨m,hmm⟩ : ∃ m,m = s.X.length:=⟨_,rfl⟩
    obtain ⟨fb,hfb⟩ : ∃ fb,decide (f.most ≤ (m : Int)) = fb:=⟨_,rfl⟩
    obtain ⟨fu,hfu⟩ : ∃ fu,fu = s.full:=⟨_,rfl⟩
    rw [← hmm,hfb,← hfu]
    have HM:=Lib.hid hmm
    have HFB:=Lib.hid hfb
    have HFU:=Lib.hid hfu
    have HMM:=Lib.hid hm
    clear h hx hn1 hn2 hm hmm hfb hfu
    go_enter Try.func85,Try.ntmps85
    go_upto_region 1 with (fail)
    simp only [← hv0]
    simp only [← hx0]
    clear hv0 hx0
    refine start_ (n:=11) (S:=fun w' => Below v0.heap.size v0 w') (ds:=[]) (lb 11 0x0) (by kernel_rfl) rfl (by kernel_rfl) (below_drew1 (Below.refl _ _)) (fun hHeld => ?_)
    refine pu_ ?_ ?_ 0 (some 8) (lb 11 0x1) ?_
    refine pu_ ?_ ?_ 1 (some 9) (lb 11 0x3) ?_
    refine pu_ ?_ ?_ 2 (some 10) (lb 11 0x7) ?_
    refine ta_ ?_ ?_ 3 (some 11) (lb 11 0xf) hHeld ?_ (y:=by rintro w' hS;have d0:=(blk_cell (blk_below HX.out hS) 0).trans rfl;have d1:=(blk_cell (blk_below HX.out hS) 1).trans rfl;have d2:=(blk_cell (blk_below HX.out hS) 2).trans rfl;have d3:=(blk_cell (blk_below HX.out hS) 3).trans rfl;have d4:=(blk_cell (blk_below HX.out hS) 4).trans rfl;have d5:=(blk_cell (blk_below HO.out hS) 0).trans rfl;have d6:=(blk_cell (blk_below HO.out hS) 1).trans rfl;have d7:=(blk_cell (blk_below HO.out hS) 2).trans rfl;have d8:=(blk_cell (blk_below HO.out hS) 3).trans rfl;have d9:=(blk_cell (blk_below HO.out hS) 4).trans rfl;have d10:=(blk_cell (blk_below HO.out hS) 5).trans rfl;have d11:=(blk_cell (blk_below HO.out hS) 6).trans rfl;have d12:=(blk_cell (blk_below HO.out hS) 7).trans rfl;have d13:=(blk_cell (blk_below HO.out hS) 8).trans rfl;have d14:=(blk_cell (blk_below HO.out hS) 9).trans rfl;go_simp;with_reducible rfl)
    refine ta_ ?_ ?_ 4 (some 12) (lb 11 0x1f) hHeld ?_ (y:=by rintro w' hS;have d0:=(blk_cell (blk_below HX.out hS) 0).trans rfl;have d1:=(blk_cell (blk_below HX.out hS) 1).trans rfl;have d2:=(blk_cell (blk_below HX.out hS) 2).trans rfl;have d3:=(blk_cell (blk_below HX.out hS) 3).trans rfl;have d4:=(blk_cell (blk_below HX.out hS) 4).trans rfl;have d5:=(blk_cell (blk_below HO.out hS) 0).trans rfl;have d6:=(blk_cell (blk_below HO.out hS) 1).trans rfl;have d7:=(blk_cell (blk_below HO.out hS) 2).trans rfl;have d8:=(blk_cell (blk_below HO.out hS) 3).trans rfl;have d9:=(blk_cell (blk_below HO.out hS) 4).trans rfl;have d10:=(blk_cell (blk_below HO.out hS) 5).trans rfl;have d11:=(blk_cell (blk_below HO.out hS) 6).trans rfl;have d12:=(blk_cell (blk_below HO.out hS) 7).trans rfl;have d13:=(blk_cell (blk_below HO.out hS) 8).trans rfl;have d14:=(blk_cell (blk_below HO.out hS) 9).trans rfl;go_simp;with_reducible rfl)
    refine on_ 5 (some 13) (lb 11 0x3f) (fun K hK => ?_)
    obtain ⟨c,hlk,hcc⟩:=(HF.out.below_ hHeld).km.look HLX.out;rw [decide_eq_false HMM.out] at hlk;clear hcc
    refine va_ ?_ ?_ ?_
    refine hK.out _ _ hHeld (fun hHeld => ?_)
    clear hK K
    refine nm_ ?_ (some 13) ?_
    refine pu_ ?_ ?_ 6 (some 7) (lb 11 0x7f) ?_
    refine pu_ ?_ ?_ 7 (some 14) (lb 11 0xff) ?_
    refine pu_ ?_ ?_ 8 (some 15) (lb 11 0x1ff) ?_
    refine pu_ ?_ ?_ 9 (some 5) (lb 11 0x3ff) ?_
    refine pu_ ?_ ?_ 10 (some 6) (lb 11 0x7ff) ?_
    refine done_ (by kernel_rfl) ?_
    obtain ⟨v1,hv1⟩ : ∃ v1,v1 = v0.drew:=⟨_,rfl⟩
    rw [← hv1] at hHeld ⊢
    have HX1:=Aside0.mk (blk_below HX.out hHeld)
    have HF1:=Aside0.mk (HF.out.below_ hHeld)
    have HO1:=Aside0.mk HF1.out.o
    have HG1:=Aside0.mk (GoF.below (f:=f) (below_then HB0.out HB0.out.size hHeld) (.slice As s.X.length cs) (.slice At s.td.length ct))
    clear hv1 hHeld HX HF HO hlk
    have o6:=(blk_cell HO1.out 6).trans rfl
    have o4:=(blk_cell HO1.out 4).trans rfl
    have o7:=(blk_cell HO1.out 7).trans rfl
    have z7:=blk_frozen HO1.out 7
    rw [← HM.out] at o6
    rw [← HFU.out] at o7
    have HF2:=Aside0.mk (HF1.out.toFM0.full (fu || fb))
    have HK2:=Aside0.mk (HF1.out.km.set HO1.out (i:=7) (.bool (fu || fb)))
    have HX2:=Aside0.mk (blk_far HX1.out (p:=⟨f.b,7,none⟩) hxf (.bool (fu || fb)))
    have HG2:=Aside0.mk (HG1.out.trans (GoF.setB v1 7 (.bool (fu || fb)) _ _))
    have d1:=HFB.out
    cases fu
    · simp only [Bool.false_or] at HF2 HK2 HX2 HG2 ⊢
      go_upto_region 5 with (fail)
      clear o6 o4 o7 z7 d1
      have HFB2:=Lib.hid (show (s.full || fb) = fb by rw [← HFU.out];rfl)
      obtain ⟨v2,hv2⟩ : ∃ v2,v2 = v1.setCell ⟨f.b,7,none⟩ (.bool fb):=⟨_,rfl⟩
      rw [← hv2] at HF2 HK2 HX2 HG2
      simp only [← hv2]
      have HO2:=Aside0.mk HF2.out.o
      clear hv2 HF1 HO1 HX1 HG1
      refine start_ (n:=7) (S:=fun w' => Below v2.heap.size v2 w') (ds:=[6]) (lb 7 0x0) (by kernel_rfl) rfl (by kernel_rfl) (below_drew1 (Below.refl _ _)) (fun hHeld => ?_)
      refine pu_ ?_ ?_ 0 (some 39) (lb 7 0x1) ?_
      refine pu_ ?_ ?_ 1 (some 40) (lb 7 0x3) ?_
      refine pu_ ?_ ?_ 2 (some 41) (lb 7 0x7) ?_
      refine pu_ ?_ ?_ 5 (some 44) (lb 7 0x27) ?_
      refine ta_ ?_ ?_ 3 (some 42) (lb 7 0x2f) hHeld ?_ (y:=by rintro w' hS;have d0:=(blk_cell (blk_below HX2.out hS) 0).trans rfl;have d1:=(blk_cell (blk_below HX2.out hS) 1).trans rfl;have d2:=(blk_cell (blk_below HX2.out hS) 2).trans rfl;have d3:=(blk_cell (blk_below HX2.out hS) 3).trans rfl;have d4:=(blk_cell (blk_below HX2.out hS) 4).trans rfl;have d5:=(blk_cell (blk_below HO2.out hS) 0).trans rfl;have d6:=(blk_cell (blk_below HO2.out hS) 1).trans rfl;have d7:=(blk_cell (blk_below HO2.out hS) 2).trans rfl;have d8:=(blk_cell (blk_below HO2.out hS) 3).trans rfl;have d9:=(blk_cell (blk_below HO2.out hS) 4).trans rfl;have d10:=(blk_cell (blk_below HO2.out hS) 5).trans rfl;have d11:=(blk_cell (blk_below HO2.out hS) 6).trans rfl;have d12:=(blk_cell (blk_below HO2.out hS) 7).trans rfl;have d13:=(blk_cell (blk_below HO2.out hS) 8).trans rfl;have d14:=(blk_cell (blk_below HO2.out hS) 9).trans rfl;go_simp;with_reducible rfl)
      refine ta_ ?_ ?_ 4 (some 43) (lb 7 0x3f) hHeld ?_ (y:=by rintro w' hS;have d0:=(blk_cell (blk_below HX2.out hS) 0).trans rfl;have d1:=(blk_cell (blk_below HX2.out hS) 1).trans rfl;have d2:=(blk_cell (blk_below HX2.out hS) 2).trans rfl;have d3:=(blk_cell (blk_below HX2.out hS) 3).trans rfl;have d4:=(blk_cell (blk_below HX2.out hS) 4).trans rfl;have d5:=(blk_cell (blk_below HO2.out hS) 0).trans rfl;have d6:=(blk_cell (blk_below HO2.out hS) 1).trans rfl;have d7:=(blk_cell (blk_below HO2.out hS) 2).trans rfl;have d8:=(blk_cell (blk_below HO2.out hS) 3).trans rfl;have d9:=(blk_cell (blk_below HO2.out hS) 4).trans rfl;have d10:=(blk_cell (blk_below HO2.out hS) 5).trans rfl;have d11:=(blk_cell (blk_below HO2.out hS) 6).trans rfl;have d12:=(blk_cell (blk_below HO2.out hS) 7).trans rfl;have d13:=(blk_cell (blk_below HO2.out hS) 8).trans rfl;have d14:=(blk_cell (blk_below HO2.out hS) 9).trans rfl;go_simp;with_reducible rfl)
      refine ls_ 6 none (lb 7 0x7f) (fun K hK => ?_)
      have HFd:=Aside0.mk (HF2.out.below_ hHeld);have HKd:=Aside0.mk (HK2.out.move (W':=v2.drew) rfl);have HXd:=Aside0.mk (blk_below HX2.out hHeld);have HGd:=Aside0.mk (HG2.out.trans (GoF.below hHeld _ _));obtain ⟨v3,hrun,hkm3,hg3⟩:=HKd.out.put HLX.out HMM.out (by rw [FSt.L_len];omega);rw [FSt.L_len,← HM.out] at hrun;have HF3:=Aside0.mk (HFd.out.map HKd.out.block hg3);have HG3:=Aside0.mk (HGd.out.trans (GoF.map hg3 _ _));have HK3:=Aside0.mk hkm3;have HX3:=Aside0.mk ((hg3.block x0 (blk_lt HXd.out) (fun e => by injection e with e;obtain ⟨_,_,hm0⟩:=HKd.out.block;exact map_ne HXd.out hm0 e)).trans HXd.out);clear hkm3 hg3 HFd HKd HXd HGd;unfold labV at hrun;refine skip_ (w1:=v3) (by rfl) rfl ?_ ?_;(focus (go_simp));clear hrun;refine hK.out _ _ ?_
      clear hK K
      refine done_ (by kernel_rfl) ?_
      have HFB3:=HFB2
      have HFd:=Aside0.mk (HF3.out.below_ (below_drew1 (Below.refl v3.heap.size v3)))
      have HKd:=Aside0.mk (HK3.out.move (W':=v3.drew) rfl)
      have HGd:=Aside0.mk (HG3.out.trans (GoF.below (below_drew1 (Below.refl v3.heap.size v3)) _ _))
      have HO3:=Aside0.mk HF3.out.o
      clear HF2 HO2 HX2 HK2 HG2 HF3 HK3 HG3
      go_upto_region 6 with (fail)
      refine start_ (n:=23) (S:=fun w' => Below v3.heap.size v3 w') (ds:=[18,22]) (lb 23 0x0) (by kernel_rfl) rfl (by kernel_rfl) (below_drew1 (Below.refl _ _)) (fun hHeld => ?_)
      refine pu_ ?_ ?_ 0 (some 45) (lb 23 0x1) ?_
      refine pu_ ?_ ?_ 1 (some 46) (lb 23 0x3) ?_
      refine pu_ ?_ ?_ 2 (some 47) (lb 23 0x7) ?_
      refine pu_ ?_ ?_ 3 (some 48) (lb 23 0xf) ?_
      refine pu_ ?_ ?_ 4 (some 49) (lb 23 0x1f) ?_
      refine pu_ ?_ ?_ 6 (some 51) (lb 23 0x5f) ?_
      refine pu_ ?_ ?_ 8 (some 53) (lb 23 0x15f) ?_
      refine pu_ ?_ ?_ 10 (some 55) (lb 23 0x55f) ?_
      refine pu_ ?_ ?_ 12 (some 57) (lb 23 0x155f) ?_
      refine pu_ ?_ ?_ 14 (some 59) (lb 23 0x555f) ?_
      refine ta_ ?_ ?_ 5 (some 50) (lb 23 0x557f) hHeld ?_ (y:=by rintro w' hS;have d0:=(blk_cell (blk_below HX3.out hS) 0).trans rfl;have d1:=(blk_cell (blk_below HX3.out hS) 1).trans rfl;have d2:=(blk_cell (blk_below HX3.out hS) 2).trans rfl;have d3:=(blk_cell (blk_below HX3.out hS) 3).trans rfl;have d4:=(blk_cell (blk_below HX3.out hS) 4).trans rfl;have d5:=(blk_cell (blk_below HO3.out hS) 0).trans rfl;have d6:=(blk_cell (blk_below HO3.out hS) 1).trans rfl;have d7:=(blk_cell (blk_below HO3.out hS) 2).trans rfl;have d8:=(blk_cell (blk_below HO3.out hS) 3).trans rfl;have d9:=(blk_cell (blk_below HO3.out hS) 4).trans rfl;have d10:=(blk_cell (blk_below HO3.out hS) 5).trans rfl;have d11:=(blk_cell (blk_below HO3.out hS) 6).trans rfl;have d12:=(blk_cell (blk_below HO3.out hS) 7).trans rfl;have d13:=(blk_cell (blk_below HO3.out hS) 8).trans rfl;have d14:=(blk_cell (blk_below HO3.out hS) 9).trans rfl;go_simp;with_reducible rfl)
      refine ta_ ?_ ?_ 7 (some 52) (lb 23 0x55ff) hHeld ?_ (y:=by rintro w' hS;have d0:=(blk_cell (blk_below HX3.out hS) 0).trans rfl;have d1:=(blk_cell (blk_below HX3.out hS) 1).trans rfl;have d2:=(blk_cell (blk_below HX3.out hS) 2).trans rfl;have d3:=(blk_cell (blk_below HX3.out hS) 3).trans rfl;have d4:=(blk_cell (blk_below HX3.out hS) 4).trans rfl;have d5:=(blk_cell (blk_below HO3.out hS) 0).trans rfl;have d6:=(blk_cell (blk_below HO3.out hS) 1).trans rfl;have d7:=(blk_cell (blk_below HO3.out hS) 2).trans rfl;have d8:=(blk_cell (blk_below HO3.out hS) 3).trans rfl;have d9:=(blk_cell (blk_below HO3.out hS) 4).trans rfl;have d10:=(blk_cell (blk_below HO3.out hS) 5).trans rfl;have d11:=(blk_cell (blk_below HO3.out hS) 6).trans rfl;have d12:=(blk_cell (blk_below HO3.out hS) 7).trans rfl;have d13:=(blk_cell (blk_below HO3.out hS) 8).trans rfl;have d14:=(blk_cell (blk_below HO3.out hS) 9).trans rfl;go_simp;with_reducible rfl)
      refine ta_ ?_ ?_ 9 (some 54) (lb 23 0x57ff) hHeld ?_ (y:=by rintro w' hS;have d0:=(blk_cell (blk_below HX3.out hS) 0).trans rfl;have d1:=(blk_cell (blk_below HX3.out hS) 1).trans rfl;have d2:=(blk_cell (blk_below HX3.out hS) 2).trans rfl;have d3:=(blk_cell (blk_below HX3.out hS) 3).trans rfl;have d4:=(blk_cell (blk_below HX3.out hS) 4).trans rfl;have d5:=(blk_cell (blk_below HO3.out hS) 0).trans rfl;have d6:=(blk_cell (blk_below HO3.out hS) 1).trans rfl;have d7:=(blk_cell (blk_below HO3.out hS) 2).trans rfl;have d8:=(blk_cell (blk_below HO3.out hS) 3).trans rfl;have d9:=(blk_cell (blk_below HO3.out hS) 4).trans rfl;have d10:=(blk_cell (blk_below HO3.out hS) 5).trans rfl;have d11:=(blk_cell (blk_below HO3.out hS) 6).trans rfl;have d12:=(blk_cell (blk_below HO3.out hS) 7).trans rfl;have d13:=(blk_cell (blk_below HO3.out hS) 8).trans rfl;have d14:=(blk_cell (blk_below HO3.out hS) 9).trans rfl;go_simp;with_reducible rfl)
      refine ta_ ?_ ?_ 11 (some 56) (lb 23 0x5fff) hHeld ?_ (y:=by rintro w' hS;have d0:=(blk_cell (blk_below HX3.out hS) 0).trans rfl;have d1:=(blk_cell (blk_below HX3.out hS) 1).trans rfl;have d2:=(blk_cell (blk_below HX3.out hS) 2).trans rfl;have d3:=(blk_cell (blk_below HX3.out hS) 3).trans rfl;have d4:=(blk_cell (blk_below HX3.out hS) 4).trans rfl;have d5:=(blk_cell (blk_below HO3.out hS) 0).trans rfl;have d6:=(blk_cell (blk_below HO3.out hS) 1).trans rfl;have d7:=(blk_cell (blk_below HO3.out hS) 2).trans rfl;have d8:=(blk_cell (blk_below HO3.out hS) 3).trans rfl;have d9:=(blk_cell (blk_below HO3.out hS) 4).trans rfl;have d10:=(blk_cell (blk_below HO3.out hS) 5).trans rfl;have d11:=(blk_cell (blk_below HO3.out hS) 6).trans rfl;have d12:=(blk_cell (blk_below HO3.out hS) 7).trans rfl;have d13:=(blk_cell (blk_below HO3.out hS) 8).trans rfl;have d14:=(blk_cell (blk_below HO3.out hS) 9).trans rfl;go_simp;with_reducible rfl)
      refine ta_ ?_ ?_ 13 (some 58) (lb 23 0x7fff) hHeld ?_ (y:=by rintro w' hS;have d0:=(blk_cell (blk_below HX3.out hS) 0).trans rfl;have d1:=(blk_cell (blk_below HX3.out hS) 1).trans rfl;have d2:=(blk_cell (blk_below HX3.out hS) 2).trans rfl;have d3:=(blk_cell (blk_below HX3.out hS) 3).trans rfl;have d4:=(blk_cell (blk_below HX3.out hS) 4).trans rfl;have d5:=(blk_cell (blk_below HO3.out hS) 0).trans rfl;have d6:=(blk_cell (blk_below HO3.out hS) 1).trans rfl;have d7:=(blk_cell (blk_below HO3.out hS) 2).trans rfl;have d8:=(blk_cell (blk_below HO3.out hS) 3).trans rfl;have d9:=(blk_cell (blk_below HO3.out hS) 4).trans rfl;have d10:=(blk_cell (blk_below HO3.out hS) 5).trans rfl;have d11:=(blk_cell (blk_below HO3.out hS) 6).trans rfl;have d12:=(blk_cell (blk_below HO3.out hS) 7).trans rfl;have d13:=(blk_cell (blk_below HO3.out hS) 8).trans rfl;have d14:=(blk_cell (blk_below HO3.out hS) 9).trans rfl;go_simp;with_reducible rfl)
      refine ta_ ?_ ?_ 15 (some 60) (lb 23 0xffff) hHeld ?_ (y:=by rintro w' hS;have d0:=(blk_cell (blk_below HX3.out hS) 0).trans rfl;have d1:=(blk_cell (blk_below HX3.out hS) 1).trans rfl;have d2:=(blk_cell (blk_below HX3.out hS) 2).trans rfl;have d3:=(blk_cell (blk_below HX3.out hS) 3).trans rfl;have d4:=(blk_cell (blk_below HX3.out hS) 4).trans rfl;have d5:=(blk_cell (blk_below HO3.out hS) 0).trans rfl;have d6:=(blk_cell (blk_below HO3.out hS) 1).trans rfl;have d7:=(blk_cell (blk_below HO3.out hS) 2).trans rfl;have d8:=(blk_cell (blk_below HO3.out hS) 3).trans rfl;have d9:=(blk_cell (blk_below HO3.out hS) 4).trans rfl;have d10:=(blk_cell (blk_below HO3.out hS) 5).trans rfl;have d11:=(blk_cell (blk_below HO3.out hS) 6).trans rfl;have d12:=(blk_cell (blk_below HO3.out hS) 7).trans rfl;have d13:=(blk_cell (blk_below HO3.out hS) 8).trans rfl;have d14:=(blk_cell (blk_below HO3.out hS) 9).trans rfl;go_simp;with_reducible rfl)
      refine pu_ ?_ ?_ 16 (some 61) (lb 23 0x1ffff) ?_
      refine on_ 17 (some 62) (lb 23 0x3ffff) (fun K hK => ?_)
      refine va_ ?_ ?_ ?_
      refine hK.out _ _ (hHeld.alloc hHeld.size _) (fun hHeld => ?_)
      clear hK K
      refine nm_ ?_ (some 62) ?_
      refine ls_ 18 (some 63) (lb 23 0x7ffff) (fun K hK => ?_)
      (refine app_nd_step (w0:=w0) (base:=w0.heap.size) (ok:=fun _ => True) (p:=⟨x,none,0,0⟩) (by rfl) rfl HFd.out.nd HFd.out.below HFd.out.below.size (by show s.X.length + 1 ≤ _;omega) (fun _ _ => trivial) (by simp [Act.eval]) (by simp [Act.eval]) ?_;intro v4 w4 A4;obtain ⟨As4,cs4,rfl⟩:=A4.shape;have HE4:=Aside0.mk (blk_grown HFd.out.o A4.grown (Kd.R_ne HFd.out.nd HFd.out.o (by decide)));have HF4:=Aside0.mk (HFd.out.nodes A4);have HK4:=Aside0.mk ((HKd.out.appd HFd.out.nd A4).set HE4.out (i:=6) (.slice As4 (s.X.length + 1) cs4));have HG4:=Aside0.mk ((HGd.out.trans (GoF.appN A4)).trans (GoF.setB w4 6 (.slice As4 (s.X.length + 1) cs4) _ _));have e6:=(blk_cell HE4.out 6).trans rfl;have z6:=blk_frozen HE4.out 6;clear A4)
      refine hK.out _ _ ?_
      clear hK K
      refine nm_ ?_ (some 63) ?_
      refine pu_ ?_ ?_ 19 (some 64) (lb 23 0xfffff) ?_
      refine pu_ ?_ ?_ 20 (some 65) (lb 23 0x1fffff) ?_
      refine pu_ ?_ ?_ 21 (some 66) (lb 23 0x3fffff) ?_
      refine ls_ 22 none (lb 23 0x7fffff) (fun K hK => ?_)
      skip
      refine skip_ (w1:=?_) (by rfl) rfl ?_ ?_
      rotate_left
      · (go_simp;first | rfl | (constructor;rfl;rfl))
      refine hK.out _ _ ?_
      clear hK K
      refine done_ (by kernel_rfl) ?_
      clear e6 z6
      obtain ⟨v5,hv5⟩ : ∃ v5,v5 = w4.setCell ⟨f.b,6,none⟩ (.slice As4 (s.X.length + 1) cs4):=⟨_,rfl⟩
      rw [← hv5] at HF4 HK4 HG4
      simp only [← hv5]
      have HO5:=Aside0.mk HF4.out.o
      clear hv5 HFd HKd HGd HO3 HE4
      have o8:=(blk_cell HO5.out 8).trans rfl
      go_wp2_with (at_builtin;refine app_si (w0:=w0) (base:=w0.heap.size) (p:=(m : Int)) rfl rfl HF4.out.td HF4.out.below HF4.out.below.size (by show s.td.length + 1 ≤ _;omega) rfl (by simp [Act.eval]) ?_;intro v6 w6 A6;obtain ⟨At6,ct6,rfl⟩:=A6.shape;have HE6:=Aside0.mk (blk_grown HO5.out A6.grown (HF4.out.td.ne HO5.out (by decide)));have HF6:=Aside0.mk (HF4.out.todo A6);have HK6:=Aside0.mk ((HK4.out.appdS HF4.out.td A6).set HE6.out (i:=8) (.slice At6 (s.td.length + 1) ct6));have HG6:=Aside0.mk ((HG4.out.trans (GoF.appT A6)).trans (GoF.setB w6 8 (.slice At6 (s.td.length + 1) ct6) _ _));have e8:=(blk_cell HE6.out 8).trans rfl;have z8:=blk_frozen HE6.out 8;clear A6)
      go_ret
      exact ⟨_,_,rfl,⟨HF6.out,by show KM _ _ (List.map ND.lab (s.X ++ [⟨x,none,0,0⟩]));rw [List.map_append];exact HK6.out⟩,by rw [HM.out];exact HG6.out⟩
    · simp only [Bool.true_or] at HF2 HK2 HX2 HG2 ⊢
      go_upto_region 5 with (fail)
      clear o6 o4 o7 z7 d1
      have HFB2:=Lib.hid (show (s.full || fb) = true by rw [← HFU.out];rfl)
      obtain ⟨v2,hv2⟩ : ∃ v2,v2 = v1.setCell ⟨f.b,7,none⟩ (.bool true):=⟨_,rfl⟩
      rw [← hv2] at HF2 HK2 HX2 HG2
      simp only [← hv2]
      have HO2:=Aside0.mk HF2.out.o
      clear hv2 HF1 HO1 HX1 HG1
      refine start_ (n:=7) (S:=fun w' => Below v2.heap.size v2 w') (ds:=[6]) (lb 7 0x0) (by kernel_rfl) rfl (by kernel_rfl) (below_drew1 (Below.refl _ _)) (fun hHeld => ?_)
      refine pu_ ?_ ?_ 0 (some 39) (lb 7 0x1) ?_
      refine pu_ ?_ ?_ 1 (some 40) (lb 7 0x3) ?_
      refine pu_ ?_ ?_ 2 (some 41) (lb 7 0x7) ?_
      refine pu_ ?_ ?_ 5 (some 44) (lb 7 0x27) ?_
      refine ta_ ?_ ?_ 3 (some 42) (lb 7 0x2f) hHeld ?_ (y:=by rintro w' hS;have d0:=(blk_cell (blk_below HX2.out hS) 0).trans rfl;have d1:=(blk_cell (blk_below HX2.out hS) 1).trans rfl;have d2:=(blk_cell (blk_below HX2.out hS) 2).trans rfl;have d3:=(blk_cell (blk_below HX2.out hS) 3).trans rfl;have d4:=(blk_cell (blk_below HX2.out hS) 4).trans rfl;have d5:=(blk_cell (blk_below HO2.out hS) 0).trans rfl;have d6:=(blk_cell (blk_below HO2.out hS) 1).trans rfl;have d7:=(blk_cell (blk_below HO2.out hS) 2).trans rfl;have d8:=(blk_cell (blk_below HO2.out hS) 3).trans rfl;have d9:=(blk_cell (blk_below HO2.out hS) 4).trans rfl;have d10:=(blk_cell (blk_below HO2.out hS) 5).trans rfl;have d11:=(blk_cell (blk_below HO2.out hS) 6).trans rfl;have d12:=(blk_cell (blk_below HO2.out hS) 7).trans rfl;have d13:=(blk_cell (blk_below HO2.out hS) 8).trans rfl;have d14:=(blk_cell (blk_below HO2.out hS) 9).trans rfl;go_simp;with_reducible rfl)
      refine ta_ ?_ ?_ 4 (some 43) (lb 7 0x3f) hHeld ?_ (y:=by rintro w' hS;have d0:=(blk_cell (blk_below HX2.out hS) 0).trans rfl;have d1:=(blk_cell (blk_below HX2.out hS) 1).trans rfl;have d2:=(blk_cell (blk_below HX2.out hS) 2).trans rfl;have d3:=(blk_cell (blk_below HX2.out hS) 3).trans rfl;have d4:=(blk_cell (blk_below HX2.out hS) 4).trans rfl;have d5:=(blk_cell (blk_below HO2.out hS) 0).trans rfl;have d6:=(blk_cell (blk_below HO2.out hS) 1).trans rfl;have d7:=(blk_cell (blk_below HO2.out hS) 2).trans rfl;have d8:=(blk_cell (blk_below HO2.out hS) 3).trans rfl;have d9:=(blk_cell (blk_below HO2.out hS) 4).trans rfl;have d10:=(blk_cell (blk_below HO2.out hS) 5).trans rfl;have d11:=(blk_cell (blk_below HO2.out hS) 6).trans rfl;have d12:=(blk_cell (blk_below HO2.out hS) 7).trans rfl;have d13:=(blk_cell (blk_below HO2.out hS) 8).trans rfl;have d14:=(blk_cell (blk_below HO2.out hS) 9).trans rfl;go_simp;with_reducible rfl)
      refine ls_ 6 none (lb 7 0x7f) (fun K hK => ?_)
      have HFd:=Aside0.mk (HF2.out.below_ hHeld);have HKd:=Aside0.mk (HK2.out.move (W':=v2.drew) rfl);have HXd:=Aside0.mk (blk_below HX2.out hHeld);have HGd:=Aside0.mk (HG2.out.trans (GoF.below hHeld _ _));obtain ⟨v3,hrun,hkm3,hg3⟩:=HKd.out.put HLX.out HMM.out (by rw [FSt.L_len];omega);rw [FSt.L_len,← HM.out] at hrun;have HF3:=Aside0.mk (HFd.out.map HKd.out.block hg3);have HG3:=Aside0.mk (HGd.out.trans (GoF.map hg3 _ _));have HK3:=Aside0.mk hkm3;have HX3:=Aside0.mk ((hg3.block x0 (blk_lt HXd.out) (fun e => by injection e with e;obtain ⟨_,_,hm0⟩:=HKd.out.block;exact map_ne HXd.out hm0 e)).trans HXd.out);clear hkm3 hg3 HFd HKd HXd HGd;unfold labV at hrun;refine skip_ (w1:=v3) (by rfl) rfl ?_ ?_;(focus (go_simp));clear hrun;refine hK.out _ _ ?_
      clear hK K
      refine done_ (by kernel_rfl) ?_
      have HFB3:=HFB2
      have HFd:=Aside0.mk (HF3.out.below_ (below_drew1 (Below.refl v3.heap.size v3)))
      have HKd:=Aside0.mk (HK3.out.move (W':=v3.drew) rfl)
      have HGd:=Aside0.mk (HG3.out.trans (GoF.below (below_drew1 (Below.refl v3.heap.size v3)) _ _))
      have HO3:=Aside0.mk HF3.out.o
      clear HF2 HO2 HX2 HK2 HG2 HF3 HK3 HG3
      go_upto_region 6 with (fail)
      refine start_ (n:=23) (S:=fun w' => Below v3.heap.size v3 w') (ds:=[18,22]) (lb 23 0x0) (by kernel_rfl) rfl (by kernel_rfl) (below_drew1 (Below.refl _ _)) (fun hHeld => ?_)
      refine pu_ ?_ ?_ 0 (some 45) (lb 23 0x1) ?_
      refine pu_ ?_ ?_ 1 (some 46) (lb 23 0x3) ?_
      refine pu_ ?_ ?_ 2 (some 47) (lb 23 0x7) ?_
      refine pu_ ?_ ?_ 3 (some 48) (lb 23 0xf) ?_
      refine pu_ ?_ ?_ 4 (some 49) (lb 23 0x1f) ?_
      refine pu_ ?_ ?_ 6 (some 51) (lb 23 0x5f) ?_
      refine pu_ ?_ ?_ 8 (some 53) (lb 23 0x15f) ?_
      refine pu_ ?_ ?_ 10 (some 55) (lb 23 0x55f) ?_
      refine pu_ ?_ ?_ 12 (some 57) (lb 23 0x155f) ?_
      refine pu_ ?_ ?_ 14 (some 59) (lb 23 0x555f) ?_
      refine ta_ ?_ ?_ 5 (some 50) (lb 23 0x557f) hHeld ?_ (y:=by rintro w' hS;have d0:=(blk_cell (blk_below HX3.out hS) 0).trans rfl;have d1:=(blk_cell (blk_below HX3.out hS) 1).trans rfl;have d2:=(blk_cell (blk_below HX3.out hS) 2).trans rfl;have d3:=(blk_cell (blk_below HX3.out hS) 3).trans rfl;have d4:=(blk_cell (blk_below HX3.out hS) 4).trans rfl;have d5:=(blk_cell (blk_below HO3.out hS) 0).trans rfl;have d6:=(blk_cell (blk_below HO3.out hS) 1).trans rfl;have d7:=(blk_cell (blk_below HO3.out hS) 2).trans rfl;have d8:=(blk_cell (blk_below HO3.out hS) 3).trans rfl;have d9:=(blk_cell (blk_below HO3.out hS) 4).trans rfl;have d10:=(blk_cell (blk_below HO3.out hS) 5).trans rfl;have d11:=(blk_cell (blk_below HO3.out hS) 6).trans rfl;have d12:=(blk_cell (blk_below HO3.out hS) 7).trans rfl;have d13:=(blk_cell (blk_below HO3.out hS) 8).trans rfl;have d14:=(blk_cell (blk_below HO3.out hS) 9).trans rfl;go_simp;with_reducible rfl)
      refine ta_ ?_ ?_ 7 (some 52) (lb 23 0x55ff) hHeld ?_ (y:=by rintro w' hS;have d0:=(blk_cell (blk_below HX3.out hS) 0).trans rfl;have d1:=(blk_cell (blk_below HX3.out hS) 1).trans rfl;have d2:=(blk_cell (blk_below HX3.out hS) 2).trans rfl;have d3:=(blk_cell (blk_below HX3.out hS) 3).trans rfl;have d4:=(blk_cell (blk_below HX3.out hS) 4).trans rfl;have d5:=(blk_cell (blk_below HO3.out hS) 0).trans rfl;have d6:=(blk_cell (blk_below HO3.out hS) 1).trans rfl;have d7:=(blk_cell (blk_below HO3.out hS) 2).trans rfl;have d8:=(blk_cell (blk_below HO3.out hS) 3).trans rfl;have d9:=(blk_cell (blk_below HO3.out hS) 4).trans rfl;have d10:=(blk_cell (blk_below HO3.out hS) 5).trans rfl;have d11:=(blk_cell (blk_below HO3.out hS) 6).trans rfl;have d12:=(blk_cell (blk_below HO3.out hS) 7).trans rfl;have d13:=(blk_cell (blk_below HO3.out hS) 8).trans rfl;have d14:=(blk_cell (blk_below HO3.out hS) 9).trans rfl;go_simp;with_reducible rfl)
      refine ta_ ?_ ?_ 9 (some 54) (lb 23 0x57ff) hHeld ?_ (y:=by rintro w' hS;have d0:=(blk_cell (blk_below HX3.out hS) 0).trans rfl;have d1:=(blk_cell (blk_below HX3.out hS) 1).trans rfl;have d2:=(blk_cell (blk_below HX3.out hS) 2).trans rfl;have d3:=(blk_cell (blk_below HX3.out hS) 3).trans rfl;have d4:=(blk_cell (blk_below HX3.out hS) 4).trans rfl;have d5:=(blk_cell (blk_below HO3.out hS) 0).trans rfl;have d6:=(blk_cell (blk_below HO3.out hS) 1).trans rfl;have d7:=(blk_cell (blk_below HO3.out hS) 2).trans rfl;have d8:=(blk_cell (blk_below HO3.out hS) 3).trans rfl;have d9:=(blk_cell (blk_below HO3.out hS) 4).trans rfl;have d10:=(blk_cell (blk_below HO3.out hS) 5).trans rfl;have d11:=(blk_cell (blk_below HO3.out hS) 6).trans rfl;have d12:=(blk_cell (blk_below HO3.out hS) 7).trans rfl;have d13:=(blk_cell (blk_below HO3.out hS) 8).trans rfl;have d14:=(blk_cell (blk_below HO3.out hS) 9).trans rfl;go_simp;with_reducible rfl)
      refine ta_ ?_ ?_ 11 (some 56) (lb 23 0x5fff) hHeld ?_ (y:=by rintro w' hS;have d0:=(blk_cell (blk_below HX3.out hS) 0).trans rfl;have d1:=(blk_cell (blk_below HX3.out hS) 1).trans rfl;have d2:=(blk_cell (blk_below HX3.out hS) 2).trans rfl;have d3:=(blk_cell (blk_below HX3.out hS) 3).trans rfl;have d4:=(blk_cell (blk_below HX3.out hS) 4).trans rfl;have d5:=(blk_cell (blk_below HO3.out hS) 0).trans rfl;have d6:=(blk_cell (blk_below HO3.out hS) 1).trans rfl;have d7:=(blk_cell (blk_below HO3.out hS) 2).trans rfl;have d8:=(blk_cell (blk_below HO3.out hS) 3).trans rfl;have d9:=(blk_cell (blk_below HO3.out hS) 4).trans rfl;have d10:=(blk_cell (blk_below HO3.out hS) 5).trans rfl;have d11:=(blk_cell (blk_below HO3.out hS) 6).trans rfl;have d12:=(blk_cell (blk_below HO3.out hS) 7).trans rfl;have d13:=(blk_cell (blk_below HO3.out hS) 8).trans rfl;have d14:=(blk_cell (blk_below HO3.out hS) 9).trans rfl;go_simp;with_reducible rfl)
      refine ta_ ?_ ?_ 13 (some 58) (lb 23 0x7fff) hHeld ?_ (y:=by rintro w' hS;have d0:=(blk_cell (blk_below HX3.out hS) 0).trans rfl;have d1:=(blk_cell (blk_below HX3.out hS) 1).trans rfl;have d2:=(blk_cell (blk_below HX3.out hS) 2).trans rfl;have d3:=(blk_cell (blk_below HX3.out hS) 3).trans rfl;have d4:=(blk_cell (blk_below HX3.out hS) 4).trans rfl;have d5:=(blk_cell (blk_below HO3.out hS) 0).trans rfl;have d6:=(blk_cell (blk_below HO3.out hS) 1).trans rfl;have d7:=(blk_cell (blk_below HO3.out hS) 2).trans rfl;have d8:=(blk_cell (blk_below HO3.out hS) 3).trans rfl;have d9:=(blk_cell (blk_below HO3.out hS) 4).trans rfl;have d10:=(blk_cell (blk_below HO3.out hS) 5).trans rfl;have d11:=(blk_cell (blk_below HO3.out hS) 6).trans rfl;have d12:=(blk_cell (blk_below HO3.out hS) 7).trans rfl;have d13:=(blk_cell (blk_below HO3.out hS) 8).trans rfl;have d14:=(blk_cell (blk_below HO3.out hS) 9).trans rfl;go_simp;with_reducible rfl)
      refine ta_ ?_ ?_ 15 (some 60) (lb 23 0xffff) hHeld ?_ (y:=by rintro w' hS;have d0:=(blk_cell (blk_below HX3.out hS) 0).trans rfl;have d1:=(blk_cell (blk_below HX3.out hS) 1).trans rfl;have d2:=(blk_cell (blk_below HX3.out hS) 2).trans rfl;have d3:=(blk_cell (blk_below HX3.out hS) 3).trans rfl;have d4:=(blk_cell (blk_below HX3.out hS) 4).trans rfl;have d5:=(blk_cell (blk_below HO3.out hS) 0).trans rfl;have d6:=(blk_cell (blk_below HO3.out hS) 1).trans rfl;have d7:=(blk_cell (blk_below HO3.out hS) 2).trans rfl;have d8:=(blk_cell (blk_below HO3.out hS) 3).trans rfl;have d9:=(blk_cell (blk_below HO3.out hS) 4).trans rfl;have d10:=(blk_cell (blk_below HO3.out hS) 5).trans rfl;have d11:=(blk_cell (blk_below HO3.out hS) 6).trans rfl;have d12:=(blk_cell (blk_below HO3.out hS) 7).trans rfl;have d13:=(blk_cell (blk_below HO3.out hS) 8).trans rfl;have d14:=(blk_cell (blk_below HO3.out hS) 9).trans rfl;go_simp;with_reducible rfl)
      refine pu_ ?_ ?_ 16 (some 61) (lb 23 0x1ffff) ?_
      refine on_ 17 (some 62) (lb 23 0x3ffff) (fun K hK => ?_)
      refine va_ ?_ ?_ ?_
      refine hK.out _ _ (hHeld.alloc hHeld.size _) (fun hHeld => ?_)
      clear hK K
      refine nm_ ?_ (some 62) ?_
      refine ls_ 18 (some 63) (lb 23 0x7ffff) (fun K hK => ?_)
      (refine app_nd_step (w0:=w0) (base:=w0.heap.size) (ok:=fun _ => True) (p:=⟨x,none,0,0⟩) (by rfl) rfl HFd.out.nd HFd.out.below HFd.out.below.size (by show s.X.length + 1 ≤ _;omega) (fun _ _ => trivial) (by simp [Act.eval]) (by simp [Act.eval]) ?_;intro v4 w4 A4;obtain ⟨As4,cs4,rfl⟩:=A4.shape;have HE4:=Aside0.mk (blk_grown HFd.out.o A4.grown (Kd.R_ne HFd.out.nd HFd.out.o (by decide)));have HF4:=Aside0.mk (HFd.out.nodes A4);have HK4:=Aside0.mk ((HKd.out.appd HFd.out.nd A4).set HE4.out (i:=6) (.slice As4 (s.X.length + 1) cs4));have HG4:=Aside0.mk ((HGd.out.trans (GoF.appN A4)).trans (GoF.setB w4 6 (.slice As4 (s.X.length + 1) cs4) _ _));have e6:=(blk_cell HE4.out 6).trans rfl;have z6:=blk_frozen HE4.out 6;clear A4)
      refine hK.out _ _ ?_
      clear hK K
      refine nm_ ?_ (some 63) ?_
      refine pu_ ?_ ?_ 19 (some 64) (lb 23 0xfffff) ?_
      refine pu_ ?_ ?_ 20 (some 65) (lb 23 0x1fffff) ?_
      refine pu_ ?_ ?_ 21 (some 66) (lb 23 0x3fffff) ?_
      refine ls_ 22 none (lb 23 0x7fffff) (fun K hK => ?_)
      skip
      refine skip_ (w1:=?_) (by rfl) rfl ?_ ?_
      rotate_left
      · (go_simp;first | rfl | (constructor;rfl;rfl))
      refine hK.out _ _ ?_
      clear hK K
      refine done_ (by kernel_rfl) ?_
      clear e6 z6
      obtain ⟨v5,hv5⟩ : ∃ v5,v5 = w4.setCell ⟨f.b,6,none⟩ (.slice As4 (s.X.length + 1) cs4):=⟨_,rfl⟩
      rw [← hv5] at HF4 HK4 HG4
      simp only [← hv5]
      have HO5:=Aside0.mk HF4.out.o
      clear hv5 HFd HKd HGd HO3 HE4
      have o8:=(blk_cell HO5.out 8).trans rfl
      go_wp2_with (at_builtin;refine app_si (w0:=w0) (base:=w0.heap.size) (p:=(m : Int)) rfl rfl HF4.out.td HF4.out.below HF4.out.below.size (by show s.td.length + 1 ≤ _;omega) rfl (by simp [Act.eval]) ?_;intro v6 w6 A6;obtain ⟨At6,ct6,rfl⟩:=A6.shape;have HE6:=Aside0.mk (blk_grown HO5.out A6.grown (HF4.out.td.ne HO5.out (by decide)));have HF6:=Aside0.mk (HF4.out.todo A6);have HK6:=Aside0.mk ((HK4.out.appdS HF4.out.td A6).set HE6.out (i:=8) (.slice At6 (s.td.length + 1) ct6));have HG6:=Aside0.mk ((HG4.out.trans (GoF.appT A6)).trans (GoF.setB w6 8 (.slice At6 (s.td.length + 1) ct6) _ _));have e8:=(blk_cell HE6.out 8).trans rfl;have z8:=blk_frozen HE6.out 8;clear A6)
      go_ret
      exact ⟨_,_,rfl,⟨HF6.out,by show KM _ _ (List.map ND.lab (s.X ++ [⟨x,none,0,0⟩]));rw [List.map_append];exact HK6.out⟩,by rw [HM.out];exact HG6.out⟩
end Go.Proofs.Ytmkgcjhimajgiaa


set_option linter.unusedVariables false
set_option linter.unusedSimpArgs false
namespace Go.Proofs.Ytmkgcjhimajgiaa
open Go.RowKit Go.Proofs.YtmkgcjhimajgiaaW.PrintWords Go.Proofs.YtmkgcjhimajgiaaW.PrintLast Go.Conc

/-- What a maker stands on: a grammar,a chart. -/
structure FW (w0 : World) (f : FB) (g : Gram) (wd : List Int) (k : CB) : Prop where
  rep : RepG w0 g f.A1 f.A2 f.A3 f.c1 f.c2 f.c3
  ch : CF w0 k g wd
  kb : f.kb = k.b
  gd : goodF g = true
  w40 : wd.length ≤ 40
theorem wf_i {a : Int} (h1 : -9223372036854775808 ≤ a) (h2 : a ≤ 9223372036854775807) : (Lit.int .i64 a).wf = true:=WalkArith.wf_i64 (by omega)
theorem labI_sym {y i j : Int} (hy : -1000000000 ≤ y ∧ y ≤ 1000000000) (hi : -1000000000 ≤ i ∧ i ≤ 1000000000) (hj : -1000000000 ≤ j ∧ j ≤ 1000000000) : LabI (symLab y i j):=⟨wf_i (show _ ≤ y by omega) (show y ≤ _ by omega),(by show (Lit.int .i64 (-1)).wf = true;decide),(by show (Lit.int .i64 0).wf = true;decide),wf_i (show _ ≤ i by omega) (show i ≤ _ by omega),wf_i (show _ ≤ j by omega) (show j ≤ _ by omega)⟩
theorem labI_part {r d : Nat} {i j : Int} (hr : r ≤ 1000000000) (hd : d ≤ 1000000000) (hi : -1000000000 ≤ i ∧ i ≤ 1000000000) (hj : -1000000000 ≤ j ∧ j ≤ 1000000000) : LabI (partLab r d i j):=⟨(by show (Lit.int .i64 (-1)).wf = true;decide),wf_i (show _ ≤ (r : Int) by omega) (show (r : Int) ≤ _ by omega),wf_i (show _ ≤ (d : Int) by omega) (show (d : Int) ≤ _ by omega),wf_i (show _ ≤ i by omega) (show i ≤ _ by omega),wf_i (show _ ≤ j by omega) (show j ≤ _ by omega)⟩
set_option maxRecDepth 100000 in
set_option maxHeartbeats 16000000 in
theorem symF_c (w0 : World) (f : FB) (g : Gram) (vN vT : Value) (s : FSt) (y i j : Int) (W : World) (h : FM w0 W f g vN vT s) (hx : LabI (symLab y i j)) (hl : s.X.length ≤ 100000) (htd : s.td.length ≤ 100000) :
    Calls Try.prog 59 #[.pointer (some ⟨f.b,0,none⟩),.int .i64 y,.int .i64 i,.int .i64 j] W fun e W' => NodeEnd w0 W f g vN vT (nodeF s.L (symLab y i j)).1 (nodeS f.most s (symLab y i j)) e W':=by
  have HN:=Aside0.mk (node_c w0 f g vN vT s (symLab y i j) W h hx hl htd)
  generalize (nodeF s.L (symLab y i j)).1 = n at HN ⊢
  generalize nodeS f.most s (symLab y i j) = s' at HN ⊢
  clear h hx hl htd
  go_enter Try.func59,Try.ntmps59
  go_wp2_with (go_at_call 85;go_loud (refine HN.out.mono ?_;rintro e w5 ⟨vN',vT',rfl,hF,hG⟩;have HF:=Aside0.mk hF;have HG:=Aside0.mk hG;clear hF hG))
  go_ret
  exact ⟨_,_,rfl,HF.out,HG.out⟩
set_option maxRecDepth 100000 in
set_option maxHeartbeats 16000000 in
theorem aheadF_c (w0 : World) (f : FB) (g : Gram) (wd : List Int) (k : CB) (vN vT : Value) (s : FSt) (r d : Nat) (i j : Int) (W : World) (hw : FW w0 f g wd k) (h : FM w0 W f g vN vT s) (hr : r < g.rules.length) (hd : 1 ≤ d) (hdl : d ≤ (rightR g r).length) (hi : 0 ≤ i ∧ i ≤ 40) (hj : 0 ≤ j ∧ j ≤ 40) (hl : s.X.length ≤ 100000) (htd : s.td.length ≤ 100000) :
    Calls Try.prog 114 #[.pointer (some ⟨f.b,0,none⟩),.int .i64 (r : Nat),.int .i64 (d : Nat),.int .i64 i,.int .i64 j] W fun e W' => NodeEnd w0 W f g vN vT (nodeF s.L (aheadL g r d i j)).1 (nodeS f.most s (aheadL g r d i j)) e W':=by
  obtain ⟨q1,q2,q3,q4⟩:=goodF_small hw.gd
  have hR:=rightR_at hr
  have hgm:=goodF_mem hw.gd (g.rules[r]'hr) (List.getElem_mem _)
  have hd8 : d ≤ 8:=by rw [hR] at hdl;have:=hgm.2.2.1;omega
  by_cases he : d = 1
  · subst he
    have hL : aheadL g r 1 i j = symLab ((rightR g r).getD 0 0) i j:=by unfold aheadL;rw [if_pos rfl]
    rw [hL]
    have hget:=right_get (g:=g) (k:=r) (d:=0) (by omega)
    have hy0:=right_mem hw.gd hr hget
    have hns : nsym g ≤ 1000:=by unfold nsym;omega
    have HO:=Aside0.mk h.o
    obtain ⟨ad,Br,dr,ead,hx,hy,hdr,hC1⟩:=at_rule (Kd.C_below hw.rep.rules h.below) r hr
    obtain ⟨xr,hxr⟩ : ∃ xr,xr = g.rules[r]'hr:=⟨_,rfl⟩
    rw [← hxr] at hy hC1 hR hdr
    have hlen : 0 < xr.right.length:=by rw [← hR];omega
    obtain ⟨adr,eadr,hrc⟩:=at_int hC1 0 hlen
    obtain ⟨y,hyy⟩ : ∃ y,y = (rightR g r).getD 0 0:=⟨_,rfl⟩
    rw [← hyy] at hy0 ⊢
    have hyr : xr.right[0]'hlen = y:=by rw [hyy,hR,List.getD_eq_getElem?_getD,List.getElem?_eq_getElem hlen];rfl
    rw [hyr,show adr.add 0 = adr from rfl] at hrc
    have HN:=Aside0.mk (symF_c w0 f g vN vT s y i j W h (labI_sym (by omega) (by omega) (by omega)) hl htd)
    generalize (nodeF s.L (symLab y i j)).1 = n at HN ⊢
    generalize nodeS f.most s (symLab y i j) = s' at HN ⊢
    have r2 : (r : Int) < (g.rules.length : Int):=by omega
    have r0 : (0 : Int) ≤ (r : Int):=by omega
    have l0 : (0 : Int) < (xr.right.length : Int):=by omega
    have o2:=(blk_cell HO.out 2).trans rfl
    rw [ead] at o2
    cases eadr
    clear h hw hl htd hget hgm hR hL hdr hC1 hxr hyr hyy hy0 ead HO
    go_enter Try.func114,Try.ntmps114
    go_wp2_with (go_at_call 59;go_loud (refine HN.out.mono ?_;rintro e w5 ⟨vN',vT',rfl,hF,hG⟩;have HF:=Aside0.mk hF;have HG:=Aside0.mk hG;clear hF hG))
    go_ret
    exact ⟨_,_,rfl,HF.out,HG.out⟩
  · have hL : aheadL g r d i j = partLab r d i j:=by unfold aheadL;rw [if_neg he]
    rw [hL]
    have HN:=Aside0.mk (node_c w0 f g vN vT s (partLab r d i j) W h (labI_part (by omega) (by omega) (by omega) (by omega)) hl htd)
    generalize (nodeF s.L (partLab r d i j)).1 = n at HN ⊢
    generalize nodeS f.most s (partLab r d i j) = s' at HN ⊢
    have d1 : ((d : Int) == 1) = false:=by simp;omega
    have d2 : ¬ (d : Int) = 1:=by omega
    clear h hw hl htd hgm hR hL
    go_enter Try.func114,Try.ntmps114
    go_wp2_with (go_at_call 85;go_loud (refine HN.out.mono ?_;rintro e w5 ⟨vN',vT',rfl,hF,hG⟩;have HF:=Aside0.mk hF;have HG:=Aside0.mk hG;clear hF hG))
    go_ret
    exact ⟨_,_,rfl,HF.out,HG.out⟩
end Go.Proofs.Ytmkgcjhimajgiaa


set_option linter.unusedVariables false
set_option linter.unusedSimpArgs false
namespace Go.Proofs.Ytmkgcjhimajgiaa
open Go.RowKit Go.Proofs.YtmkgcjhimajgiaaW.PrintWords Go.Proofs.YtmkgcjhimajgiaaW.PrintLast Go.Conc

section
variable {α : Type} {d : Kd α} {e base : Nat} {ok : Nat → Prop} {w0 W W' W0 : World} {f : FB} {g : Gram} {v vN vT vN' vT' : Value} {s : FSt} {xs : List α}
theorem R_ge (h : d.R e W base ok v xs) {q : Nat} (hq : v.ownBlock = some q) : base ≤ q:=((Kd.R_bound h).1 q hq).2.1
theorem GoF.row (hR : d.R e W base ok v xs) (h : FM w0 W f g vN vT s) (hg : GoF f W W' vN vT vN' vT') (ht : ∀ q ∈ e :: d.E,q ≠ 119 ∧ q ≠ 66 ∧ q ≠ 3) : d.R e W' base ok v xs :=
  Kd.R_mono (Kd.R_step (Kd.R_bound hR) fun q hq hl => by
    obtain ⟨_,_,_,t,hm,cells,hx⟩:=hq
    obtain ⟨t1,t2,t3⟩:=ht t hm
    obtain ⟨es,clock,hmm⟩:=h.km.block
    refine hg.keep q hl ?_ (map_ne hx hmm) ?_ ?_
    · rintro rfl
      rw [h.o] at hx
      injection hx with hx
      injection hx with _ hx
      exact t1 hx.symm
    · intro hn
      obtain ⟨c2,h2⟩:=own_cells h.nd hn.symm
      rw [h2] at hx
      injection hx with hx
      injection hx with _ hx
      exact t2 hx.symm
    · intro hn
      obtain ⟨⟨c2,h2⟩,_⟩:=h.td.own hn.symm
      rw [h2] at hx
      injection hx with hx
      injection hx with _ hx
      exact t3 hx.symm) fun _ hk => hk.1
theorem GoF.fresh (hR : d.R e W base ok v xs) (hg : GoF f W W' vN vT vN' vT') (h1 : f.b < base) (h2 : f.mb < base) (h3 : ∀ q,vN.ownBlock = some q → q < base) (h4 : ∀ q,vT.ownBlock = some q → q < base) : d.R e W' base ok v xs :=
  Kd.R_mono (Kd.R_step (Kd.R_bound hR) fun q hq hl => by
    have hb:=hq.2.1
    exact hg.keep q hl (by omega) (by omega) (fun hn => by have:=h3 q hn.symm;omega) (fun hn => by have:=h4 q hn.symm;omega)) fun _ hk => hk.1
theorem GoF.beside {own : Option Nat} (h : GoF f W0 W vN vT vN' vT') (hg : W.grownBy W' own) (ho : ∀ q,own = some q → W0.heap.size ≤ q) : GoF f W0 W' vN vT vN' vT' :=
  ⟨Nat.le_trans h.size hg.size,fun q hq h1 h2 h3 h4 => (hg.block q (Nat.lt_of_lt_of_le hq h.size) (fun e => by have:=ho q e.symm;omega)).trans (h.keep q hq h1 h2 h3 h4),h.atN,h.atT⟩
theorem FM.packs {w2 : World} {v1 : Value} {w1 : World} {xs ys : List PackN} (h : FM w0 W f g vN vT s) (hR : kPk.R 82 W base ok v xs) (A : Appd kPk 82 w2 W base ok v ys v1 w1) (hl : w0.heap.size ≤ base) : FM w0 w1 f g vN vT s :=
  ⟨⟨blk_grown h.o A.grown (Kd.R_ne hR h.o (by decide)),Kd.R_over h.nd hR (by decide) A.grown,h.td.keep (fun q hq => A.grown.block q (h.td.lt hq) (fun e => by obtain ⟨⟨cs,hc⟩,_⟩:=h.td.own hq;exact Kd.R_ne hR hc (by decide) e)),h.below.grown A.grown h.below.size (fun j hj => Nat.le_trans hl (R_ge hR hj)),h.lo⟩,h.km.appd hR A⟩
end
def splitLabs (g : Gram) (r d : Nat) (i j k : Int) : List Lab:=[aheadL g r (d - 1) i k,symLab ((rightR g r).getD (d - 1) 0) k j]
def splitSt (most : Int) (g : Gram) (r d : Nat) (i j : Int) (s : FSt) (l : List Int) : FSt:=(l.flatMap (splitLabs g r d i j)).foldl (nodeS most) s
theorem splitSt_snoc (most : Int) (g : Gram) (r d : Nat) (i j : Int) (s : FSt) (l : List Int) (k : Int) : splitSt most g r d i j s (l ++ [k]) = nodeS most (nodeS most (splitSt most g r d i j s l) (aheadL g r (d - 1) i k)) (symLab ((rightR g r).getD (d - 1) 0) k j):=by
  unfold splitSt
  rw [List.flatMap_append,List.foldl_append]
  rfl
theorem splitSt_L (most : Int) (g : Gram) (r d : Nat) (i j : Int) (s : FSt) (l : List Int) : ∀ P,(l.foldl (splitStep g r d i j) (P,s.L)).2 = (splitSt most g r d i j s l).L:=by
  induction l generalizing s with
  | nil => intro P;rfl
  | cons k l ih =>
    intro P
    have e : (splitStep g r d i j (P,s.L) k).2 = (nodeS most (nodeS most s (aheadL g r (d - 1) i k)) (symLab ((rightR g r).getD (d - 1) 0) k j)).L:=by
      rw [nodeS_L,nodeS_L];rfl
    rw [List.foldl_cons]
    have:=ih (nodeS most (nodeS most s (aheadL g r (d - 1) i k)) (symLab ((rightR g r).getD (d - 1) 0) k j)) (splitStep g r d i j (P,s.L) k).1
    rw [← e] at this
    exact this
theorem nodeS_len (most : Int) (s : FSt) (x : Lab) : (nodeS most s x).X.length ≤ s.X.length + 1 ∧ (nodeS most s x).td.length ≤ s.td.length + 1:=by
  unfold nodeS
  split <;> simp
theorem splitSt_len (most : Int) (g : Gram) (r d : Nat) (i j : Int) (s : FSt) (l : List Int) : (splitSt most g r d i j s l).X.length ≤ s.X.length + 2 * l.length ∧ (splitSt most g r d i j s l).td.length ≤ s.td.length + 2 * l.length:=by
  induction l generalizing s with
  | nil => simp [splitSt]
  | cons k l ih =>
    have h1:=nodeS_len most s (aheadL g r (d - 1) i k)
    have h2:=nodeS_len most (nodeS most s (aheadL g r (d - 1) i k)) (symLab ((rightR g r).getD (d - 1) 0) k j)
    have h3:=ih (nodeS most (nodeS most s (aheadL g r (d - 1) i k)) (symLab ((rightR g r).getD (d - 1) 0) k j))
    have e : splitSt most g r d i j s (k :: l) = splitSt most g r d i j (nodeS most (nodeS most s (aheadL g r (d - 1) i k)) (symLab ((rightR g r).getD (d - 1) 0) k j)) l:=rfl
    rw [e]
    simp only [List.length_cons]
    omega
end Go.Proofs.Ytmkgcjhimajgiaa


set_option linter.unusedVariables false
set_option linter.unusedSimpArgs false
namespace Go.Proofs.Ytmkgcjhimajgiaa
open Go.RowKit Go.Proofs.YtmkgcjhimajgiaaW.PrintWords Go.Proofs.YtmkgcjhimajgiaaW.PrintLast Go.Conc

theorem split_len (g : Gram) (r d : Nat) (i j : Int) (l : List Int) : ∀ st : List PackN × List Lab,(l.foldl (splitStep g r d i j) st).1.length = st.1.length + l.length:=by
  induction l with
  | nil => intro st;simp
  | cons k l ih => intro st;rw [List.foldl_cons,ih];simp [splitStep];omega
def SplitEnd (w0 W : World) (f : FB) (g : Gram) (vN vT : Value) (P : List PackN) (s' : FSt) (e : Ending) (W' : World) : Prop:=∃ (vP vN' vT' : Value) (b0 : Nat),e = .returned vP ∧ W.heap.size ≤ b0 ∧ kPk.R 82 W' b0 (fun _ => True) vP P ∧ FM w0 W' f g vN' vT' s' ∧ GoF f W W' vN vT vN' vT'
set_option maxRecDepth 100000 in
set_option maxHeartbeats 16000000 in
theorem splitF_c (w0 : World) (f : FB) (g : Gram) (wd : List Int) (k : CB) (vN vT : Value) (s : FSt) (r d : Nat) (i j : Int) (W : World) (hw : FW w0 f g wd k) (h : FM w0 W f g vN vT s) (hr : r < g.rules.length) (hd : 2 ≤ d) (hdl : d ≤ (rightR g r).length) (hi : 0 ≤ i ∧ i ≤ 40) (hj : 0 ≤ j ∧ j ≤ 40) (hl : s.X.length ≤ 50000) (htd : s.td.length ≤ 50000) :
    Calls Try.prog 105 #[.pointer (some ⟨f.b,0,none⟩),.int .i64 (r : Nat),.int .i64 (d : Nat),.int .i64 i,.int .i64 j] W fun e W' => SplitEnd w0 W f g vN vT (splitF g wd s.L r d i j).1 (splitSt f.most g r d i j s (pivF g wd r d i j)) e W':=by
  obtain ⟨q1,q2,q3,q4⟩:=goodF_small hw.gd
  have hR:=rightR_at hr
  have hgm:=goodF_mem hw.gd (g.rules[r]'hr) (List.getElem_mem _)
  have hd8 : d ≤ 8:=by rw [hR] at hdl;have:=hgm.2.2.1;omega
  obtain ⟨dm,hdm⟩ : ∃ dm,dm = d - 1:=⟨_,rfl⟩
  have hget:=right_get (g:=g) (k:=r) (d:=dm) (by omega)
  have hy0:=right_mem hw.gd hr hget
  have hns : nsym g ≤ 1000:=by unfold nsym;omega
  have HO:=Aside0.mk h.o
  have HK:=Aside0.mk (Kd.C_below hw.rep.rules h.below)
  obtain ⟨ad,Br,dr,ead,hx,hy,hdr,hC1⟩:=at_rule HK.out r hr
  obtain ⟨xr,hxr⟩ : ∃ xr,xr = g.rules[r]'hr:=⟨_,rfl⟩
  rw [← hxr] at hy hC1 hR hdr
  have hlen : dm < xr.right.length:=by rw [← hR];omega
  obtain ⟨adr,eadr,hrc⟩:=at_int hC1 dm hlen
  obtain ⟨y,hyy⟩ : ∃ y,y = (rightR g r).getD dm 0:=⟨_,rfl⟩
  rw [← hyy] at hy0
  have hyr : xr.right[dm]'hlen = y:=by rw [hyy,hR,List.getD_eq_getElem?_getD,List.getElem?_eq_getElem hlen];rfl
  rw [hyr] at hrc
  have HPV:=Aside0.mk (pivM_c k g wd r d i j W (hw.ch.below_ h.below) ⟨by omega,by omega⟩)
  have HSP : Hid (∀ x ∈ pivF g wd r d i j,0 ≤ x ∧ x ≤ 40):=Lib.hid fun x hx => by have:=piv_sp hx;have:=hw.w40;omega
  have hn41:=piv_len41 hw.w40 (g:=g) (r:=r) (d:=d) (i:=i) (j:=j)
  have hSE : splitF g wd s.L r d i j = (pivF g wd r d i j).foldl (splitStep g r d i j) ([],s.L):=rfl
  rw [hSE]
  obtain ⟨pl,hpl⟩ : ∃ pl,pl = pivF g wd r d i j:=⟨_,rfl⟩
  rw [← hpl] at HPV HSP hn41 ⊢
  have o2:=(blk_cell HO.out 2).trans rfl
  have o3:=(blk_cell HO.out 3).trans rfl
  rw [ead] at o2
  rw [hw.kb] at o3
  cases eadr
  have HFW:=Aside0.mk hw
  have HF:=Aside0.mk h
  have HLW : Aside0 (f.b < W.heap.size ∧ f.mb < W.heap.size):=⟨blk_lt h.o,h.km.lt⟩
  have HON : Aside0 (∀ q,vN.ownBlock = some q → q < W.heap.size):=⟨fun q hq => by obtain ⟨_,hc⟩:=own_cells h.nd hq;exact blk_lt hc⟩
  have HOT : Aside0 (∀ q,vT.ownBlock = some q → q < W.heap.size):=⟨fun q hq => h.td.lt hq⟩
  have HYB : Hid (-1000000000 ≤ y ∧ y ≤ 1000000000):=Lib.hid (by omega)
  have HYE:=Lib.hid hyy
  have HDM:=Lib.hid hdm
  have r2 : (r : Int) < (g.rules.length : Int):=by omega
  have r0 : (0 : Int) ≤ (r : Int):=by omega
  have l0 : (0 : Int) ≤ (dm : Int):=by omega
  have l1 : (dm : Int) < (xr.right.length : Int):=by omega
  have e1 : IntKind.i64.wrap ((d : Int) - 1) = (dm : Int):=by rw [IntWalk.i64_in _ (by omega)];omega
  have HD1 : Hid (1 ≤ dm ∧ dm ≤ (rightR g r).length):=Lib.hid ⟨by omega,by omega⟩
  clear h hw hget hgm hR hdl hdr hC1 hxr hyr hyy hy0 ead HO HK hdm hpl hSE hx
  go_enter Try.func105,Try.ntmps105
  go_wp2_with (go_at_call 24;go_loud (refine HPV.out.mono ?_;rintro e w1 ⟨⟨Ap,cp,rfl,hR1⟩,hb1⟩;have HR1:=Aside0.mk hR1;have HB1:=Aside0.mk hb1;clear hR1 hb1))
  obtain ⟨np,hnp⟩ : ∃ np,np = pl.length:=⟨_,rfl⟩
  rw [← hnp] at HR1 hn41
  simp only [← hnp]
  have HNP:=Lib.hid hnp
  have HF1:=Aside0.mk (HF.out.below_ HB1.out)
  have HW1 : Aside0 (W.heap.size ≤ w1.heap.size):=⟨HB1.out.size⟩
  have HW0 : Aside0 (w0.heap.size ≤ w1.heap.size):=⟨Nat.le_trans HF.out.below.size HB1.out.size⟩
  clear hnp o2 o3 hy hrc HPV r2 r0 l0 l1 hlen
  go_loopw [40,11] (fun iv lv wr => ∃ (m : Nat) (vN' vT' : Value),m ≤ np ∧ iv = .int .i64 m ∧ Aside0 (FM w0 wr f g vN' vT' (splitSt f.most g r d i j s (pl.take m))) ∧ Aside0 (GoF f w1 wr vN vT vN' vT') ∧ Aside0 (kPk.R 82 wr w1.heap.size (fun _ => True) lv ((pl.take m).foldl (splitStep g r d i j) ([],s.L)).1)) (fun iv _ _ => np - (intOf iv).toNat)
  case atStart => exact ⟨0,vN,vT,Nat.zero_le _,rfl,HF1,⟨GoF.refl _ _ _ _⟩,⟨Kd.R_nil _ _ _ _ _⟩⟩
  case round =>
    clear HF1 HF
    obtain ⟨m,vN',vT',hm,rfl,HF,HG,HR⟩:=hrel
    rename World => wm
    obtain ⟨Pm,hPm⟩ : ∃ Pm,Pm = ((pl.take m).foldl (splitStep g r d i j) ([],s.L)).1:=⟨_,rfl⟩
    rw [← hPm] at HR
    obtain ⟨Al,cl,rfl⟩:=Kd.R_slice HR.out
    by_cases hlt : m < np
    · have k2 : (m : Int) < (np : Int):=by omega
      have hml : m < pl.length:=by rw [← HNP.out];exact hlt
      have HRp:=Aside0.mk (GoF.fresh HR1.out HG.out HLW.out.1 HLW.out.2 HON.out HOT.out)
      obtain ⟨-,-,hCp⟩:=Kd.R_reads' HRp.out
      obtain ⟨adp,eap,hcp⟩:=at_int hCp m hml
      have hz:=HSP.out _ (List.getElem_mem hml)
      have htk : pl.take (m + 1) = pl.take m ++ [pl[m]]:=by rw [List.take_succ_eq_append_getElem hml]
      obtain ⟨z,hzz⟩ : ∃ z,z = pl[m]'hml:=⟨_,rfl⟩
      rw [← hzz] at hcp hz htk
      have HTK:=Lib.hid htk
      obtain ⟨sm,hsm⟩ : ∃ sm,sm = splitSt f.most g r d i j s (pl.take m):=⟨_,rfl⟩
      obtain ⟨s2,hs2⟩ : ∃ s2,s2 = nodeS f.most sm (aheadL g r dm i z):=⟨_,rfl⟩
      obtain ⟨n1,hn1⟩ : ∃ n1,n1 = (nodeF sm.L (aheadL g r dm i z)).1:=⟨_,rfl⟩
      obtain ⟨s3,hs3⟩ : ∃ s3,s3 = nodeS f.most s2 (symLab y z j):=⟨_,rfl⟩
      obtain ⟨n2,hn2⟩ : ∃ n2,n2 = (nodeF s2.L (symLab y z j)).1:=⟨_,rfl⟩
      have hb:=splitSt_len f.most g r d i j s (pl.take m)
      rw [← hsm,List.length_take_of_le (by omega)] at hb
      have hb2:=nodeS_len f.most sm (aheadL g r dm i z)
      rw [← hs2] at hb2
      have hFIN : splitSt f.most g r d i j s (pl.take (m + 1)) = s3 ∧ ((pl.take (m + 1)).foldl (splitStep g r d i j) ([],s.L)).1 = Pm ++ [⟨r,z,n1,n2⟩]:=by
        rw [htk]
        constructor
        · rw [splitSt_snoc,← HDM.out,← HYE.out,← hsm,← hs2,← hs3]
        · rw [List.foldl_append]
          show (splitStep g r d i j ((pl.take m).foldl (splitStep g r d i j) ([],s.L)) z).1 = _
          rw [show ∀ st : List PackN × List Lab,(splitStep g r d i j st z).1 = st.1 ++ [⟨r,z,(nodeF st.2 (aheadL g r (d - 1) i z)).1,(nodeF (nodeF st.2 (aheadL g r (d - 1) i z)).2 (symLab ((rightR g r).getD (d - 1) 0) z j)).1⟩] from fun _ => rfl]
          rw [show ((pl.take m).foldl (splitStep g r d i j) ([],s.L)).2 = sm.L from by rw [hsm];exact splitSt_L ..]
          rw [← HDM.out,← HYE.out,hPm,hn1,hn2,hs2,nodeS_L]
      have HPL : Aside0 (Pm.length ≤ 41):=⟨by rw [hPm,split_len,List.length_take];simp only [List.length_nil];omega⟩
      rw [← hsm] at HF
      have HFIN:=Lib.hid hFIN
      have HA:=Aside0.mk (aheadF_c w0 f g wd k vN' vT' sm r dm i z wm HFW.out HF.out hr HD1.out.1 HD1.out.2 hi hz (by omega) (by omega))
      rw [← hn1,← hs2] at HA
      have HSY : Aside0 (∀ (W5 : World) (v1 v2 : Value),FM w0 W5 f g v1 v2 s2 → Calls Try.prog 59 #[.pointer (some ⟨f.b,0,none⟩),.int .i64 y,.int .i64 z,.int .i64 j] W5 fun e W' => NodeEnd w0 W5 f g v1 v2 n2 s3 e W'):=⟨fun W5 v1 v2 hf => by
        have:=symF_c w0 f g v1 v2 s2 y z j W5 hf (labI_sym HYB.out (by omega) (by omega)) (by omega) (by omega)
        rwa [← hn2,← hs3] at this⟩
      cases eap
      clear hFIN hsm hPm hs2 hn1 hs3 hn2 hb hb2 htk hzz hCp hz hml HRp
      go_wp2_with (first
        | (go_at_call 114;go_loud (refine HA.out.mono ?_;rintro e w5 ⟨vN2,vT2,rfl,hF5,hG5⟩;have HF5:=Aside0.mk hF5;have HG5:=Aside0.mk (HG.out.trans hG5);have HR5:=Aside0.mk (GoF.row HR.out HF.out hG5 (show ∀ q,q ∈ [82] → q ≠ 119 ∧ q ≠ 66 ∧ q ≠ 3 by decide));clear hF5 hG5)) | (go_at_call 59;go_loud (refine (HSY.out _ _ _ HF5.out).mono ?_;rintro e w6 ⟨vN3,vT3,rfl,hF6,hG6⟩;have HF6:=Aside0.mk hF6;have HG6:=Aside0.mk (HG5.out.trans hG6);have HR6:=Aside0.mk (GoF.row HR5.out HF5.out hG6 (show ∀ q,q ∈ [82] → q ≠ 119 ∧ q ≠ 66 ∧ q ≠ 3 by decide));clear hF6 hG6)) | (at_builtin;refine app_pk (w0:=w6) (base:=w1.heap.size) (p:=⟨r,z,n1,n2⟩) (ok:=fun _ => True) rfl rfl HR6.out (Below.refl _ _) HG6.out.size (by have:=HPL.out;omega) (fun _ _ => trivial) rfl (by simp [Act.eval]) ?_;intro v7 w7 A7;obtain ⟨A',c',rfl⟩:=A7.shape;have HF7:=Aside0.mk (HF6.out.packs HR6.out A7 HW0.out);have HG7:=Aside0.mk (HG6.out.beside A7.grown (fun q hq => R_ge HR6.out hq));have HR7:=Aside0.mk A7.row;clear A7))
      go_roundw
      case rel => exact ⟨m + 1,vN3,vT3,by omega,by go_num,by rw [HFIN.out.1];exact HF7,HG7,by rw [HFIN.out.2];exact HR7⟩
      case measure => simp [intOf];omega
    · obtain rfl : m = np:=by omega
      have k2 : ¬ (m : Int) < (m : Int):=by omega
      have htk : pl.take m = pl:=List.take_of_length_le (by rw [← HNP.out];exact Nat.le_refl _)
      rw [htk] at HF hPm
      have HPM:=Lib.hid hPm
      have HX:=Aside0.mk ((GoF.below (f:=f) HB1.out vN vT).trans HG.out)
      clear htk HNP hPm
      go_wp2
      go_ret
      exact ⟨_,_,_,_,rfl,HW1.out,by rw [← HPM.out];exact HR.out,HF.out,HX.out⟩
end Go.Proofs.Ytmkgcjhimajgiaa


set_option linter.unusedVariables false
set_option linter.unusedSimpArgs false
namespace Go.Proofs.Ytmkgcjhimajgiaa
open Go.RowKit Go.Proofs.YtmkgcjhimajgiaaW.PrintWords Go.Proofs.YtmkgcjhimajgiaaW.PrintLast Go.Conc

theorem pk_one (W : World) (p : PackN) : kPk.R 82 (W.alloc (.cells #[.int .i64 p.rule,.int .i64 p.pivot,.int .i64 p.left,.int .i64 p.right] 82)) W.heap.size (fun _ => True) (.slice (some ⟨W.heap.size,0,none⟩) 1 1) [p]:=by
  have h:=World.ownsRow_lit (base:=W.heap.size) (e:=82) (size:=4) W #[.int .i64 p.rule,.int .i64 p.pivot,.int .i64 p.left,.int .i64 p.right] 1 (Nat.le_refl _) (by simp [maxLen]) (by simp)
  refine ⟨fun _ _ => trivial,_,h,rfl,fun j x hx => ?_⟩
  have hj : j = 0:=by have:=(List.getElem?_eq_some_iff.1 hx).1;simp at this;omega
  subst hj
  simp at hx
  subst hx
  exact M_pk _ _ _ p
noncomputable def wholeSt (most : Int) (g : Gram) (wd : List Int) (r : Nat) (i j : Int) (s : FSt) : FSt :=
  if (rightR g r).length = 0 then s
  else if (rightR g r).length = 1 then (if symV g wd ((rightR g r).getD 0 0) i j = true then nodeS most s (symLab ((rightR g r).getD 0 0) i j) else s)
  else splitSt most g r (rightR g r).length i j s (pivF g wd r (rightR g r).length i j)
theorem wholeSt_L (most : Int) (g : Gram) (wd : List Int) (r : Nat) (i j : Int) (s : FSt) : (wholeF g wd s.L r i j).2 = (wholeSt most g wd r i j s).L:=by
  unfold wholeF wholeSt
  split
  · rfl
  · split
    · split
      · rw [nodeS_L]
      · rfl
    · exact splitSt_L ..
set_option maxRecDepth 100000 in
set_option maxHeartbeats 16000000 in
theorem whole2_c (w0 : World) (f : FB) (g : Gram) (wd : List Int) (k : CB) (vN vT : Value) (s : FSt) (r : Nat) (i j : Int) (W : World) (hw : FW w0 f g wd k) (h : FM w0 W f g vN vT s) (hr : r < g.rules.length) (hn : 2 ≤ (rightR g r).length) (hi : 0 ≤ i ∧ i ≤ 40) (hj : 0 ≤ j ∧ j ≤ 40) (hl : s.X.length ≤ 50000) (htd : s.td.length ≤ 50000) :
    Calls Try.prog 106 #[.pointer (some ⟨f.b,0,none⟩),.int .i64 (r : Nat),.int .i64 i,.int .i64 j] W fun e W' => SplitEnd w0 W f g vN vT (wholeF g wd s.L r i j).1 (wholeSt f.most g wd r i j s) e W':=by
  have e1 : wholeF g wd s.L r i j = splitF g wd s.L r (rightR g r).length i j:=by unfold wholeF;rw [if_neg (by omega),if_neg (by omega)]
  have e2 : wholeSt f.most g wd r i j s = splitSt f.most g r (rightR g r).length i j s (pivF g wd r (rightR g r).length i j):=by unfold wholeSt;rw [if_neg (by omega),if_neg (by omega)]
  rw [e1,e2]
  have hR:=rightR_at hr
  have HO:=Aside0.mk h.o
  obtain ⟨ad,Br,dr,ead,hx,hy,hdr,hC1⟩:=at_rule (Kd.C_below hw.rep.rules h.below) r hr
  obtain ⟨n,hnn⟩ : ∃ n,n = (rightR g r).length:=⟨_,rfl⟩
  rw [← hR,← hnn] at hy
  have HF:=Aside0.mk h
  have HS : Aside0 (∀ W5,FM w0 W5 f g vN vT s → _):=⟨fun W5 hf => splitF_c w0 f g wd k vN vT s r n i j W5 hw hf hr (by omega) (by omega) hi hj hl htd⟩
  rw [← hnn] at hn ⊢
  generalize (splitF g wd s.L r n i j).1 = P at HS ⊢
  generalize splitSt f.most g r n i j s (pivF g wd r n i j) = s' at HS ⊢
  have o2:=(blk_cell HO.out 2).trans rfl
  rw [ead] at o2
  have r2 : (r : Int) < (g.rules.length : Int):=by omega
  have r0 : (0 : Int) ≤ (r : Int):=by omega
  have n0 : ((n : Int) == 0) = false:=by simp;omega
  have n0' : ¬ (n : Int) = 0:=by omega
  have n1 : ((n : Int) == 1) = false:=by simp;omega
  have n1' : ¬ (n : Int) = 1:=by omega
  have n2 : (1 : Int) < (n : Int):=by omega
  have n2' : decide ((1 : Int) < (n : Int)) = true:=decide_eq_true n2
  have n00 : ¬ n = 0:=by omega
  have n11 : ¬ n = 1:=by omega
  clear h hw hl htd hR e1 e2 ead hnn hdr hC1 hx
  go_enter Try.func106,Try.ntmps106
  go_upto_region 4 with (fail)
  refine start_ (n:=17) (S:=fun w' => Below W.heap.size W w') (ds:=[]) (lb 17 0x0) (by kernel_rfl) rfl (by kernel_rfl) (below_drew1 (Below.refl _ _)) (fun hHeld => ?_)
  refine pu_ ?_ ?_ 0 (some 33) (lb 17 0x1) ?_
  refine pu_ ?_ ?_ 1 (some 34) (lb 17 0x3) ?_
  refine pu_ ?_ ?_ 2 (some 35) (lb 17 0x7) ?_
  refine pu_ ?_ ?_ 3 (some 36) (lb 17 0xf) ?_
  refine po_ ?_ 4 (some 37) (lb 17 0x1f) ?_
  refine po_ ?_ 5 (some 38) (lb 17 0x3f) ?_
  refine po_ ?_ 6 (some 39) (lb 17 0x7f) ?_
  refine po_ ?_ 8 (some 41) (lb 17 0x17f) ?_
  refine po_ ?_ 9 (some 42) (lb 17 0x37f) ?_
  refine po_ ?_ 11 (some 44) (lb 17 0xb7f) ?_
  refine po_ ?_ 12 (some 45) (lb 17 0x1b7f) ?_
  refine po_ ?_ 7 (some 40) (lb 17 0x1bff) ?_
  refine po_ ?_ 10 (some 43) (lb 17 0x1fff) ?_
  refine po_ ?_ 13 (some 46) (lb 17 0x3fff) ?_
  refine on_ 14 (some 47) (lb 17 0x7fff) (fun K hK => ?_)
  refine off_ (by rfl) ?_
  refine hK.out _ _ hHeld (fun hHeld => ?_)
  clear hK K
  refine nm_ ?_ (some 47) ?_
  refine pu_ ?_ ?_ 15 (some 48) (lb 17 0xffff) ?_
  refine pu_ ?_ ?_ 16 (some 32) (lb 17 0x1ffff) ?_
  refine done_ (by kernel_rfl) ?_
  obtain ⟨W1,hW1⟩ : ∃ W1,W1 = W.drew:=⟨_,rfl⟩
  rw [← hW1] at hHeld ⊢
  have HB1:=Aside0.mk hHeld
  have HF1:=Aside0.mk (HF.out.below_ hHeld)
  clear hW1 hHeld hy o2
  go_wp2_with (go_at_call 105;go_loud (refine (HS.out _ HF1.out).mono ?_;rintro e w5 ⟨vP,vN',vT',b0,rfl,hb0,hP,hF,hG⟩;have HP5:=Aside0.mk hP;have HB5:=Aside0.mk hb0;have HF5:=Aside0.mk hF;have HG5:=Aside0.mk hG;clear hP hb0 hF hG))
  go_ret
  exact ⟨_,_,_,_,rfl,Nat.le_trans HB1.out.size HB5.out,HP5.out,HF5.out,(GoF.below HB1.out _ _).trans HG5.out⟩
set_option maxRecDepth 100000 in
set_option maxHeartbeats 16000000 in
theorem whole0_c (w0 : World) (f : FB) (g : Gram) (wd : List Int) (k : CB) (vN vT : Value) (s : FSt) (r : Nat) (i j : Int) (W : World) (hw : FW w0 f g wd k) (h : FM w0 W f g vN vT s) (hr : r < g.rules.length) (hn : (rightR g r).length = 0) :
    Calls Try.prog 106 #[.pointer (some ⟨f.b,0,none⟩),.int .i64 (r : Nat),.int .i64 i,.int .i64 j] W fun e W' => SplitEnd w0 W f g vN vT (wholeF g wd s.L r i j).1 (wholeSt f.most g wd r i j s) e W':=by
  have e1 : (wholeF g wd s.L r i j).1 = if i = j then [⟨r,i,-1,-1⟩] else []:=by unfold wholeF;rw [if_pos hn]
  have e2 : wholeSt f.most g wd r i j s = s:=by unfold wholeSt;rw [if_pos hn]
  rw [e1,e2]
  have hR:=rightR_at hr
  have HO:=Aside0.mk h.o
  obtain ⟨ad,Br,dr,ead,hx,hy,hdr,hC1⟩:=at_rule (Kd.C_below hw.rep.rules h.below) r hr
  rw [← hR,hn] at hy
  have HF:=Aside0.mk h
  have o2:=(blk_cell HO.out 2).trans rfl
  rw [ead] at o2
  have r2 : (r : Int) < (g.rules.length : Int):=by omega
  have r0 : (0 : Int) ≤ (r : Int):=by omega
  clear h hw hR e1 e2 ead hdr hC1 hx hn
  by_cases hij : i = j
  · subst hij
    rw [if_pos rfl]
    go_enter Try.func106,Try.ntmps106
    go_wp2
    go_ret
    have hb:=below_alloc (Below.refl W.heap.size W) (.cells #[.int .i64 (r : Int),.int .i64 i,.int .i64 (-1),.int .i64 (-1)] 82)
    exact ⟨_,_,_,_,rfl,Nat.le_refl _,pk_one W ⟨r,i,-1,-1⟩,HF.out.below_ hb,GoF.below hb _ _⟩
  · rw [if_neg hij]
    have d1 : (i == j) = false:=by simpa using hij
    go_enter Try.func106,Try.ntmps106
    go_upto_region 4 with (fail)
    refine start_ (n:=17) (S:=fun w' => Below W.heap.size W w') (ds:=[]) (lb 17 0x0) (by kernel_rfl) rfl (by kernel_rfl) (below_drew1 (Below.refl _ _)) (fun hHeld => ?_)
    refine pu_ ?_ ?_ 0 (some 33) (lb 17 0x1) ?_
    refine pu_ ?_ ?_ 1 (some 34) (lb 17 0x3) ?_
    refine pu_ ?_ ?_ 2 (some 35) (lb 17 0x7) ?_
    refine pu_ ?_ ?_ 3 (some 36) (lb 17 0xf) ?_
    refine po_ ?_ 4 (some 37) (lb 17 0x1f) ?_
    refine po_ ?_ 5 (some 38) (lb 17 0x3f) ?_
    refine po_ ?_ 6 (some 39) (lb 17 0x7f) ?_
    refine po_ ?_ 8 (some 41) (lb 17 0x17f) ?_
    refine po_ ?_ 9 (some 42) (lb 17 0x37f) ?_
    refine po_ ?_ 11 (some 44) (lb 17 0xb7f) ?_
    refine po_ ?_ 12 (some 45) (lb 17 0x1b7f) ?_
    refine po_ ?_ 7 (some 40) (lb 17 0x1bff) ?_
    refine po_ ?_ 10 (some 43) (lb 17 0x1fff) ?_
    refine po_ ?_ 13 (some 46) (lb 17 0x3fff) ?_
    refine on_ 14 (some 47) (lb 17 0x7fff) (fun K hK => ?_)
    refine off_ (by rfl) ?_
    refine hK.out _ _ hHeld (fun hHeld => ?_)
    clear hK K
    refine nm_ ?_ (some 47) ?_
    refine pu_ ?_ ?_ 15 (some 48) (lb 17 0xffff) ?_
    refine pu_ ?_ ?_ 16 (some 32) (lb 17 0x1ffff) ?_
    refine done_ (by kernel_rfl) ?_
    obtain ⟨W1,hW1⟩ : ∃ W1,W1 = W.drew:=⟨_,rfl⟩
    rw [← hW1] at hHeld ⊢
    have HB1:=Aside0.mk hHeld
    have HF1:=Aside0.mk (HF.out.below_ hHeld)
    clear hW1 hHeld hy o2
    go_wp2
    go_ret
    exact ⟨_,_,_,_,rfl,HB1.out.size,Kd.R_nil _ _ _ _ _,HF1.out,GoF.below HB1.out _ _⟩
set_option maxRecDepth 100000 in
set_option maxHeartbeats 16000000 in
theorem whole1_c (w0 : World) (f : FB) (g : Gram) (wd : List Int) (k : CB) (vN vT : Value) (s : FSt) (r : Nat) (i j : Int) (W : World) (hw : FW w0 f g wd k) (h : FM w0 W f g vN vT s) (hr : r < g.rules.length) (hn : (rightR g r).length = 1) (hi : 0 ≤ i ∧ i ≤ 40) (hj : 0 ≤ j ∧ j ≤ 40) (hl : s.X.length ≤ 50000) (htd : s.td.length ≤ 50000) :
    Calls Try.prog 106 #[.pointer (some ⟨f.b,0,none⟩),.int .i64 (r : Nat),.int .i64 i,.int .i64 j] W fun e W' => SplitEnd w0 W f g vN vT (wholeF g wd s.L r i j).1 (wholeSt f.most g wd r i j s) e W':=by
  obtain ⟨q1,q2,q3,q4⟩:=goodF_small hw.gd
  have hR:=rightR_at hr
  have hget:=right_get (g:=g) (k:=r) (d:=0) (by omega)
  have hy0:=right_mem hw.gd hr hget
  have hns : nsym g ≤ 1000:=by unfold nsym;omega
  obtain ⟨y,hyy⟩ : ∃ y,y = (rightR g r).getD 0 0:=⟨_,rfl⟩
  obtain ⟨v,hv⟩ : ∃ v,symV g wd y i j = v:=⟨_,rfl⟩
  have e1 : (wholeF g wd s.L r i j).1 = if v = true then [⟨r,i,-1,(nodeF s.L (symLab y i j)).1⟩] else []:=by unfold wholeF;rw [if_neg (by omega),if_pos hn,← hyy,hv];split <;> rfl
  have e2 : wholeSt f.most g wd r i j s = if v = true then nodeS f.most s (symLab y i j) else s:=by unfold wholeSt;rw [if_neg (by omega),if_pos hn,← hyy,hv]
  rw [e1,e2]
  have ho:=h.o
  rw [hw.kb] at ho
  have HO:=Aside0.mk ho
  obtain ⟨ad,Br,dr,ead,hx,hy,hdr,hC1⟩:=at_rule (Kd.C_below hw.rep.rules h.below) r hr
  obtain ⟨xr,hxr⟩ : ∃ xr,xr = g.rules[r]'hr:=⟨_,rfl⟩
  rw [← hxr] at hy hC1 hR hdr
  have hlen : 0 < xr.right.length:=by rw [← hR];omega
  obtain ⟨adr,eadr,hrc⟩:=at_int hC1 0 hlen
  rw [← hyy] at hy0
  have hyr : xr.right[0]'hlen = y:=by rw [hyy,hR,List.getD_eq_getElem?_getD,List.getElem?_eq_getElem hlen];rfl
  rw [hyr,show adr.add 0 = adr from rfl] at hrc
  rw [← hR,hn] at hy
  have HF:=Aside0.mk h
  have HC:=Aside0.mk (hw.ch.below_ h.below)
  have HYB : Aside0 (-9223372036854775808 ≤ y ∧ y ≤ 9223372036854775807):=⟨by omega⟩
  have HV:=Lib.hid hv
  have HRC:=Aside0.mk hrc
  have HSY : Aside0 (∀ (W5 : World),FM w0 W5 f g vN vT s → Calls Try.prog 59 #[.pointer (some ⟨f.b,0,none⟩),.int .i64 y,.int .i64 i,.int .i64 j] W5 fun e W' => NodeEnd w0 W5 f g vN vT (nodeF s.L (symLab y i j)).1 (nodeS f.most s (symLab y i j)) e W'):=⟨fun W5 hf => symF_c w0 f g vN vT s y i j W5 hf (labI_sym (by omega) (by omega) (by omega)) (by omega) (by omega)⟩
  generalize (nodeF s.L (symLab y i j)).1 = n1 at HSY ⊢
  generalize nodeS f.most s (symLab y i j) = s' at HSY ⊢
  have o2:=(blk_cell HO.out 2).trans rfl
  rw [ead] at o2
  have r2 : (r : Int) < (g.rules.length : Int):=by omega
  have r0 : (0 : Int) ≤ (r : Int):=by omega
  cases eadr
  clear h hw hR e1 e2 ead hdr hC1 hx hn ho hget hy0 hyy hv hxr hyr hlen hrc hl htd
  cases v
  · rw [if_neg (by decide)]
    go_enter Try.func106,Try.ntmps106
    go_upto_region 4 with (fail)
    refine start_ (n:=17) (S:=fun w' => Below W.heap.size W w') (ds:=[]) (lb 17 0x0) (by kernel_rfl) rfl (by kernel_rfl) (below_drew1 (Below.refl _ _)) (fun hHeld => ?_)
    refine pu_ ?_ ?_ 0 (some 33) (lb 17 0x1) ?_
    refine pu_ ?_ ?_ 1 (some 34) (lb 17 0x3) ?_
    refine pu_ ?_ ?_ 2 (some 35) (lb 17 0x7) ?_
    refine pu_ ?_ ?_ 3 (some 36) (lb 17 0xf) ?_
    refine pu_ ?_ ?_ 4 (some 37) (lb 17 0x1f) ?_
    refine pu_ ?_ ?_ 5 (some 38) (lb 17 0x3f) ?_
    refine pu_ ?_ ?_ 6 (some 39) (lb 17 0x7f) ?_
    refine pu_ ?_ ?_ 8 (some 41) (lb 17 0x17f) ?_
    refine pu_ ?_ ?_ 9 (some 42) (lb 17 0x37f) ?_
    refine pu_ ?_ ?_ 11 (some 44) (lb 17 0xb7f) ?_
    refine pu_ ?_ ?_ 12 (some 45) (lb 17 0x1b7f) ?_
    refine ta_ ?_ ?_ 7 (some 40) (lb 17 0x1bff) hHeld ?_ (y:=by rintro w' hS;have d0:=(blk_cell (blk_below HO.out hS) 0).trans rfl;have d1:=(blk_cell (blk_below HO.out hS) 1).trans rfl;have d2:=(blk_cell (blk_below HO.out hS) 2).trans rfl;have d3:=(blk_cell (blk_below HO.out hS) 3).trans rfl;have d4:=(blk_cell (blk_below HO.out hS) 4).trans rfl;have d5:=(blk_cell (blk_below HO.out hS) 5).trans rfl;have d6:=(blk_cell (blk_below HO.out hS) 6).trans rfl;have d7:=(blk_cell (blk_below HO.out hS) 7).trans rfl;have d8:=(blk_cell (blk_below HO.out hS) 8).trans rfl;have d9:=(blk_cell (blk_below HO.out hS) 9).trans rfl;have d10:=cell_at hS HRC.out;go_simp;with_reducible rfl)
    refine ta_ ?_ ?_ 10 (some 43) (lb 17 0x1fff) hHeld ?_ (y:=by rintro w' hS;have d0:=(blk_cell (blk_below HO.out hS) 0).trans rfl;have d1:=(blk_cell (blk_below HO.out hS) 1).trans rfl;have d2:=(blk_cell (blk_below HO.out hS) 2).trans rfl;have d3:=(blk_cell (blk_below HO.out hS) 3).trans rfl;have d4:=(blk_cell (blk_below HO.out hS) 4).trans rfl;have d5:=(blk_cell (blk_below HO.out hS) 5).trans rfl;have d6:=(blk_cell (blk_below HO.out hS) 6).trans rfl;have d7:=(blk_cell (blk_below HO.out hS) 7).trans rfl;have d8:=(blk_cell (blk_below HO.out hS) 8).trans rfl;have d9:=(blk_cell (blk_below HO.out hS) 9).trans rfl;have d10:=cell_at hS HRC.out;go_simp;with_reducible rfl)
    refine pu_ ?_ ?_ 13 (some 46) (lb 17 0x3fff) ?_
    refine on_ 14 (some 47) (lb 17 0x7fff) (fun K hK => ?_)
    (refine goesC_ Try.func26 (by kernel_rfl) rfl (by rfl) rfl rfl (symM_c k g wd y i j _ (HC.out.below_ hHeld) HYB.out HV.out) (by simp [Act.eval]) ?_;rintro e w9 ⟨rfl,hb9⟩;refine ⟨_,rfl,?_⟩;have HQ9:=Aside0.mk (below_then hHeld hHeld.size hb9);clear hb9;refine hK.out _ _ HQ9.out (fun hHeld => ?_))
    clear hK K
    refine nm_ ?_ (some 47) ?_
    refine pu_ ?_ ?_ 15 (some 48) (lb 17 0xffff) ?_
    refine pu_ ?_ ?_ 16 (some 32) (lb 17 0x1ffff) ?_
    refine done_ (by kernel_rfl) ?_
    rename World => W1
    have HB1:=Aside0.mk hHeld
    have HF1:=Aside0.mk (HF.out.below_ hHeld)
    clear hHeld hy o2
    go_wp2
    go_ret
    exact ⟨_,_,_,_,rfl,HB1.out.size,Kd.R_nil _ _ _ _ _,HF1.out,GoF.below HB1.out _ _⟩
  · rw [if_pos rfl]
    go_enter Try.func106,Try.ntmps106
    go_upto_region 4 with (fail)
    refine start_ (n:=17) (S:=fun w' => Below W.heap.size W w') (ds:=[]) (lb 17 0x0) (by kernel_rfl) rfl (by kernel_rfl) (below_drew1 (Below.refl _ _)) (fun hHeld => ?_)
    refine pu_ ?_ ?_ 0 (some 33) (lb 17 0x1) ?_
    refine pu_ ?_ ?_ 1 (some 34) (lb 17 0x3) ?_
    refine pu_ ?_ ?_ 2 (some 35) (lb 17 0x7) ?_
    refine pu_ ?_ ?_ 3 (some 36) (lb 17 0xf) ?_
    refine pu_ ?_ ?_ 4 (some 37) (lb 17 0x1f) ?_
    refine pu_ ?_ ?_ 5 (some 38) (lb 17 0x3f) ?_
    refine pu_ ?_ ?_ 6 (some 39) (lb 17 0x7f) ?_
    refine pu_ ?_ ?_ 8 (some 41) (lb 17 0x17f) ?_
    refine pu_ ?_ ?_ 9 (some 42) (lb 17 0x37f) ?_
    refine pu_ ?_ ?_ 11 (some 44) (lb 17 0xb7f) ?_
    refine pu_ ?_ ?_ 12 (some 45) (lb 17 0x1b7f) ?_
    refine ta_ ?_ ?_ 7 (some 40) (lb 17 0x1bff) hHeld ?_ (y:=by rintro w' hS;have d0:=(blk_cell (blk_below HO.out hS) 0).trans rfl;have d1:=(blk_cell (blk_below HO.out hS) 1).trans rfl;have d2:=(blk_cell (blk_below HO.out hS) 2).trans rfl;have d3:=(blk_cell (blk_below HO.out hS) 3).trans rfl;have d4:=(blk_cell (blk_below HO.out hS) 4).trans rfl;have d5:=(blk_cell (blk_below HO.out hS) 5).trans rfl;have d6:=(blk_cell (blk_below HO.out hS) 6).trans rfl;have d7:=(blk_cell (blk_below HO.out hS) 7).trans rfl;have d8:=(blk_cell (blk_below HO.out hS) 8).trans rfl;have d9:=(blk_cell (blk_below HO.out hS) 9).trans rfl;have d10:=cell_at hS HRC.out;go_simp;with_reducible rfl)
    refine ta_ ?_ ?_ 10 (some 43) (lb 17 0x1fff) hHeld ?_ (y:=by rintro w' hS;have d0:=(blk_cell (blk_below HO.out hS) 0).trans rfl;have d1:=(blk_cell (blk_below HO.out hS) 1).trans rfl;have d2:=(blk_cell (blk_below HO.out hS) 2).trans rfl;have d3:=(blk_cell (blk_below HO.out hS) 3).trans rfl;have d4:=(blk_cell (blk_below HO.out hS) 4).trans rfl;have d5:=(blk_cell (blk_below HO.out hS) 5).trans rfl;have d6:=(blk_cell (blk_below HO.out hS) 6).trans rfl;have d7:=(blk_cell (blk_below HO.out hS) 7).trans rfl;have d8:=(blk_cell (blk_below HO.out hS) 8).trans rfl;have d9:=(blk_cell (blk_below HO.out hS) 9).trans rfl;have d10:=cell_at hS HRC.out;go_simp;with_reducible rfl)
    refine pu_ ?_ ?_ 13 (some 46) (lb 17 0x3fff) ?_
    refine on_ 14 (some 47) (lb 17 0x7fff) (fun K hK => ?_)
    (refine goesC_ Try.func26 (by kernel_rfl) rfl (by rfl) rfl rfl (symM_c k g wd y i j _ (HC.out.below_ hHeld) HYB.out HV.out) (by simp [Act.eval]) ?_;rintro e w9 ⟨rfl,hb9⟩;refine ⟨_,rfl,?_⟩;have HQ9:=Aside0.mk (below_then hHeld hHeld.size hb9);clear hb9;refine hK.out _ _ HQ9.out (fun hHeld => ?_))
    clear hK K
    refine nm_ ?_ (some 47) ?_
    refine pu_ ?_ ?_ 15 (some 48) (lb 17 0xffff) ?_
    refine pu_ ?_ ?_ 16 (some 32) (lb 17 0x1ffff) ?_
    refine done_ (by kernel_rfl) ?_
    rename World => W1
    have HB1:=Aside0.mk hHeld
    have HF1:=Aside0.mk (HF.out.below_ hHeld)
    have hrc1:=pw_cell_below hHeld HRC.out
    clear hHeld hy o2
    go_wp2_with (go_at_call 59;go_loud (refine (HSY.out _ HF1.out).mono ?_;rintro e w5 ⟨vN',vT',rfl,hF,hG⟩;have HF5:=Aside0.mk hF;have HG5:=Aside0.mk hG;clear hF hG))
    go_ret
    have hb:=below_alloc (Below.refl w5.heap.size w5) (.cells #[.int .i64 (r : Int),.int .i64 i,.int .i64 (-1),.int .i64 (n1 : Int)] 82)
    exact ⟨_,_,_,_,rfl,Nat.le_trans HB1.out.size HG5.out.size,pk_one w5 ⟨r,i,-1,n1⟩,HF5.out.below_ hb,((GoF.below HB1.out _ _).trans HG5.out).trans (GoF.below hb _ _)⟩
theorem whole_c (w0 : World) (f : FB) (g : Gram) (wd : List Int) (k : CB) (vN vT : Value) (s : FSt) (r : Nat) (i j : Int) (W : World) (hw : FW w0 f g wd k) (h : FM w0 W f g vN vT s) (hr : r < g.rules.length) (hi : 0 ≤ i ∧ i ≤ 40) (hj : 0 ≤ j ∧ j ≤ 40) (hl : s.X.length ≤ 50000) (htd : s.td.length ≤ 50000) :
    Calls Try.prog 106 #[.pointer (some ⟨f.b,0,none⟩),.int .i64 (r : Nat),.int .i64 i,.int .i64 j] W fun e W' => SplitEnd w0 W f g vN vT (wholeF g wd s.L r i j).1 (wholeSt f.most g wd r i j s) e W':=by
  by_cases h0 : (rightR g r).length = 0
  · exact whole0_c w0 f g wd k vN vT s r i j W hw h hr h0
  · by_cases h1 : (rightR g r).length = 1
    · exact whole1_c w0 f g wd k vN vT s r i j W hw h hr h1 hi hj hl htd
    · exact whole2_c w0 f g wd k vN vT s r i j W hw h hr (by omega) hi hj hl htd
end Go.Proofs.Ytmkgcjhimajgiaa

