/- Contracts of functions of the program, and plain laws (texts H1, H2, H3, H4, H5, H6, H7, H8), joined: each theorem says what it proves. -/
import Derived.Test.YtmkgcjhimajgiaaFE
import Derived.Test.YtmkgcjhimajgiaaFN
import Derived.Test.YtmkgcjhimajgiaaFK
set_option linter.unusedVariables false
set_option linter.unusedSimpArgs false
namespace Go.Proofs.Ytmkgcjhimajgiaa
open Go.RowKit Go.Proofs.YtmkgcjhimajgiaaW.PrintWords Go.Proofs.YtmkgcjhimajgiaaW.PrintLast Go.Conc

def kPN : Kd PN:=Kd.iso (Kd.pair kInt (Kd.pair kInt (Kd.pair kInt kInt))) (fun p : PN => ((p.r : Int),(p.d : Int),(p.i : Int),(p.j : Int)))
abbrev valP (p : PN) : Value:=.agg #[.int .i64 p.r,.int .i64 p.d,.int .i64 p.i,.int .i64 p.j]
theorem infoPart : (Try.prog.info? 30).map (fun i => (i.zero,i.size,i.bytes)) = some (some (.agg #[.int .i64 0,.int .i64 0,.int .i64 0,.int .i64 0]),4,32):=by kernel_rfl
theorem M_pn (w : World) (base : Nat) (ok : Nat → Prop) (p : PN) : kPN.M w base ok p [.int .i64 p.r,.int .i64 p.d,.int .i64 p.i,.int .i64 p.j] :=
  ⟨[.int .i64 p.r],[.int .i64 p.d,.int .i64 p.i,.int .i64 p.j],rfl,rfl,⟨[.int .i64 p.d],[.int .i64 p.i,.int .i64 p.j],rfl,rfl,⟨[.int .i64 p.i],[.int .i64 p.j],rfl,rfl,rfl⟩⟩⟩
theorem K_pn {w : World} {p : PN} {cs : List Value} (h : kPN.K w p cs) : cs = [.int .i64 p.r,.int .i64 p.d,.int .i64 p.i,.int .i64 p.j]:=by
  obtain ⟨_,_,rfl,rfl,⟨_,_,rfl,rfl,⟨_,_,rfl,rfl,rfl⟩⟩⟩:=h
  rfl
theorem at_pn {w : World} {A : Option Addr} {n : Nat} {xs : List PN} (h : kPN.C w A n xs) (i : Nat) (hi : i < xs.length) :
    ∃ ad,A = some ad ∧ w.cell? (ad.add (i * 4)) = some (.int .i64 xs[i].r) ∧ w.cell? ⟨(ad.add (i * 4)).block,(ad.add (i * 4)).off + 1,none⟩ = some (.int .i64 xs[i].d) ∧ w.cell? ⟨(ad.add (i * 4)).block,(ad.add (i * 4)).off + 2,none⟩ = some (.int .i64 xs[i].i) ∧ w.cell? ⟨(ad.add (i * 4)).block,(ad.add (i * 4)).off + 3,none⟩ = some (.int .i64 xs[i].j):=by
  obtain ⟨ad,c,e,_,hK,hc0⟩:=C_at h i hi
  obtain rfl:=K_pn hK
  have hc : ∀ j u,_ → w.cell? (ad.add (i * 4 + j)) = some u:=hc0
  exact ⟨ad,e,hc 0 _ rfl,by rw [← add_field _ _ 1 (by omega)];exact hc 1 _ rfl,by rw [← add_field _ _ 2 (by omega)];exact hc 2 _ rfl,by rw [← add_field _ _ 3 (by omega)];exact hc 3 _ rfl⟩
theorem R_setOther {α : Type} {d : Kd α} {e t b : Nat} {w : World} {base : Nat} {ok : Nat → Prop} {v : Value} {xs : List α} {cs : Array Value} (h : d.R e w base ok v xs) (hb : w.heap[b]? = some (.cells cs t (0,0))) (ht : ∀ q,q ∈ e :: d.E → q ≠ t) (i : Nat) (u : Value) : d.R e (w.setCell ⟨b,i,none⟩ u) base ok v xs :=
  Kd.R_mono (Kd.R_far (Kd.R_types h hb ht) (p:=⟨b,i,none⟩) (fun k hk => hk.2) u) (fun _ hk => hk.1)

structure CB where
  b : Nat
  s : Nat
  p : Nat
  ch : Nat
  A1 : Option Addr
  A2 : Option Addr
  A3 : Option Addr
  c1 : Nat
  c2 : Nat
  c3 : Nat
  B : Option Addr
  cb : Nat
  ls : Nat
  lp : Nat
def baseL (g : Gram) : List Int:=(List.range g.rules.length).map fun r => (baseF g r : Int)
/-- A chart,made in a world from w0 on: its struct,its tables,what waits,how many were taken. -/
structure CMb (bf : Array Value) (w0 W : World) (k : CB) (g : Gram) (n : Nat) (vq : Value) (s : ChS) (r : Nat) : Prop where
  o : W.heap[k.b]? = some (.cells #[.slice k.A1 g.terms.length k.c1,.slice k.A2 g.names.length k.c2,.slice k.A3 g.rules.length k.c3,.int .i64 n,.slice (some ⟨k.s,0,none⟩) k.ls k.ls,.slice (some ⟨k.p,0,none⟩) k.lp k.lp,.slice k.B g.rules.length k.cb,vq,.chan (some k.ch)] 97 (0,0))
  sy : BB W k.s s.sy
  pa : BB W k.p s.pa
  sp : k.s ≠ k.p
  ls : s.sy.length = k.ls
  lp : s.pa.length = k.lp
  ba : kInt.R 3 W w0.heap.size (fun _ => True) (.slice k.B g.rules.length k.cb) (baseL g)
  q : kPN.R 30 W w0.heap.size (fun _ => True) vq s.q
  ch : ∃ z,W.heap[k.ch]? = some (.chan 1 bf false z r false)
  below : Below w0.heap.size w0 W
  lo : w0.heap.size ≤ k.b ∧ w0.heap.size ≤ k.s ∧ w0.heap.size ≤ k.p ∧ w0.heap.size ≤ k.ch
  g : RepG w0 g k.A1 k.A2 k.A3 k.c1 k.c2 k.c3
/-- Nothing lies in the channel. -/
abbrev CM (w0 W : World) (k : CB) (g : Gram) (n : Nat) (vq : Value) (s : ChS) (r : Nat) : Prop:=CMb #[] w0 W k g n vq s r
/-- What a step on the chart leaves alone: all but the chart's own blocks. -/
structure GoB (k : CB) (W W' : World) (vq vq' : Value) : Prop where
  size : W.heap.size ≤ W'.heap.size
  keep : ∀ q,q < W.heap.size → q ≠ k.b → q ≠ k.p → q ≠ k.s → q ≠ k.ch → some q ≠ vq.ownBlock → W'.heap[q]? = W.heap[q]?
  at_ : vq'.ownBlock = vq.ownBlock ∨ ∃ b,vq'.ownBlock = some b ∧ W.heap.size ≤ b
theorem GoB.trans {k : CB} {a b c : World} {u v x : Value} (h : GoB k a b u v) (i : GoB k b c v x) : GoB k a c u x:=by
  refine ⟨Nat.le_trans h.size i.size,fun q h1 h2 h3 h4 h5 h6 => (i.keep q (Nat.lt_of_lt_of_le h1 h.size) h2 h3 h4 h5 ?_).trans (h.keep q h1 h2 h3 h4 h5 h6),?_⟩
  · rcases h.at_ with e | ⟨d,e,hd⟩
    · rw [e];exact h6
    · rw [e]
      intro he
      injection he with he
      omega
  · rcases i.at_ with e | ⟨d,e,hd⟩
    · rw [e];exact h.at_
    · exact .inr ⟨d,e,Nat.le_trans h.size hd⟩
theorem GoB.below {k : CB} {W W' : World} (h : Below W.heap.size W W') (u : Value) : GoB k W W' u u:=⟨h.size,fun q hq _ _ _ _ _ => h.block q hq,.inl rfl⟩
theorem GoB.set {k : CB} (W : World) (p i : Nat) (x u : Value) (hp : p = k.b ∨ p = k.p ∨ p = k.s) : GoB k W (W.setCell ⟨p,i,none⟩ x) u u :=
  ⟨by simp [World.setCell],fun q _ h1 h2 h3 _ _ => Below.heap_setCell W ⟨p,i,none⟩ x q (by show q ≠ p;rcases hp with rfl | rfl | rfl <;> assumption),.inl rfl⟩
theorem GoB.appd {k : CB} {α : Type} {d : Kd α} {e base : Nat} {ok : Nat → Prop} {w0 W w1 : World} {v v1 : Value} {xs : List α} (A : Appd d e w0 W base ok v xs v1 w1) : GoB k W w1 v v1:=⟨A.grown.size,fun q hq _ _ _ _ h => A.grown.block q hq h,A.at_⟩
section
variable {bf : Array Value} {w0 W W1 : World} {k : CB} {g : Gram} {n r : Nat} {vq : Value} {s : ChS}
theorem GoB.box {vq' : Value} (h : GoB k W W1 vq vq') {q : Nat} {o : Obj} (ho : W.heap[q]? = some o) (hn : q ≠ k.b ∧ q ≠ k.p ∧ q ≠ k.s ∧ q ≠ k.ch) (hv : some q ≠ vq.ownBlock) : W1.heap[q]? = some o ∧ some q ≠ vq'.ownBlock:=by
  have hlt:=(Array.getElem?_eq_some_iff.1 ho).1
  refine ⟨(h.keep q hlt hn.1 hn.2.1 hn.2.2.1 hn.2.2.2 hv).trans ho,?_⟩
  rcases h.at_ with e | ⟨d,e,hd⟩
  · rw [e];exact hv
  · rw [e]
    intro he
    injection he with he
    omega
theorem CMb.below_ (h : CMb bf w0 W k g n vq s r) (hb : Below W.heap.size W W1) : CMb bf w0 W1 k g n vq s r :=
  ⟨blk_below h.o hb,h.sy.below hb,h.pa.below hb,h.sp,h.ls,h.lp,Kd.R_below h.ba hb,Kd.R_below h.q hb,by obtain ⟨z,hc⟩:=h.ch;exact ⟨z,heap_below hc hb⟩,below_then h.below h.below.size hb,h.lo,h.g⟩
theorem blk_ty_ne {W : World} {a b ta tb : Nat} {xa xb : Array Value} (ha : W.heap[a]? = some (.cells xa ta (0,0))) (hb : W.heap[b]? = some (.cells xb tb (0,0))) (h : ta ≠ tb) : a ≠ b:=by
  rintro rfl
  rw [ha] at hb
  injection hb with hb
  injection hb with _ hb _
  exact h hb
theorem blk_ch_ne {W : World} {a c ta : Nat} {xa buf : Array Value} {cap z r : Nat} {cl tm : Bool} (ha : W.heap[a]? = some (.cells xa ta (0,0))) (hc : W.heap[c]? = some (.chan cap buf cl z r tm)) : a ≠ c:=by
  rintro rfl
  rw [ha] at hc
  injection hc with hc
  cases hc
theorem set_heap_far {W : World} {b c i : Nat} {u : Value} {o : Obj} (h : W.heap[c]? = some o) (hne : c ≠ b) : (W.setCell ⟨b,i,none⟩ u).heap[c]? = some o:=(Below.heap_setCell W ⟨b,i,none⟩ u c hne).trans h
theorem CMb.setP (h : CMb bf w0 W k g n vq s r) (ix : Nat) : CMb bf w0 (W.setCell ⟨k.p,ix,none⟩ (.bool true)) k g n vq { s with pa:=s.pa.set ix true } r:=by
  have hp : W.heap[k.p]? = some (.cells (s.pa.map Value.bool).toArray 4 (0,0)):=h.pa
  obtain ⟨z,hc⟩:=h.ch
  exact ⟨set_heap_far h.o (blk_ty_ne h.o hp (by decide)),set_heap_far h.sy h.sp,h.pa.set ix true,h.sp,h.ls,by simp only;rw [List.length_set];exact h.lp,R_setOther h.ba hp (by decide) ix _,R_setOther h.q hp (by decide) ix _,⟨z,set_heap_far hc (Ne.symm (blk_ch_ne hp hc))⟩,below_set h.below h.lo.2.2.1 _ _,h.lo,h.g⟩
theorem CMb.setS (h : CMb bf w0 W k g n vq s r) (ix : Nat) : CMb bf w0 (W.setCell ⟨k.s,ix,none⟩ (.bool true)) k g n vq { s with sy:=s.sy.set ix true } r:=by
  have hp : W.heap[k.s]? = some (.cells (s.sy.map Value.bool).toArray 4 (0,0)):=h.sy
  obtain ⟨z,hc⟩:=h.ch
  exact ⟨set_heap_far h.o (blk_ty_ne h.o hp (by decide)),h.sy.set ix true,set_heap_far h.pa (Ne.symm h.sp),h.sp,by simp only;rw [List.length_set];exact h.ls,h.lp,R_setOther h.ba hp (by decide) ix _,R_setOther h.q hp (by decide) ix _,⟨z,set_heap_far hc (Ne.symm (blk_ch_ne hp hc))⟩,below_set h.below h.lo.2.1 _ _,h.lo,h.g⟩
theorem CMb.setQ (h : CMb bf w0 W k g n vq s r) {vq' : Value} {q' : List PN} (hq : kPN.R 30 W w0.heap.size (fun _ => True) vq' q') : CMb bf w0 (W.setCell ⟨k.b,7,none⟩ vq') k g n vq' { s with q:=q' } r:=by
  obtain ⟨z,hc⟩:=h.ch
  have hs : W.heap[k.s]? = some (.cells (s.sy.map Value.bool).toArray 4 (0,0)):=h.sy
  have hp : W.heap[k.p]? = some (.cells (s.pa.map Value.bool).toArray 4 (0,0)):=h.pa
  exact ⟨(blk_set h.o 7 vq').trans (by rfl),set_heap_far h.sy (Ne.symm (blk_ty_ne h.o hs (by decide))),set_heap_far h.pa (Ne.symm (blk_ty_ne h.o hp (by decide))),h.sp,h.ls,h.lp,R_setOther h.ba h.o (by decide) 7 _,R_setOther hq h.o (by decide) 7 _,⟨z,set_heap_far hc (Ne.symm (blk_ch_ne h.o hc))⟩,below_set h.below h.lo.1 _ _,h.lo,h.g⟩
theorem CMb.grown {q' : List PN} {vq' : Value} {w1 : World} (h : CMb bf w0 W k g n vq s r) (A : Appd kPN 30 w0 W w0.heap.size (fun _ => True) vq q' vq' w1) : CMb bf w0 (w1.setCell ⟨k.b,7,none⟩ vq') k g n vq' { s with q:=q' } r:=by
  obtain ⟨z,hc⟩:=h.ch
  have hs : W.heap[k.s]? = some (.cells (s.sy.map Value.bool).toArray 4 (0,0)):=h.sy
  have hp : W.heap[k.p]? = some (.cells (s.pa.map Value.bool).toArray 4 (0,0)):=h.pa
  have ho:=blk_grown h.o A.grown (Kd.R_ne h.q h.o (by decide))
  have hs1:=blk_grown hs A.grown (Kd.R_ne h.q hs (by decide))
  have hp1:=blk_grown hp A.grown (Kd.R_ne h.q hp (by decide))
  have hne : some k.ch ≠ vq.ownBlock:=fun e => by
    obtain ⟨inner,ho⟩:=Kd.R_own h.q
    obtain ⟨cells,hx⟩:=own_typed ho k.ch e.symm
    rw [hc] at hx
    injection hx with hx
    cases hx
  have hc1 : w1.heap[k.ch]? = some (.chan 1 bf false z r false):=(A.grown.block k.ch (Array.getElem?_eq_some_iff.1 hc).1 hne).trans hc
  have hb1:=Kd.R_over h.ba h.q (by decide) A.grown
  exact ⟨(blk_set ho 7 vq').trans (by rfl),set_heap_far hs1 (Ne.symm (blk_ty_ne ho hs1 (by decide))),set_heap_far hp1 (Ne.symm (blk_ty_ne ho hp1 (by decide))),h.sp,h.ls,h.lp,R_setOther hb1 ho (by decide) 7 _,R_setOther A.row ho (by decide) 7 _,⟨z,set_heap_far hc1 (Ne.symm (blk_ch_ne ho hc1))⟩,below_set A.below h.lo.1 _ _,h.lo,h.g⟩
theorem CMb.setC (h : CMb bf w0 W k g n vq s r) (bf' : Array Value) (z' r' : Nat) : CMb bf' w0 (W.setChan k.ch 1 bf' false z' r' false) k g n vq s r':=by
  obtain ⟨z,hc⟩:=h.ch
  have hs : W.heap[k.s]? = some (.cells (s.sy.map Value.bool).toArray 4 (0,0)):=h.sy
  have hp : W.heap[k.p]? = some (.cells (s.pa.map Value.bool).toArray 4 (0,0)):=h.pa
  have hlt:=(Array.getElem?_eq_some_iff.1 hc).1
  have far : ∀ {q : Nat} {o : Obj},W.heap[q]? = some o → k.ch ≠ q → (W.setChan k.ch 1 bf' false z' r' false).heap[q]? = some o:=fun h1 h2 => chan_far h1 h2
  have hR : ∀ {α : Type} {d : Kd α} {e : Nat} {v : Value} {xs : List α},d.R e W w0.heap.size (fun _ => True) v xs → d.R e (W.setChan k.ch 1 bf' false z' r' false) w0.heap.size (fun _ => True) v xs:=fun {α d e v xs} hr =>
    Kd.R_mono (Kd.R_step (Kd.R_bound hr) (fun q hq _ => by
      obtain ⟨_,_,_,_,_,cells,hx⟩:=hq
      rw [hx]
      exact far hx (Ne.symm (blk_ch_ne hx hc)))) (fun _ hk => hk.1)
  exact ⟨far h.o (Ne.symm (blk_ch_ne h.o hc)),far hs (Ne.symm (blk_ch_ne hs hc)),far hp (Ne.symm (blk_ch_ne hp hc)),h.sp,h.ls,h.lp,hR h.ba,hR h.q,⟨z',heap_setChan _ _ _ _ _ _ _ _ hlt⟩,below_setChan h.below h.lo.2.2.2 _ _ _ _ _ _,h.lo,h.g⟩
theorem CMb.fresh (h : CMb bf w0 W k g n vq s r) : (W.heap.size ≠ k.b ∧ W.heap.size ≠ k.p ∧ W.heap.size ≠ k.s ∧ W.heap.size ≠ k.ch) ∧ some W.heap.size ≠ vq.ownBlock:=by
  obtain ⟨z,hc⟩:=h.ch
  have h1:=blk_lt h.o
  have h2 : k.p < W.heap.size:=blk_lt h.pa
  have h3 : k.s < W.heap.size:=blk_lt h.sy
  have h4:=(Array.getElem?_eq_some_iff.1 hc).1
  refine ⟨⟨by omega,by omega,by omega,by omega⟩,fun e => ?_⟩
  obtain ⟨inner,ho⟩:=Kd.R_own h.q
  have:=own_lt ho _ e.symm
  omega
end
end Go.Proofs.Ytmkgcjhimajgiaa


set_option linter.unusedVariables false
set_option linter.unusedSimpArgs false
namespace Go.Proofs.Ytmkgcjhimajgiaa
open Go.RowKit Go.Proofs.YtmkgcjhimajgiaaW.PrintWords Go.Proofs.YtmkgcjhimajgiaaW.PrintLast

/-- A chart's struct: what is read of it. -/
def chO (k : CB) (g : Gram) (n : Nat) (vq : Value) : Obj:=.cells #[.slice k.A1 g.terms.length k.c1,.slice k.A2 g.names.length k.c2,.slice k.A3 g.rules.length k.c3,.int .i64 n,.slice (some ⟨k.s,0,none⟩) k.ls k.ls,.slice (some ⟨k.p,0,none⟩) k.lp k.lp,.slice k.B g.rules.length k.cb,vq,.chan (some k.ch)] 97 (0,0)
set_option maxRecDepth 100000 in
set_option maxHeartbeats 4000000 in
theorem at_c (b n : Nat) (ri ii ji : Int) (row i j : Nat) (W : World) {t : TypeId} {cs : Array Value} (ho : W.cell? ⟨b,3,none⟩ = some (.int .i64 n)) (hn : n ≤ 50) (hr : ri = row) (hi : ii = i) (hj : ji = j) (h1 : row ≤ 100000) (h2 : i ≤ 50) (h3 : j ≤ 50) :
    Calls Try.prog 46 #[.pointer (some ⟨b,0,none⟩),.int .i64 ri,.int .i64 ii,.int .i64 ji] W fun e W' => e = .returned (.int .i64 (atF n row i j : Nat)) ∧ Below W.heap.size W W':=by
  subst hr hi hj
  obtain ⟨m,hm⟩ : ∃ m,m = n + 1:=⟨_,rfl⟩
  have e0 : IntKind.i64.wrap ((n : Int) + 1) = (m : Int):=by rw [IntWalk.i64_in _ (by omega)];omega
  obtain ⟨x,hx⟩ : ∃ x,x = row * m:=⟨_,rfl⟩
  have x1 : x ≤ 5100000:=by have:=Nat.mul_le_mul h1 (show m ≤ 51 by omega);omega
  have e1 : IntKind.i64.wrap ((row : Int) * (m : Int)) = (x : Int):=by rw [← Int.natCast_mul,← hx,IntWalk.i64_in _ (by omega)]
  obtain ⟨y,hy⟩ : ∃ y,y = (x + i) * m:=⟨_,rfl⟩
  have y1 : y ≤ 300000000:=by have:=Nat.mul_le_mul (show x + i ≤ 5100050 by omega) (show m ≤ 51 by omega);omega
  have e2 : IntKind.i64.wrap ((x : Int) + (i : Int)) = ((x + i : Nat) : Int):=by rw [IntWalk.i64_in _ (by omega)];omega
  have e3 : IntKind.i64.wrap (((x + i : Nat) : Int) * (m : Int)) = (y : Int):=by rw [← Int.natCast_mul,← hy,IntWalk.i64_in _ (by omega)]
  have e4 : IntKind.i64.wrap ((y : Int) + (j : Int)) = ((atF n row i j : Nat) : Int):=by unfold atF;rw [← hm,← hx,← hy,IntWalk.i64_in _ (by omega)];omega
  obtain ⟨z,hz⟩ : ∃ z,z = atF n row i j:=⟨_,rfl⟩
  rw [← hz] at e4 ⊢
  obtain ⟨xi,hxi⟩ : ∃ xi,xi = x + i:=⟨_,rfl⟩
  rw [← hxi] at e2 e3
  have HO:=Aside0.mk ho
  clear hm hx hy hz hxi ho x1 y1
  go_enter Try.func46,Try.ntmps46
  go_wp2
  refine start_ (n:=18) (S:=fun w' => Below W.heap.size W w') (ds:=[]) (lb 18 0x0) (by kernel_rfl) rfl (by kernel_rfl) (below_drew1 (Below.refl _ _)) (fun hHeld => ?_)
  refine pu_ ?_ ?_ 0 (some 9) (lb 18 0x1) ?_
  refine pu_ ?_ ?_ 1 (some 10) (lb 18 0x3) ?_
  refine pu_ ?_ ?_ 2 (some 11) (lb 18 0x7) ?_
  refine pu_ ?_ ?_ 3 (some 12) (lb 18 0xf) ?_
  refine pu_ ?_ ?_ 7 (some 16) (lb 18 0x8f) ?_
  refine pu_ ?_ ?_ 9 (some 18) (lb 18 0x28f) ?_
  refine pu_ ?_ ?_ 10 (some 19) (lb 18 0x68f) ?_
  refine pu_ ?_ ?_ 11 (some 20) (lb 18 0xe8f) ?_
  refine pu_ ?_ ?_ 15 (some 24) (lb 18 0x8e8f) ?_
  refine ta_ ?_ ?_ 4 (some 13) (lb 18 0x8e9f) hHeld ?_ (y:=by rintro w' hS;have d0:=cell_at hS HO.out;go_simp;with_reducible rfl)
  refine pu_ ?_ ?_ 5 (some 14) (lb 18 0x8ebf) ?_
  refine pu_ ?_ ?_ 6 (some 15) (lb 18 0x8eff) ?_
  refine pu_ ?_ ?_ 8 (some 17) (lb 18 0x8fff) ?_
  refine ta_ ?_ ?_ 12 (some 21) (lb 18 0x9fff) hHeld ?_ (y:=by rintro w' hS;have d0:=cell_at hS HO.out;go_simp;with_reducible rfl)
  refine pu_ ?_ ?_ 13 (some 22) (lb 18 0xbfff) ?_
  refine pu_ ?_ ?_ 14 (some 23) (lb 18 0xffff) ?_
  refine pu_ ?_ ?_ 16 (some 25) (lb 18 0x1ffff) ?_
  refine pu_ ?_ ?_ 17 (some 8) (lb 18 0x3ffff) ?_
  refine done_ (by kernel_rfl) ?_
  go_wp2
  go_ret
  exact ⟨rfl,hHeld⟩
set_option maxRecDepth 100000 in
set_option maxHeartbeats 4000000 in
theorem in_c (b n : Nat) (i j : Int) (W : World) (ho : W.cell? ⟨b,3,none⟩ = some (.int .i64 n)) {v : Bool} (hv : (decide (0 ≤ i) && decide (0 ≤ j) && decide (i ≤ n) && decide (j ≤ n)) = v) :
    Calls Try.prog 51 #[.pointer (some ⟨b,0,none⟩),.int .i64 i,.int .i64 j] W fun e W' => e = .returned (.bool v) ∧ W = W':=by
  subst hv
  by_cases h1 : 0 ≤ i <;> by_cases h2 : 0 ≤ j <;> by_cases h3 : i ≤ n <;> by_cases h4 : j ≤ n
  all_goals
    go_enter Try.func51,Try.ntmps51
    go_wp2
    go_ret
    exact ⟨ret_bool (by simp [h1,h2,h3,h4]),rfl⟩
set_option maxRecDepth 100000 in
set_option maxHeartbeats 4000000 in
theorem right_c (b : Nat) (A3 : Option Addr) (c3 : Nat) (l : List Rule) (i : Nat) (hi : i < l.length) (w0 W : World) (hb : Below w0.heap.size w0 W) (ho : W.cell? ⟨b,2,none⟩ = some (.slice A3 l.length c3)) (hr : kRule.C w0 A3 l.length l) :
    Calls Try.prog 52 #[.pointer (some ⟨b,0,none⟩),.int .i64 (i : Nat)] W fun e W' => (∃ A c,e = .returned (.slice A (l[i]'hi).right.length c) ∧ kInt.C w0 A (l[i]'hi).right.length (l[i]'hi).right) ∧ W = W':=by
  obtain ⟨ad,A1,c1,ead,hx0,hy0,hc,hC⟩:=at_rule hr i hi
  cases ead
  have hx:=pw_cell_below hb hx0
  have hy:=pw_cell_below hb hy0
  have i2 : (i : Int) < (l.length : Int):=by omega
  have HC:=Aside0.mk hC
  clear hr hC hx0 hy0 hb
  go_enter Try.func52,Try.ntmps52
  go_wp2
  go_ret
  exact ⟨⟨_,_,rfl,HC.out⟩,rfl⟩
end Go.Proofs.Ytmkgcjhimajgiaa


set_option linter.unusedVariables false
set_option linter.unusedSimpArgs false
namespace Go.Proofs.Ytmkgcjhimajgiaa
open Go.RowKit Go.Proofs.YtmkgcjhimajgiaaW.PrintWords Go.Proofs.YtmkgcjhimajgiaaW.PrintLast

theorem app_pn_step {ops : Array Oper} {o : Oper} {a : Act} {Q : Exit → Act → World → Prop} {Kc : Act → World → Prop} {base : Nat} {w0 W : World} {v : Value} {ok : Nat → Prop} {s x : Operand} {xs : List PN} {p : PN} (hw : Region.wanted o (yielded ops a.tmps) = true) (ho : o.op = .call { callee:=.builtin .append,args:=#[s,x],argTypes:=#[93,93] })
    (HO : kPN.R 30 W base ok v xs) (HB : Below base w0 W) (hbase : base ≤ W.heap.size) (hl : xs.length + 1 ≤ 4000000000000) (hfresh : ∀ k,W.heap.size ≤ k → ok k) (hs : a.eval s = v) (hx : a.eval x = .slice (some ⟨W.heap.size,0,none⟩) 1 1)
    (h : ∀ v1 w1,Appd kPN 30 w0 W base ok v (xs ++ [p]) v1 w1 → Kc (a.put o.dst v1) w1) :
    if Region.wanted o (yielded ops a.tmps) = true then Oper.wp Try.prog o a (W.alloc (.cells #[.int .i64 p.r,.int .i64 p.d,.int .i64 p.i,.int .i64 p.j] 30)) Kc Q else Kc (a.put o.dst undef) (W.alloc (.cells #[.int .i64 p.r,.int .i64 p.d,.int .i64 p.i,.int .i64 p.j] 30)) :=
  Kd.R_append_step kPN base hw s x 93 30 _ 32 ho Try.underlying93 infoPart rfl (show 0 < 4 by decide) (by decide) v xs p [.int .i64 p.r,.int .i64 p.d,.int .i64 p.i,.int .i64 p.j] ok (fun _ => False) hs hx (M_pn _ _ _ p) (fun _ h => h.elim) hfresh HO HB hbase (by omega) (fun v1 w1 h1 h2 h3 h4 => h v1 w1 ⟨h1,h2,h3,h4⟩)
set_option maxRecDepth 100000 in
set_option maxHeartbeats 4000000 in
theorem put_c (w0 W : World) (k : CB) (g : Gram) (n r : Nat) (vq : Value) (s : ChS) (p : PN) (h : CM w0 W k g n vq s r) (hq : s.q.length ≤ 4000000) :
    Calls Try.prog 81 #[.pointer (some ⟨k.b,7,none⟩),valP p] W fun e W' => e = .returned (.tuple #[]) ∧ ∃ vq',CM w0 W' k g n vq' { s with q:=s.q ++ [p] } r ∧ GoB k W W' vq vq':=by
  have H:=Aside0.mk (h.below_ (below_alloc (Below.refl _ _) (.cells #[.int .i64 p.r,.int .i64 p.d,.int .i64 p.i,.int .i64 p.j] 30 (0,0))))
  have HX:=Aside0.mk (blk_new W (.cells #[.int .i64 p.r,.int .i64 p.d,.int .i64 p.i,.int .i64 p.j] 30 (0,0)))
  have HQL:=Aside0.mk hq
  have HG0:=Aside0.mk (GoB.below (k:=k) (below_alloc (Below.refl W.heap.size W) (.cells #[.int .i64 p.r,.int .i64 p.d,.int .i64 p.i,.int .i64 p.j] 30 (0,0))) vq)
  clear h hq
  go_enter Try.func81,Try.ntmps81
  go_wp2
  obtain ⟨q0,hq0⟩ : ∃ q0,q0 = W.heap.size:=⟨_,rfl⟩
  obtain ⟨W1,hW1⟩ : ∃ W1,W1 = W.alloc (.cells #[.int .i64 p.r,.int .i64 p.d,.int .i64 p.i,.int .i64 p.j] 30 (0,0)):=⟨_,rfl⟩
  simp only [← hq0] at *
  rw [← hW1] at H HX HG0 ⊢
  have HK:=Aside0.mk H.out.o
  clear hq0 hW1
  refine start_ (n:=11) (S:=fun w' => Below W1.heap.size W1 w') (ds:=[7,10]) (lb 11 0x0) (by kernel_rfl) rfl (by kernel_rfl) (below_drew1 (Below.refl _ _)) (fun hHeld => ?_)
  refine pu_ ?_ ?_ 0 (some 4) (lb 11 0x1) ?_
  refine pu_ ?_ ?_ 1 (some 5) (lb 11 0x3) ?_
  refine pu_ ?_ ?_ 2 (some 6) (lb 11 0x7) ?_
  refine pu_ ?_ ?_ 3 (some 7) (lb 11 0xf) ?_
  refine ta_ ?_ ?_ 4 (some 8) (lb 11 0x1f) hHeld ?_ (y:=by rintro w' hS;have d0:=(blk_cell (blk_below HK.out hS) 7).trans rfl;have x0:=(blk_cell (blk_below HX.out hS) 0).trans rfl;have x1:=(blk_cell (blk_below HX.out hS) 1).trans rfl;have x2:=(blk_cell (blk_below HX.out hS) 2).trans rfl;have x3:=(blk_cell (blk_below HX.out hS) 3).trans rfl;go_simp;with_reducible rfl)
  refine ta_ ?_ ?_ 5 (some 9) (lb 11 0x3f) hHeld ?_ (y:=by rintro w' hS;have d0:=(blk_cell (blk_below HK.out hS) 7).trans rfl;have x0:=(blk_cell (blk_below HX.out hS) 0).trans rfl;have x1:=(blk_cell (blk_below HX.out hS) 1).trans rfl;have x2:=(blk_cell (blk_below HX.out hS) 2).trans rfl;have x3:=(blk_cell (blk_below HX.out hS) 3).trans rfl;go_simp;with_reducible rfl)
  refine on_ 6 (some 10) (lb 11 0x7f) (fun K hK => ?_)
  refine va_ ?_ ?_ ?_
  (have H2:=Aside0.mk (H.out.below_ hHeld);have HG1:=Aside0.mk (HG0.out.trans (GoB.below hHeld vq));skip)
  refine hK.out _ _ (below_alloc hHeld _) (fun hHeld => ?_)
  clear hK K
  refine nm_ ?_ (some 10) ?_
  refine ls_ 7 (some 11) (lb 11 0xff) (fun K hK => ?_)
  (refine app_pn_step (p:=p) (base:=w0.heap.size) (w0:=w0) (ok:=fun _ => True) (by rfl) rfl H2.out.q H2.out.below H2.out.below.size (by have:=HQL.out;omega) (fun _ _ => trivial) (by simp [Act.eval]) (by simp [Act.eval]) ?_;intro v4 w4 A4;obtain ⟨Av4,cv4,rfl⟩:=A4.shape;have HA:=Aside0.mk (H2.out.grown A4);have HGA:=Aside0.mk ((HG1.out.trans (GoB.appd A4)).trans (GoB.set _ k.b 7 (.slice Av4 (s.q.length + 1) cv4) (.slice Av4 (s.q.length + 1) cv4) (.inl rfl)));have hh:=blk_grown H2.out.o A4.grown (Kd.R_ne H2.out.q H2.out.o (by decide));have d4:=blk_cell hh 7;have f4:=blk_frozen hh 7;simp only [List.getElem?_toArray,List.getElem?_cons_zero,List.getElem?_cons_succ] at d4;clear A4 hh)
  refine hK.out _ _ ?_
  clear hK K
  refine nm_ ?_ (some 11) ?_
  refine pu_ ?_ ?_ 8 (some 12) (lb 11 0x1ff) ?_
  refine pu_ ?_ ?_ 9 (some 13) (lb 11 0x3ff) ?_
  refine ls_ 10 none (lb 11 0x7ff) (fun K hK => ?_)
  skip
  refine skip_ (w1:=?_) (by rfl) rfl ?_ ?_
  rotate_left
  · (go_simp;first | rfl | (constructor;rfl;rfl))
  refine hK.out _ _ ?_
  clear hK K
  refine done_ (by kernel_rfl) ?_
  go_wp2
  refine bodyPost_end (results_none rfl _ _ _) rfl ?_
  exact ⟨rfl,_,HA.out,HGA.out⟩
/-- What the walks of a chart that is made know of it. -/
structure PB (k : CB) (g : Gram) (n : Nat) : Prop where
  gd : goodF g = true
  nn : n ≤ 40
  ls : k.ls = nsym g * ((n + 1) * (n + 1))
  lp : k.lp = rowsF g * ((n + 1) * (n + 1))
theorem PB.row {k : CB} {g : Gram} {n : Nat} (h : PB k g n) {r d : Nat} (hr : r < g.rules.length) (hd : d ≤ (rightR g r).length) : baseF g r + d ≤ 600 ∧ (rightR g r).length ≤ 8:=by
  obtain ⟨q1,q2,q3,q4⟩:=goodF_small h.gd
  have h1:=rowsF_max (g:=g) (fun r hr => (goodF_mem h.gd r hr).2.2.1) r (by omega)
  have h2:=(goodF_mem h.gd (g.rules[r]'hr) (List.getElem_mem _)).2.2.1
  rw [rightR_at hr] at hd ⊢
  omega
theorem PB.max {k : CB} {g : Gram} {n : Nat} (h : PB k g n) : k.lp ≤ 1000000 ∧ k.ls ≤ 200000:=by
  obtain ⟨q1,q2,q3,q4⟩:=goodF_small h.gd
  have h1 : rowsF g ≤ 9 * g.rules.length:=rowsF_max (g:=g) (fun r hr => (goodF_mem h.gd r hr).2.2.1) _ (Nat.le_refl _)
  have h2 : (n + 1) * (n + 1) ≤ 41 * 41:=Nat.mul_le_mul (by have:=h.nn;omega) (by have:=h.nn;omega)
  have h3:=Nat.mul_le_mul (show rowsF g ≤ 540 by omega) h2
  have h4:=Nat.mul_le_mul (show nsym g ≤ 80 by unfold nsym;omega) h2
  rw [h.lp,h.ls]
  omega
theorem baseL_at {g : Gram} {i : Nat} (h : i < g.rules.length) : (baseL g)[i]'(by simp [baseL];exact h) = (baseF g i : Int):=by simp [baseL]
theorem CMb.base_ {w0 W : World} {k : CB} {g : Gram} {n r : Nat} {vq : Value} {s : ChS} (h : CM w0 W k g n vq s r) {i : Nat} (hi : i < g.rules.length) : ∃ ad,k.B = some ad ∧ W.cell? (ad.add i) = some (.int .i64 (baseF g i : Nat)):=by
  obtain ⟨_,_,hC⟩:=Kd.R_reads' h.ba
  obtain ⟨ad,e,hc⟩:=at_int hC i (by simp [baseL];exact hi)
  rw [baseL_at hi] at hc
  exact ⟨ad,e,hc⟩
set_option maxRecDepth 100000 in
set_option maxHeartbeats 4000000 in
theorem part_c (w0 W : World) (k : CB) (g : Gram) (n r : Nat) (vq : Value) (s : ChS) (p : PN) (hb : PB k g n) (hp : p.ok g n) (h : CM w0 W k g n vq s r) (hq : s.q.length ≤ 4000000) :
    Calls Try.prog 47 #[.pointer (some ⟨k.b,0,none⟩),valP p] W fun e W' => e = .returned (.tuple #[]) ∧ ∃ vq',CM w0 W' k g n vq' (partF g n s p) r ∧ GoB k W W' vq vq':=by
  obtain ⟨pr,pd,pi,pj⟩:=p
  obtain ⟨h1,h2,h3,h4⟩:=hp
  simp only at h1 h2 h3 h4
  have HOK : Aside0 (PN.ok g n ⟨pr,pd,pi,pj⟩):=⟨⟨h1,h2,h3,h4⟩⟩
  obtain ⟨hrow,_⟩:=hb.row h1 h2
  have hn:=hb.nn
  have HB:=Aside0.mk hb
  have HQL:=Aside0.mk hq
  have H:=Aside0.mk (h.below_ (below_alloc (Below.refl _ _) (.cells #[.int .i64 pr,.int .i64 pd,.int .i64 pi,.int .i64 pj] 30 (0,0))))
  have HX:=Aside0.mk (blk_new W (.cells #[.int .i64 pr,.int .i64 pd,.int .i64 pi,.int .i64 pj] 30 (0,0)))
  obtain ⟨x0,hx0⟩ : ∃ x0,x0 = W.heap.size:=⟨_,rfl⟩
  obtain ⟨W1,hW1⟩ : ∃ W1,W1 = W.alloc (.cells #[.int .i64 pr,.int .i64 pd,.int .i64 pi,.int .i64 pj] 30 (0,0)):=⟨_,rfl⟩
  have HG0:=Aside0.mk (GoB.below (k:=k) (below_alloc (Below.refl W.heap.size W) (.cells #[.int .i64 pr,.int .i64 pd,.int .i64 pi,.int .i64 pj] 30 (0,0))) vq)
  rw [← hW1] at H HG0
  rw [← hW1,← hx0] at HX
  have HW:=Lib.hid hW1
  have HX0:=Lib.hid hx0
  obtain ⟨ad,ead,hbc⟩:=H.out.base_ h1
  have ho:=H.out.o
  rw [ead] at ho
  have HK:=Aside0.mk ho
  have HBC:=Aside0.mk hbc
  obtain ⟨bz,hbz⟩ : ∃ bz,bz = baseF g pr:=⟨_,rfl⟩
  have hix : ixP g n ⟨pr,pd,pi,pj⟩ = atF n (bz + pd) pi pj:=by rw [hbz];rfl
  rw [← hbz] at HBC hrow
  have e1 : IntKind.i64.wrap ((bz : Int) + (pd : Int)) = ((bz + pd : Nat) : Int):=by rw [IntWalk.i64_in _ (by omega)];omega
  have hlt:=ixP_lt HOK.out
  obtain ⟨z,hz⟩ : ∃ z,z = atF n (bz + pd) pi pj:=⟨_,rfl⟩
  rw [hix,← hz,← hb.lp] at hlt
  rw [← hz] at hix
  have HIX:=Lib.hid hix
  have HZ:=Lib.hid hz
  have i2 : (z : Int) < (k.lp : Int):=by omega
  have b2 : (pr : Int) < (g.rules.length : Int):=by omega
  clear h hb hq hW1 hx0 hbc hbz hix hz ead ho
  go_enter Try.func47,Try.ntmps47
  go_wp2
  simp only [← HX0.out,← HW.out]
  refine start_ (n:=18) (S:=fun w' => Below W1.heap.size W1 w') (ds:=[]) (lb 18 0x0) (by kernel_rfl) rfl (by kernel_rfl) (below_drew1 (Below.refl _ _)) (fun hHeld => ?_)
  refine pu_ ?_ ?_ 0 (some 5) (lb 18 0x1) ?_
  refine pu_ ?_ ?_ 1 (some 6) (lb 18 0x3) ?_
  refine pu_ ?_ ?_ 2 (some 7) (lb 18 0x7) ?_
  refine pu_ ?_ ?_ 3 (some 8) (lb 18 0xf) ?_
  refine pu_ ?_ ?_ 5 (some 10) (lb 18 0x2f) ?_
  refine pu_ ?_ ?_ 9 (some 14) (lb 18 0x22f) ?_
  refine pu_ ?_ ?_ 12 (some 17) (lb 18 0x122f) ?_
  refine pu_ ?_ ?_ 14 (some 19) (lb 18 0x522f) ?_
  refine ta_ ?_ ?_ 4 (some 9) (lb 18 0x523f) hHeld ?_ (y:=by rintro w' hS;have d0:=(blk_cell (blk_below HK.out hS) 0).trans rfl;have d1:=(blk_cell (blk_below HK.out hS) 1).trans rfl;have d2:=(blk_cell (blk_below HK.out hS) 2).trans rfl;have d3:=(blk_cell (blk_below HK.out hS) 3).trans rfl;have d4:=(blk_cell (blk_below HK.out hS) 4).trans rfl;have d5:=(blk_cell (blk_below HK.out hS) 5).trans rfl;have d6:=(blk_cell (blk_below HK.out hS) 6).trans rfl;have d7:=(blk_cell (blk_below HK.out hS) 7).trans rfl;have d8:=(blk_cell (blk_below HK.out hS) 8).trans rfl;have d9:=(blk_cell (blk_below HX.out hS) 0).trans rfl;have d10:=(blk_cell (blk_below HX.out hS) 1).trans rfl;have d11:=(blk_cell (blk_below HX.out hS) 2).trans rfl;have d12:=(blk_cell (blk_below HX.out hS) 3).trans rfl;have d13:=cell_at hS HBC.out;go_simp;with_reducible rfl)
  refine ta_ ?_ ?_ 6 (some 11) (lb 18 0x527f) hHeld ?_ (y:=by rintro w' hS;have d0:=(blk_cell (blk_below HK.out hS) 0).trans rfl;have d1:=(blk_cell (blk_below HK.out hS) 1).trans rfl;have d2:=(blk_cell (blk_below HK.out hS) 2).trans rfl;have d3:=(blk_cell (blk_below HK.out hS) 3).trans rfl;have d4:=(blk_cell (blk_below HK.out hS) 4).trans rfl;have d5:=(blk_cell (blk_below HK.out hS) 5).trans rfl;have d6:=(blk_cell (blk_below HK.out hS) 6).trans rfl;have d7:=(blk_cell (blk_below HK.out hS) 7).trans rfl;have d8:=(blk_cell (blk_below HK.out hS) 8).trans rfl;have d9:=(blk_cell (blk_below HX.out hS) 0).trans rfl;have d10:=(blk_cell (blk_below HX.out hS) 1).trans rfl;have d11:=(blk_cell (blk_below HX.out hS) 2).trans rfl;have d12:=(blk_cell (blk_below HX.out hS) 3).trans rfl;have d13:=cell_at hS HBC.out;go_simp;with_reducible rfl)
  refine pu_ ?_ ?_ 7 (some 12) (lb 18 0x52ff) ?_
  refine ta_ ?_ ?_ 8 (some 13) (lb 18 0x53ff) hHeld ?_ (y:=by rintro w' hS;have d0:=(blk_cell (blk_below HK.out hS) 0).trans rfl;have d1:=(blk_cell (blk_below HK.out hS) 1).trans rfl;have d2:=(blk_cell (blk_below HK.out hS) 2).trans rfl;have d3:=(blk_cell (blk_below HK.out hS) 3).trans rfl;have d4:=(blk_cell (blk_below HK.out hS) 4).trans rfl;have d5:=(blk_cell (blk_below HK.out hS) 5).trans rfl;have d6:=(blk_cell (blk_below HK.out hS) 6).trans rfl;have d7:=(blk_cell (blk_below HK.out hS) 7).trans rfl;have d8:=(blk_cell (blk_below HK.out hS) 8).trans rfl;have d9:=(blk_cell (blk_below HX.out hS) 0).trans rfl;have d10:=(blk_cell (blk_below HX.out hS) 1).trans rfl;have d11:=(blk_cell (blk_below HX.out hS) 2).trans rfl;have d12:=(blk_cell (blk_below HX.out hS) 3).trans rfl;have d13:=cell_at hS HBC.out;go_simp;with_reducible rfl)
  refine ta_ ?_ ?_ 10 (some 15) (lb 18 0x57ff) hHeld ?_ (y:=by rintro w' hS;have d0:=(blk_cell (blk_below HK.out hS) 0).trans rfl;have d1:=(blk_cell (blk_below HK.out hS) 1).trans rfl;have d2:=(blk_cell (blk_below HK.out hS) 2).trans rfl;have d3:=(blk_cell (blk_below HK.out hS) 3).trans rfl;have d4:=(blk_cell (blk_below HK.out hS) 4).trans rfl;have d5:=(blk_cell (blk_below HK.out hS) 5).trans rfl;have d6:=(blk_cell (blk_below HK.out hS) 6).trans rfl;have d7:=(blk_cell (blk_below HK.out hS) 7).trans rfl;have d8:=(blk_cell (blk_below HK.out hS) 8).trans rfl;have d9:=(blk_cell (blk_below HX.out hS) 0).trans rfl;have d10:=(blk_cell (blk_below HX.out hS) 1).trans rfl;have d11:=(blk_cell (blk_below HX.out hS) 2).trans rfl;have d12:=(blk_cell (blk_below HX.out hS) 3).trans rfl;have d13:=cell_at hS HBC.out;go_simp;with_reducible rfl)
  refine pu_ ?_ ?_ 11 (some 16) (lb 18 0x5fff) ?_
  refine ta_ ?_ ?_ 13 (some 18) (lb 18 0x7fff) hHeld ?_ (y:=by rintro w' hS;have d0:=(blk_cell (blk_below HK.out hS) 0).trans rfl;have d1:=(blk_cell (blk_below HK.out hS) 1).trans rfl;have d2:=(blk_cell (blk_below HK.out hS) 2).trans rfl;have d3:=(blk_cell (blk_below HK.out hS) 3).trans rfl;have d4:=(blk_cell (blk_below HK.out hS) 4).trans rfl;have d5:=(blk_cell (blk_below HK.out hS) 5).trans rfl;have d6:=(blk_cell (blk_below HK.out hS) 6).trans rfl;have d7:=(blk_cell (blk_below HK.out hS) 7).trans rfl;have d8:=(blk_cell (blk_below HK.out hS) 8).trans rfl;have d9:=(blk_cell (blk_below HX.out hS) 0).trans rfl;have d10:=(blk_cell (blk_below HX.out hS) 1).trans rfl;have d11:=(blk_cell (blk_below HX.out hS) 2).trans rfl;have d12:=(blk_cell (blk_below HX.out hS) 3).trans rfl;have d13:=cell_at hS HBC.out;go_simp;with_reducible rfl)
  refine ta_ ?_ ?_ 15 (some 20) (lb 18 0xffff) hHeld ?_ (y:=by rintro w' hS;have d0:=(blk_cell (blk_below HK.out hS) 0).trans rfl;have d1:=(blk_cell (blk_below HK.out hS) 1).trans rfl;have d2:=(blk_cell (blk_below HK.out hS) 2).trans rfl;have d3:=(blk_cell (blk_below HK.out hS) 3).trans rfl;have d4:=(blk_cell (blk_below HK.out hS) 4).trans rfl;have d5:=(blk_cell (blk_below HK.out hS) 5).trans rfl;have d6:=(blk_cell (blk_below HK.out hS) 6).trans rfl;have d7:=(blk_cell (blk_below HK.out hS) 7).trans rfl;have d8:=(blk_cell (blk_below HK.out hS) 8).trans rfl;have d9:=(blk_cell (blk_below HX.out hS) 0).trans rfl;have d10:=(blk_cell (blk_below HX.out hS) 1).trans rfl;have d11:=(blk_cell (blk_below HX.out hS) 2).trans rfl;have d12:=(blk_cell (blk_below HX.out hS) 3).trans rfl;have d13:=cell_at hS HBC.out;go_simp;with_reducible rfl)
  refine on_ 16 (some 21) (lb 18 0x1ffff) (fun K hK => ?_)
  (refine goesC_ Try.func46 (by kernel_rfl) rfl (by rfl) rfl rfl (at_c k.b n _ _ _ (bz + pd) pi pj _ (t:=97) (cs:=#[]) ((blk_cell (blk_below HK.out hHeld) 3).trans rfl) (by omega) rfl rfl rfl (by omega) (by omega) (by omega)) (by simp [Act.eval]) ?_;rintro e w9 ⟨rfl,hb9⟩;refine ⟨_,rfl,?_⟩;have HQ9:=Aside0.mk (below_then hHeld hHeld.size hb9);clear hb9;refine hK.out _ _ HQ9.out (fun hHeld => ?_))
  clear hK K
  refine nm_ ?_ (some 21) ?_
  refine pu_ ?_ ?_ 17 (some 4) (lb 18 0x3ffff) ?_
  refine done_ (by kernel_rfl) ?_
  rename World => W2
  have H2:=Aside0.mk (H.out.below_ hHeld)
  have HK2:=Aside0.mk (blk_below HK.out hHeld)
  have HG2:=Aside0.mk (HG0.out.trans (GoB.below hHeld vq))
  have HX2:=Aside0.mk (blk_below HX.out hHeld)
  simp only [← HZ.out]
  have d5:=(blk_cell HK2.out 5).trans rfl
  by_cases hc : hasP g n s ⟨pr,pd,pi,pj⟩ = true
  · have hz1 : W2.cell? ⟨k.p,z,none⟩ = some (.bool true):=H2.out.pa.cell' (by rw [H2.out.lp];exact hlt) (by rw [getB_nat,← HIX.out];exact hc)
    have HE : Aside0 (partF g n s ⟨pr,pd,pi,pj⟩ = s):=⟨by unfold partF;rw [if_pos hc]⟩
    clear hc hHeld
    go_wp2
    refine bodyPost_end (results_none rfl _ _ _) rfl ?_
    exact ⟨rfl,vq,by rw [HE.out];exact H2.out,HG2.out⟩
  · have hc' : hasP g n s ⟨pr,pd,pi,pj⟩ = false:=by simpa using hc
    have hz1 : W2.cell? ⟨k.p,z,none⟩ = some (.bool false):=H2.out.pa.cell' (by rw [H2.out.lp];exact hlt) (by rw [getB_nat,← HIX.out];exact hc')
    have HE : Aside0 (partF g n s ⟨pr,pd,pi,pj⟩ = ⟨s.sy,s.pa.set z true,s.q ++ [⟨pr,pd,pi,pj⟩]⟩):=⟨by unfold partF;rw [if_neg hc,HIX.out]⟩
    have fz:=H2.out.pa.fz z
    have H3:=Aside0.mk (H2.out.setP z)
    have HG3:=Aside0.mk (HG2.out.trans (GoB.set (k:=k) W2 k.p z (.bool true) vq (.inr (.inl rfl))))
    have hb3 : Aside0 (W2.heap[k.p]? = some (.cells (s.pa.map Value.bool).toArray 4 (0,0))):=⟨H2.out.pa⟩
    have HX3:=Aside0.mk (set_heap_far (i:=z) (u:=.bool true) HX2.out (Ne.symm (blk_ty_ne hb3.out HX2.out (by decide))))
    have HK3:=Aside0.mk (set_heap_far (i:=z) (u:=.bool true) HK2.out (Ne.symm (blk_ty_ne hb3.out HK2.out (by decide))))
    clear hc hc' hHeld
    go_upto_region 4 with (fail)
    obtain ⟨W3,hW3⟩ : ∃ W3,W3 = W2.setCell ⟨k.p,z,none⟩ (.bool true):=⟨_,rfl⟩
    rw [← hW3] at H3 HG3 HX3 HK3 ⊢
    clear hW3 d5 hz1 fz
    refine start_ (n:=5) (S:=fun w' => Below W3.heap.size W3 w') (ds:=[4]) (lb 5 0x0) (by kernel_rfl) rfl (by kernel_rfl) (below_drew1 (Below.refl _ _)) (fun hHeld => ?_)
    refine pu_ ?_ ?_ 0 (some 36) (lb 5 0x1) ?_
    refine pu_ ?_ ?_ 1 (some 37) (lb 5 0x3) ?_
    refine pu_ ?_ ?_ 2 (some 38) (lb 5 0x7) ?_
    refine ta_ ?_ ?_ 3 (some 39) (lb 5 0xf) hHeld ?_ (y:=by rintro w' hS;have x0:=(blk_cell (blk_below HX3.out hS) 0).trans rfl;have x1:=(blk_cell (blk_below HX3.out hS) 1).trans rfl;have x2:=(blk_cell (blk_below HX3.out hS) 2).trans rfl;have x3:=(blk_cell (blk_below HX3.out hS) 3).trans rfl;go_simp;with_reducible rfl)
    refine ls_ 4 (some 40) (lb 5 0x1f) (fun K hK => ?_)
    (refine goesC_ Try.func81 (by kernel_rfl) rfl (by rfl) rfl rfl (put_c w0 _ k g n r vq _ ⟨pr,pd,pi,pj⟩ (H3.out.below_ hHeld) HQL.out) (by simp [Act.eval]) ?_;rintro e w9 ⟨rfl,vq',h9,g9⟩;refine ⟨_,rfl,?_⟩;have H9:=Aside0.mk h9;have HG9:=Aside0.mk ((HG3.out.trans (GoB.below hHeld vq)).trans g9);clear h9 g9)
    refine hK.out _ _ ?_
    clear hK K
    refine nm_ ?_ (some 40) ?_
    refine done_ (by kernel_rfl) ?_
    go_wp2
    refine bodyPost_end (results_none rfl _ _ _) rfl ?_
    exact ⟨rfl,vq',by rw [HE.out];exact H9.out,HG9.out⟩
end Go.Proofs.Ytmkgcjhimajgiaa


set_option linter.unusedVariables false
set_option linter.unusedSimpArgs false
namespace Go.Proofs.Ytmkgcjhimajgiaa
open Go.RowKit Go.Proofs.YtmkgcjhimajgiaaW.PrintWords Go.Proofs.YtmkgcjhimajgiaaW.PrintLast

abbrev valS (x : Int) (i j : Nat) : Value:=.agg #[.int .i64 x,.int .i64 i,.int .i64 j]
/-- In the midst of a walk that began with s1 in W1: the chart,and a box of one's own. -/
structure SI (w0 W1 W : World) (k : CB) (g : Gram) (n r : Nat) (vq1 vq : Value) (s1 s : ChS) (x0 : Nat) (o : Obj) : Prop where
  cm : CM w0 W k g n vq s r
  bx : W.heap[x0]? = some o
  nb : (x0 ≠ k.b ∧ x0 ≠ k.p ∧ x0 ≠ k.s ∧ x0 ≠ k.ch) ∧ some x0 ≠ vq.ownBlock
  ext : Ext g n s1 s
  go : GoB k W1 W vq1 vq
section
variable {w0 W1 W W2 : World} {k : CB} {g : Gram} {n r : Nat} {vq1 vq : Value} {s1 s : ChS} {x0 : Nat} {o : Obj}
theorem SI.below_ (h : SI w0 W1 W k g n r vq1 vq s1 s x0 o) (hb : Below W.heap.size W W2) : SI w0 W1 W2 k g n r vq1 vq s1 s x0 o :=
  ⟨h.cm.below_ hb,blk_below h.bx hb,h.nb,h.ext,h.go.trans (GoB.below hb _)⟩
theorem SI.next {vq2 : Value} {s2 : ChS} (h : SI w0 W1 W k g n r vq1 vq s1 s x0 o) (hc : CM w0 W2 k g n vq2 s2 r) (hg : GoB k W W2 vq vq2) (he : Ext g n s s2) : SI w0 W1 W2 k g n r vq1 vq2 s1 s2 x0 o:=by
  obtain ⟨h1,h2⟩:=hg.box h.bx h.nb.1 h.nb.2
  exact ⟨hc,h1,⟨h.nb.1,h2⟩,h.ext.trans he,h.go.trans hg⟩
theorem SI.setS (h : SI w0 W1 W k g n r vq1 vq s1 s x0 o) (z : Nat) : SI w0 W1 (W.setCell ⟨k.s,z,none⟩ (.bool true)) k g n r vq1 vq { s with sy:=s.sy.set z true } { s with sy:=s.sy.set z true } x0 o:=by
  have hg:=GoB.set (k:=k) W k.s z (.bool true) vq (.inr (.inr rfl))
  obtain ⟨h1,h2⟩:=hg.box h.bx h.nb.1 h.nb.2
  exact ⟨h.cm.setS z,h1,⟨h.nb.1,h2⟩,Ext.refl _ _ _,h.go.trans hg⟩
theorem SI.qlen (h : SI w0 W1 W k g n r vq1 vq s1 s x0 o) (hb : PB k g n) (hl : Lens g n s1) (hq : s1.q.length ≤ 2000000) : s.q.length ≤ 3000000 ∧ Lens g n s:=by
  have h1:=h.ext.many hl
  have h2:=cnt_le s.pa
  have h3:=hb.max.1
  have h4:=h.cm.lp
  exact ⟨by omega,h.ext.lens hl⟩
end
theorem foldl_range_succ {α : Type} (f : α → Nat → α) (m : Nat) (a : α) : (List.range (m + 1)).foldl f a = f ((List.range m).foldl f a) m:=by rw [List.range_succ,List.foldl_append];rfl
set_option maxRecDepth 100000 in
set_option maxHeartbeats 8000000 in
theorem sym_c (w0 W : World) (k : CB) (g : Gram) (n r : Nat) (vq : Value) (s : ChS) (x : Int) (I J : Nat) (hb : PB k g n) (h0 : 0 ≤ x) (hx : x < nsym g) (hI : I ≤ n) (hJ : J ≤ n) (hl : Lens g n s) (h : CM w0 W k g n vq s r) (hq : s.q.length ≤ 2000000) :
    Calls Try.prog 82 #[.pointer (some ⟨k.b,0,none⟩),valS x I J] W fun e W' => e = .returned (.tuple #[]) ∧ ∃ vq',CM w0 W' k g n vq' (spanF g n s x I J) r ∧ GoB k W W' vq vq':=by
  obtain ⟨xn,rfl⟩:=Int.eq_ofNat_of_zero_le h0
  have hnn:=hb.nn
  have hx80 : xn ≤ 80:=by obtain ⟨q1,q2,q3,q4⟩:=goodF_small hb.gd;unfold nsym at hx;omega
  have HB:=Aside0.mk hb
  have HQL:=Aside0.mk hq
  have HL:=Aside0.mk hl
  have H:=Aside0.mk (show SI w0 W (W.alloc (.cells #[.int .i64 (xn : Int),.int .i64 I,.int .i64 J] 28 (0,0))) k g n r vq vq s s W.heap.size (.cells #[.int .i64 (xn : Int),.int .i64 I,.int .i64 J] 28 (0,0)) from
    ⟨h.below_ (below_alloc (Below.refl _ _) _),blk_new W _,h.fresh,Ext.refl _ _ _,GoB.below (below_alloc (Below.refl _ _) _) _⟩)
  have hnames : g.rules.length ≤ 60:=(goodF_small hb.gd).2.2.2
  obtain ⟨x0,hx0⟩ : ∃ x0,x0 = W.heap.size:=⟨_,rfl⟩
  obtain ⟨W1,hW1⟩ : ∃ W1,W1 = W.alloc (.cells #[.int .i64 (xn : Int),.int .i64 I,.int .i64 J] 28 (0,0)):=⟨_,rfl⟩
  rw [← hW1,← hx0] at H
  have HW:=Lib.hid hW1
  have HX0:=Lib.hid hx0
  have HK:=Aside0.mk H.out.cm.o
  have HX:=Aside0.mk H.out.bx
  have HG0:=Aside0.mk H.out.cm.g
  obtain ⟨z,hz⟩ : ∃ z,z = atF n xn I J:=⟨_,rfl⟩
  have hlt : z < k.ls:=by rw [hz,hb.ls];exact atF_lt (by omega) hI hJ
  have HZ:=Lib.hid hz
  have i2 : (z : Int) < (k.ls : Int):=by omega
  clear h hb hq hl hW1 hx0 hz h0 hx
  have x1 : W1.cell? ⟨x0,0,none⟩ = some (.int .i64 (xn : Int)):=(blk_cell HX.out 0).trans rfl
  have x2 : W1.cell? ⟨x0,1,none⟩ = some (.int .i64 (I : Int)):=(blk_cell HX.out 1).trans rfl
  have x3 : W1.cell? ⟨x0,2,none⟩ = some (.int .i64 (J : Int)):=(blk_cell HX.out 2).trans rfl
  rw [HX0.out,HW.out] at x1 x2 x3
  by_cases hc : hasS n s xn I J = true
  · have HE : Aside0 (spanF g n s xn I J = s):=⟨by unfold spanF;rw [if_pos hc]⟩
    have HC:=Aside0.mk hc
    clear hc
    go_enter Try.func82,Try.ntmps82
    go_wp2_with (go_at_call 46;go_loud (simp only [← HX0.out,← HW.out];refine (at_c k.b n _ _ _ xn I J _ (t:=97) (cs:=#[]) ((blk_cell HK.out 3).trans rfl) (by omega) rfl rfl rfl (by omega) (by omega) (by omega)).mono ?_;rintro e W2 ⟨rfl,hb2⟩;simp only [← HZ.out];have H2:=Aside0.mk (H.out.below_ hb2);have d4:=(blk_cell H2.out.cm.o 4).trans rfl;have hz1 : W2.cell? ⟨k.s,z,none⟩ = some (.bool true):=H2.out.cm.sy.cell' (by rw [H2.out.cm.ls];exact hlt) (by rw [getB_nat,HZ.out];exact HC.out)))
    refine bodyPost_ret (results_none rfl _ _ _) rfl ?_
    exact ⟨rfl,vq,by rw [HE.out];exact H2.out.cm,H2.out.go⟩
  · have hc' : hasS n s xn I J = false:=by simpa using hc
    have HE : Aside0 (spanF g n s xn I J = (List.range g.rules.length).foldl (ruleS g n xn I J) { s with sy:=s.sy.set z true }):=⟨by unfold spanF;rw [if_neg hc,HZ.out,Int.toNat_natCast]⟩
    have HC:=Aside0.mk hc'
    clear hc hc'
    go_enter Try.func82,Try.ntmps82
    go_wp2_with (go_at_call 46;go_loud (simp only [← HX0.out,← HW.out];refine (at_c k.b n _ _ _ xn I J _ (t:=97) (cs:=#[]) ((blk_cell HK.out 3).trans rfl) (by omega) rfl rfl rfl (by omega) (by omega) (by omega)).mono ?_;rintro e W2 ⟨rfl,hb2⟩;simp only [← HZ.out];have H2:=Aside0.mk (H.out.below_ hb2);have d4:=(blk_cell H2.out.cm.o 4).trans rfl;have hz1 : W2.cell? ⟨k.s,z,none⟩ = some (.bool false):=H2.out.cm.sy.cell' (by rw [H2.out.cm.ls];exact hlt) (by rw [getB_nat,HZ.out];exact HC.out);have fz:=H2.out.cm.sy.fz z;have H3:=Aside0.mk (H2.out.setS z);have d2:=(blk_cell H3.out.cm.o 2).trans rfl))
    obtain ⟨s1,hs1⟩ : ∃ s1 : ChS,s1 = { s with sy:=s.sy.set z true }:=⟨_,rfl⟩
    have HL1 : Aside0 (Lens g n s1):=⟨by rw [hs1];exact ⟨by simp only;rw [List.length_set];exact HL.out.sy,HL.out.pa,HL.out.q⟩⟩
    have HQ1 : Aside0 (s1.q.length ≤ 2000000):=⟨by rw [hs1];exact HQL.out⟩
    rw [← hs1] at HE H3
    obtain ⟨W3,hW3⟩ : ∃ W3,W3 = W2.setCell ⟨k.s,z,none⟩ (.bool true):=⟨_,rfl⟩
    rw [← hW3] at H3 ⊢
    clear hs1 hW3 d2 d4 hz1 fz x1 x2 x3 hb2 HK HX i2 hlt HC
    clear H2 H HQL HL
    have HM : Aside0 (∀ i,i < g.rules.length → ∀ (hd : i < g.rules.length),(rightR g i).length ≤ 8):=⟨fun i hi _ => (HB.out.row hi (Nat.zero_le _)).2⟩
    go_loopw [37] (fun i wr => ∃ (j : Nat) (vq' : Value),j ≤ g.rules.length ∧ i = .int .i64 j ∧ Aside0 (SI w0 W wr k g n r vq vq' s1 ((List.range j).foldl (ruleS g n xn I J) s1) x0 (.cells #[.int .i64 (xn : Int),.int .i64 I,.int .i64 J] 28 (0,0)))) (fun i _ => g.rules.length - (intOf i).toNat)
    case atStart => exact ⟨0,vq,Nat.zero_le _,rfl,H3⟩
    case round =>
      clear H3
      obtain ⟨j,vq1,hj,rfl,HS⟩:=hrel
      rename World => wo
      by_cases hlt : j < g.rules.length
      · obtain ⟨ad,B1,d1,ead,hx,hy,hd1,hC1⟩:=at_rule HG0.out.rules j hlt
        have hx':=pw_cell_below HS.out.cm.below hx
        have hy':=pw_cell_below HS.out.cm.below hy
        have HC1:=Aside0.mk hC1
        have hr8:=HM.out j hlt hlt
        rw [rightR_at hlt] at hr8
        have HRR:=Aside0.mk (rightR_at hlt)
        obtain ⟨xr,hxr⟩ : ∃ xr,xr = g.rules[j]'hlt:=⟨_,rfl⟩
        rw [← hxr] at hx' hy' HC1 hr8 HRR hd1
        have i2 : (j : Int) < (g.rules.length : Int):=by omega
        clear hx hy hC1 hxr
        obtain ⟨adb,eadb,hbc⟩:=HS.out.cm.base_ hlt
        obtain ⟨sj,hsj⟩ : ∃ sj,sj = (List.range j).foldl (ruleS g n xn I J) s1:=⟨_,rfl⟩
        rw [← hsj] at HS
        have HSJ : Aside0 ((List.range (j + 1)).foldl (ruleS g n xn I J) s1 = (List.range xr.right.length).foldl (occF g n xn I J j) sj):=⟨by rw [foldl_range_succ,← hsj];unfold ruleS;rw [HRR.out]⟩
        clear hsj
        have HB2 : Aside0 (k.B = some adb):=⟨eadb⟩
        clear hbc eadb
        go_wp2
        clear ead
        have HS0:=Aside0.mk (HS.out.below_ (below_alloc (Below.refl _ _) (.cells #[.int .i64 xr.left,.slice B1 xr.right.length d1] 46 (0,0))))
        go_loopw [45] (fun i wr => ∃ (d : Nat) (vq' : Value),d ≤ xr.right.length ∧ i = .int .i64 d ∧ Aside0 (SI w0 W wr k g n r vq vq' s1 ((List.range d).foldl (occF g n xn I J j) sj) x0 (.cells #[.int .i64 (xn : Int),.int .i64 I,.int .i64 J] 28 (0,0)))) (fun i _ => xr.right.length - (intOf i).toNat)
        case atStart => exact ⟨0,vq1,Nat.zero_le _,rfl,HS0⟩
        case round =>
          clear HS HS0 hx' hy'
          obtain ⟨d,vq2,hd,rfl,HS⟩:=hrel
          rename World => wd
          by_cases hdl : d < xr.right.length
          · obtain ⟨adr,eadr,hrc⟩:=at_int (Kd.C_below HC1.out HS.out.cm.below) d hdl
            cases eadr
            have k2 : (d : Int) < (xr.right.length : Int):=by omega
            obtain ⟨y,hy⟩ : ∃ y,y = xr.right[d]'hdl:=⟨_,rfl⟩
            rw [← hy] at hrc
            have HY : Aside0 ((rightR g j).getD d 0 = y):=⟨by rw [HRR.out,List.getD_eq_getElem?_getD,List.getElem?_eq_getElem hdl,hy];rfl⟩
            clear hy
            have y1 : wd.cell? ⟨x0,0,none⟩ = some (.int .i64 (xn : Int)):=(blk_cell HS.out.bx 0).trans rfl
            have y2 : wd.cell? ⟨x0,1,none⟩ = some (.int .i64 (I : Int)):=(blk_cell HS.out.bx 1).trans rfl
            obtain ⟨sd,hsd⟩ : ∃ sd,sd = (List.range d).foldl (occF g n xn I J j) sj:=⟨_,rfl⟩
            rw [← hsd] at HS
            by_cases hyx : y = (xn : Int)
            · have hne : (y != (xn : Int)) = false:=by rw [bne_eq_false_iff_eq];exact hyx
              have HSD : Aside0 ((List.range (d + 1)).foldl (occF g n xn I J j) sj = (List.range (I + 1)).foldl (stepO g n j d I J) sd):=⟨by rw [foldl_range_succ,← hsd];unfold occF;rw [if_pos (HY.out.trans hyx)]⟩
              have HD : Aside0 (d < (rightR g j).length):=⟨by rw [HRR.out];exact hdl⟩
              clear hsd hyx
              go_wp2
              clear hne hrc y1 y2
              go_loopw [57] (fun i wr => ∃ (m : Nat) (vq' : Value),m ≤ I + 1 ∧ i = .int .i64 m ∧ Aside0 (SI w0 W wr k g n r vq vq' s1 ((List.range m).foldl (stepO g n j d I J) sd) x0 (.cells #[.int .i64 (xn : Int),.int .i64 I,.int .i64 J] 28 (0,0)))) (fun i _ => I + 1 - (intOf i).toNat)
              case atStart => exact ⟨0,vq2,Nat.zero_le _,rfl,HS⟩
              case round =>
                clear HS
                obtain ⟨m,vq3,hm,rfl,HS⟩:=hrel
                rename World => wm
                by_cases hml : m < I + 1
                · have m2 : (m : Int) < (I : Int) + 1:=by omega
                  obtain ⟨sm,hsm⟩ : ∃ sm,sm = (List.range m).foldl (stepO g n j d I J) sd:=⟨_,rfl⟩
                  rw [← hsm] at HS
                  have HSM : Aside0 ((List.range (m + 1)).foldl (stepO g n j d I J) sd = stepO g n j d I J sm m):=⟨by rw [foldl_range_succ,← hsm]⟩
                  clear hsm
                  have ho:=HS.out.cm.o
                  rw [HB2.out] at ho
                  have HK:=Aside0.mk ho
                  have HX:=Aside0.mk HS.out.bx
                  obtain ⟨adc,eadc,hbc⟩:=HS.out.cm.base_ hlt
                  rw [HB2.out] at eadc
                  cases eadc
                  have HBC:=Aside0.mk hbc
                  obtain ⟨hrow,_⟩:=HB.out.row hlt (Nat.le_of_lt HD.out)
                  obtain ⟨bz,hbz⟩ : ∃ bz,bz = baseF g j:=⟨_,rfl⟩
                  rw [← hbz] at HBC hrow
                  have e1 : IntKind.i64.wrap ((bz : Int) + (d : Int)) = ((bz + d : Nat) : Int):=by rw [IntWalk.i64_in _ (by omega)];omega
                  have hok : PN.ok g n ⟨j,d,m,I⟩:=⟨hlt,Nat.le_of_lt HD.out,Nat.le_trans (Nat.lt_succ_iff.1 hml) hI,hI⟩
                  have hix : ixP g n ⟨j,d,m,I⟩ = atF n (bz + d) m I:=by rw [hbz];rfl
                  have hzl:=ixP_lt hok
                  rw [← HB.out.lp,hix] at hzl
                  obtain ⟨pz,hpz⟩ : ∃ pz,pz = atF n (bz + d) m I:=⟨_,rfl⟩
                  rw [← hpz] at hzl hix
                  have HPZ:=Lib.hid hpz
                  have z2 : (pz : Int) < (k.lp : Int):=by omega
                  obtain ⟨v,hv⟩ : ∃ v,hasP g n sm ⟨j,d,m,I⟩ = v:=⟨_,rfl⟩
                  have HZC:=Aside0.mk (HS.out.cm.pa.cell' (i:=pz) (v:=v) (by rw [HS.out.cm.lp];exact hzl) (by rw [getB_nat,← hix];exact hv))
                  have hstep : stepO g n j d I J sm m = if v = true then partF g n sm ⟨j,d + 1,m,J⟩ else sm:=by unfold stepO;rw [hv]
                  have HST:=Lib.hid hstep
                  have hok2 : PN.ok g n ⟨j,d + 1,m,J⟩:=⟨hlt,HD.out,Nat.le_trans (Nat.lt_succ_iff.1 hml) hI,hJ⟩
                  have HOK2:=Aside0.mk hok2
                  clear hbc hbz hok hix hpz hv hstep hok2 ho hzl
                  go_upto_region 14 with (fail)
                  refine start_ (n:=20) (S:=fun w' => Below wm.heap.size wm w') (ds:=[]) (lb 20 0x0) (by kernel_rfl) rfl (by kernel_rfl) (below_drew1 (Below.refl _ _)) (fun hHeld => ?_)
                  refine pu_ ?_ ?_ 0 (some 60) (lb 20 0x1) ?_
                  refine pu_ ?_ ?_ 1 (some 61) (lb 20 0x3) ?_
                  refine pu_ ?_ ?_ 2 (some 62) (lb 20 0x7) ?_
                  refine pu_ ?_ ?_ 4 (some 64) (lb 20 0x17) ?_
                  refine pu_ ?_ ?_ 5 (some 65) (lb 20 0x37) ?_
                  refine pu_ ?_ ?_ 6 (some 66) (lb 20 0x77) ?_
                  refine pu_ ?_ ?_ 7 (some 67) (lb 20 0xf7) ?_
                  refine pu_ ?_ ?_ 9 (some 69) (lb 20 0x2f7) ?_
                  refine pu_ ?_ ?_ 12 (some 72) (lb 20 0x12f7) ?_
                  refine pu_ ?_ ?_ 14 (some 74) (lb 20 0x52f7) ?_
                  refine pu_ ?_ ?_ 15 (some 75) (lb 20 0xd2f7) ?_
                  refine ta_ ?_ ?_ 3 (some 63) (lb 20 0xd2ff) hHeld ?_ (y:=by rintro w' hS;have d0:=(blk_cell (blk_below HK.out hS) 0).trans rfl;have d1:=(blk_cell (blk_below HK.out hS) 1).trans rfl;have d2:=(blk_cell (blk_below HK.out hS) 2).trans rfl;have d3:=(blk_cell (blk_below HK.out hS) 3).trans rfl;have d4:=(blk_cell (blk_below HK.out hS) 4).trans rfl;have d5:=(blk_cell (blk_below HK.out hS) 5).trans rfl;have d6:=(blk_cell (blk_below HK.out hS) 6).trans rfl;have d7:=(blk_cell (blk_below HK.out hS) 7).trans rfl;have d8:=(blk_cell (blk_below HK.out hS) 8).trans rfl;have d9:=(blk_cell (blk_below HX.out hS) 0).trans rfl;have d10:=(blk_cell (blk_below HX.out hS) 1).trans rfl;have d11:=(blk_cell (blk_below HX.out hS) 2).trans rfl;have d12:=cell_at hS HBC.out;have d13:=cell_at hS HZC.out;go_simp;with_reducible rfl)
                  refine ta_ ?_ ?_ 8 (some 68) (lb 20 0xd3ff) hHeld ?_ (y:=by rintro w' hS;have d0:=(blk_cell (blk_below HK.out hS) 0).trans rfl;have d1:=(blk_cell (blk_below HK.out hS) 1).trans rfl;have d2:=(blk_cell (blk_below HK.out hS) 2).trans rfl;have d3:=(blk_cell (blk_below HK.out hS) 3).trans rfl;have d4:=(blk_cell (blk_below HK.out hS) 4).trans rfl;have d5:=(blk_cell (blk_below HK.out hS) 5).trans rfl;have d6:=(blk_cell (blk_below HK.out hS) 6).trans rfl;have d7:=(blk_cell (blk_below HK.out hS) 7).trans rfl;have d8:=(blk_cell (blk_below HK.out hS) 8).trans rfl;have d9:=(blk_cell (blk_below HX.out hS) 0).trans rfl;have d10:=(blk_cell (blk_below HX.out hS) 1).trans rfl;have d11:=(blk_cell (blk_below HX.out hS) 2).trans rfl;have d12:=cell_at hS HBC.out;have d13:=cell_at hS HZC.out;go_simp;with_reducible rfl)
                  refine pu_ ?_ ?_ 10 (some 70) (lb 20 0xd7ff) ?_
                  refine ta_ ?_ ?_ 11 (some 71) (lb 20 0xdfff) hHeld ?_ (y:=by rintro w' hS;have d0:=(blk_cell (blk_below HK.out hS) 0).trans rfl;have d1:=(blk_cell (blk_below HK.out hS) 1).trans rfl;have d2:=(blk_cell (blk_below HK.out hS) 2).trans rfl;have d3:=(blk_cell (blk_below HK.out hS) 3).trans rfl;have d4:=(blk_cell (blk_below HK.out hS) 4).trans rfl;have d5:=(blk_cell (blk_below HK.out hS) 5).trans rfl;have d6:=(blk_cell (blk_below HK.out hS) 6).trans rfl;have d7:=(blk_cell (blk_below HK.out hS) 7).trans rfl;have d8:=(blk_cell (blk_below HK.out hS) 8).trans rfl;have d9:=(blk_cell (blk_below HX.out hS) 0).trans rfl;have d10:=(blk_cell (blk_below HX.out hS) 1).trans rfl;have d11:=(blk_cell (blk_below HX.out hS) 2).trans rfl;have d12:=cell_at hS HBC.out;have d13:=cell_at hS HZC.out;go_simp;with_reducible rfl)
                  refine pu_ ?_ ?_ 13 (some 73) (lb 20 0xffff) ?_
                  refine ta_ ?_ ?_ 16 (some 76) (lb 20 0x1ffff) hHeld ?_ (y:=by rintro w' hS;have d0:=(blk_cell (blk_below HK.out hS) 0).trans rfl;have d1:=(blk_cell (blk_below HK.out hS) 1).trans rfl;have d2:=(blk_cell (blk_below HK.out hS) 2).trans rfl;have d3:=(blk_cell (blk_below HK.out hS) 3).trans rfl;have d4:=(blk_cell (blk_below HK.out hS) 4).trans rfl;have d5:=(blk_cell (blk_below HK.out hS) 5).trans rfl;have d6:=(blk_cell (blk_below HK.out hS) 6).trans rfl;have d7:=(blk_cell (blk_below HK.out hS) 7).trans rfl;have d8:=(blk_cell (blk_below HK.out hS) 8).trans rfl;have d9:=(blk_cell (blk_below HX.out hS) 0).trans rfl;have d10:=(blk_cell (blk_below HX.out hS) 1).trans rfl;have d11:=(blk_cell (blk_below HX.out hS) 2).trans rfl;have d12:=cell_at hS HBC.out;have d13:=cell_at hS HZC.out;go_simp;with_reducible rfl)
                  refine on_ 17 (some 77) (lb 20 0x3ffff) (fun K hK => ?_)
                  (refine goesC_ Try.func46 (by kernel_rfl) rfl (by rfl) rfl rfl (at_c k.b n _ _ _ (bz + d) m I _ (t:=97) (cs:=#[]) ((blk_cell (blk_below HK.out hHeld) 3).trans rfl) (by omega) rfl rfl rfl (by omega) (by omega) (by omega)) (by simp [Act.eval]) ?_;rintro e w9 ⟨rfl,hb9⟩;refine ⟨_,rfl,?_⟩;have HQ9:=Aside0.mk (below_then hHeld hHeld.size hb9);simp only [← HPZ.out];clear hb9;refine hK.out _ _ HQ9.out (fun hHeld => ?_))
                  clear hK K
                  refine nm_ ?_ (some 77) ?_
                  refine pu_ ?_ ?_ 18 (some 78) (lb 20 0x7ffff) ?_
                  refine ta_ ?_ ?_ 19 (some 79) (lb 20 0xfffff) hHeld ?_ (y:=by rintro w' hS;have d0:=(blk_cell (blk_below HK.out hS) 0).trans rfl;have d1:=(blk_cell (blk_below HK.out hS) 1).trans rfl;have d2:=(blk_cell (blk_below HK.out hS) 2).trans rfl;have d3:=(blk_cell (blk_below HK.out hS) 3).trans rfl;have d4:=(blk_cell (blk_below HK.out hS) 4).trans rfl;have d5:=(blk_cell (blk_below HK.out hS) 5).trans rfl;have d6:=(blk_cell (blk_below HK.out hS) 6).trans rfl;have d7:=(blk_cell (blk_below HK.out hS) 7).trans rfl;have d8:=(blk_cell (blk_below HK.out hS) 8).trans rfl;have d9:=(blk_cell (blk_below HX.out hS) 0).trans rfl;have d10:=(blk_cell (blk_below HX.out hS) 1).trans rfl;have d11:=(blk_cell (blk_below HX.out hS) 2).trans rfl;have d12:=cell_at hS HBC.out;have d13:=cell_at hS HZC.out;go_simp;with_reducible rfl)
                  refine done_ (by kernel_rfl) ?_
                  rename World => wn
                  have HS2:=Aside0.mk (HS.out.below_ hHeld)
                  have x3 : wn.cell? ⟨x0,2,none⟩ = some (.int .i64 (J : Int)):=(blk_cell HS2.out.bx 2).trans rfl
                  clear hHeld
                  cases v
                  · go_wp2
                    go_roundw
                    case rel => exact ⟨m + 1,vq3,by omega,by go_num,by rw [HSM.out,HST.out];exact HS2⟩
                    case measure => simp [intOf];omega
                  · have hq3:=(HS2.out.qlen HB.out HL1.out HQ1.out).1
                    go_wp2_with (go_at_call 47;go_loud (refine (part_c w0 _ k g n r vq3 sm ⟨j,d + 1,m,J⟩ HB.out HOK2.out HS2.out.cm (by omega)).mono ?_;rintro e w9 ⟨rfl,vq4,h9,g9⟩;have HS4:=Aside0.mk (HS2.out.next h9 g9 (ext_part HOK2.out));clear h9 g9))
                    go_roundw
                    case rel => exact ⟨m + 1,vq4,by omega,by go_num,by rw [HSM.out,HST.out];exact HS4⟩
                    case measure => simp [intOf];omega
                · have m2 : ¬ (m : Int) < (I : Int) + 1:=by omega
                  have hmI : m = I + 1:=by omega
                  rw [hmI,← HSD.out] at HS
                  clear hmI
                  go_wp2
                  go_roundw
                  case rel => exact ⟨d + 1,vq3,by omega,by go_num,HS⟩
                  case measure => simp [intOf];omega
            · have hne : (y != (xn : Int)) = true:=by rw [bne_iff_ne];exact hyx
              have HSD : Aside0 ((List.range (d + 1)).foldl (occF g n xn I J j) sj = sd):=⟨by rw [foldl_range_succ,← hsd];unfold occF;rw [if_neg (by rw [HY.out];exact hyx)]⟩
              clear hsd hyx
              go_wp2
              go_roundw
              case rel => exact ⟨d + 1,vq2,by omega,by go_num,by rw [HSD.out];exact HS⟩
              case measure => simp [intOf];omega
          · have hde : d = xr.right.length:=by omega
            rw [hde,← HSJ.out] at HS
            clear hde
            go_wp2
            go_roundw
            case rel => exact ⟨j + 1,vq2,by omega,by go_num,HS⟩
            case measure => simp [intOf];omega
      · have hje : j = g.rules.length:=by omega
        rw [hje,← HE.out] at HS
        clear hje
        go_wp2
        refine bodyPost_end (results_none rfl _ _ _) rfl ?_
        exact ⟨rfl,vq1,HS.out.cm,HS.out.go⟩
end Go.Proofs.Ytmkgcjhimajgiaa


set_option linter.unusedVariables false
set_option linter.unusedSimpArgs false
namespace Go.Proofs.Ytmkgcjhimajgiaa
open Go.RowKit Go.Proofs.YtmkgcjhimajgiaaW.PrintWords Go.Proofs.YtmkgcjhimajgiaaW.PrintLast

theorem endsL_eq {n j : Nat} {α : Type} (f : α → Nat → α) (a : α) : (endsL n j).foldl f a = (List.range (n + 1 - j)).foldl (fun s i => f s (j + i)) a:=by
  unfold endsL
  rw [List.foldl_map]
set_option maxRecDepth 100000 in
set_option maxHeartbeats 8000000 in
theorem follow_c (w0 W : World) (k : CB) (g : Gram) (n r : Nat) (vq : Value) (s : ChS) (p : PN) (hb : PB k g n) (hp : p.ok g n) (hl : Lens g n s) (h : CM w0 W k g n vq s r) (hq : s.q.length ≤ 2000000) :
    Calls Try.prog 49 #[.pointer (some ⟨k.b,0,none⟩),valP p] W fun e W' => e = .returned (.tuple #[]) ∧ ∃ vq',CM w0 W' k g n vq' (followF g n s p) r ∧ GoB k W W' vq vq':=by
  obtain ⟨pr,pd,pi,pj⟩:=p
  obtain ⟨h1,h2,h3,h4⟩:=hp
  simp only at h1 h2 h3 h4
  have hnn:=hb.nn
  have HB:=Aside0.mk hb
  have HQL:=Aside0.mk hq
  have HL:=Aside0.mk hl
  obtain ⟨_,hr8⟩:=hb.row h1 h2
  have HLEFT:=Aside0.mk (left_in hb.gd h1)
  have H:=Aside0.mk (show SI w0 W (W.alloc (.cells #[.int .i64 pr,.int .i64 pd,.int .i64 pi,.int .i64 pj] 30 (0,0))) k g n r vq vq s s W.heap.size (.cells #[.int .i64 pr,.int .i64 pd,.int .i64 pi,.int .i64 pj] 30 (0,0)) from
    ⟨h.below_ (below_alloc (Below.refl _ _) _),blk_new W _,h.fresh,Ext.refl _ _ _,GoB.below (below_alloc (Below.refl _ _) _) _⟩)
  have hrules : g.rules.length ≤ 60:=(goodF_small hb.gd).2.2.2
  obtain ⟨x0,hx0⟩ : ∃ x0,x0 = W.heap.size:=⟨_,rfl⟩
  obtain ⟨W1,hW1⟩ : ∃ W1,W1 = W.alloc (.cells #[.int .i64 pr,.int .i64 pd,.int .i64 pi,.int .i64 pj] 30 (0,0)):=⟨_,rfl⟩
  rw [← hW1,← hx0] at H
  have HW:=Lib.hid hW1
  have HX0:=Lib.hid hx0
  have HG0:=Aside0.mk h.g
  have x0c : W1.cell? ⟨x0,0,none⟩ = some (.int .i64 (pr : Int)):=(blk_cell H.out.bx 0).trans rfl
  have x1c : W1.cell? ⟨x0,1,none⟩ = some (.int .i64 (pd : Int)):=(blk_cell H.out.bx 1).trans rfl
  have x2c : W1.cell? ⟨x0,2,none⟩ = some (.int .i64 (pi : Int)):=(blk_cell H.out.bx 2).trans rfl
  have x3c : W1.cell? ⟨x0,3,none⟩ = some (.int .i64 (pj : Int)):=(blk_cell H.out.bx 3).trans rfl
  have HO2:=Aside0.mk (show W1.cell? ⟨k.b,2,none⟩ = some (.slice k.A3 g.rules.length k.c3) from (blk_cell H.out.cm.o 2).trans rfl)
  have HRL:=Aside0.mk (Kd.C_below HG0.out.rules H.out.cm.below)
  have HRR:=Aside0.mk (rightR_at h1)
  obtain ⟨xr,hxr⟩ : ∃ xr,xr = g.rules[pr]'h1:=⟨_,rfl⟩
  have HXR:=Lib.hid hxr
  rw [← hxr] at HRR
  have h2' : pd ≤ xr.right.length:=by rw [← HRR.out];exact h2
  have hr8' : xr.right.length ≤ 8:=by rw [← HRR.out];exact hr8
  have H1:=Aside0.mk h1
  clear h hb hq hl hW1 hx0 hxr h2 hr8
  by_cases hlen : pd = xr.right.length
  · have HE : Aside0 (followF g n s ⟨pr,pd,pi,pj⟩ = spanF g n s (leftR g pr) pi pj):=⟨by unfold followF;rw [if_pos (by simp only;rw [HRR.out];exact hlen)]⟩
    obtain ⟨ad,B1,d1,ead,hx,hy,hd1,hC1⟩:=at_rule HRL.out pr h1
    have HEAD:=Lib.hid ead
    have HLC:=Aside0.mk hx
    have HLX : Aside0 ((g.rules[pr]'h1).left = leftR g pr):=⟨(leftR_eq h1).symm⟩
    rw [HLX.out] at HLC
    have ho:=H.out.cm.o
    rw [ead] at ho
    have HK:=Aside0.mk ho
    have HX:=Aside0.mk H.out.bx
    have heq : ((pd : Int) == (xr.right.length : Int)) = true:=by rw [beq_iff_eq];omega
    clear hlen hx hy hd1 hC1 ho ead
    rw [HX0.out,HW.out] at x0c x1c x2c x3c
    go_enter Try.func49,Try.ntmps49
    go_wp2_with (go_at_call 52;go_loud (simp only [← HX0.out,← HW.out];refine (right_c k.b k.A3 k.c3 g.rules pr H1.out w0 _ H.out.cm.below HO2.out HG0.out.rules).mono ?_;rw [← HXR.out];rintro e w9 ⟨⟨Ar,cr,rfl,hcr⟩,rfl⟩;have HCR:=Aside0.mk hcr;clear hcr;rw [← HX0.out,← HW.out] at x1c))
    refine start_ (n:=17) (S:=fun w' => Below W1.heap.size W1 w') (ds:=[16]) (lb 17 0x0) (by kernel_rfl) rfl (by kernel_rfl) (below_drew1 (Below.refl _ _)) (fun hHeld => ?_)
    refine pu_ ?_ ?_ 0 (some 15) (lb 17 0x1) ?_
    refine pu_ ?_ ?_ 1 (some 16) (lb 17 0x3) ?_
    refine pu_ ?_ ?_ 2 (some 17) (lb 17 0x7) ?_
    refine pu_ ?_ ?_ 3 (some 18) (lb 17 0xf) ?_
    refine pu_ ?_ ?_ 4 (some 19) (lb 17 0x1f) ?_
    refine pu_ ?_ ?_ 6 (some 21) (lb 17 0x5f) ?_
    refine pu_ ?_ ?_ 11 (some 26) (lb 17 0x85f) ?_
    refine pu_ ?_ ?_ 13 (some 28) (lb 17 0x285f) ?_
    refine ta_ ?_ ?_ 5 (some 20) (lb 17 0x287f) hHeld ?_ (y:=by rintro w' hS;have k2:=(blk_cell (blk_below HK.out hS) 2).trans rfl;have x0:=(blk_cell (blk_below HX.out hS) 0).trans rfl;have x1:=(blk_cell (blk_below HX.out hS) 1).trans rfl;have x2:=(blk_cell (blk_below HX.out hS) 2).trans rfl;have x3:=(blk_cell (blk_below HX.out hS) 3).trans rfl;have l0:=cell_at hS HLC.out;go_simp;with_reducible rfl)
    refine ta_ ?_ ?_ 7 (some 22) (lb 17 0x28ff) hHeld ?_ (y:=by rintro w' hS;have k2:=(blk_cell (blk_below HK.out hS) 2).trans rfl;have x0:=(blk_cell (blk_below HX.out hS) 0).trans rfl;have x1:=(blk_cell (blk_below HX.out hS) 1).trans rfl;have x2:=(blk_cell (blk_below HX.out hS) 2).trans rfl;have x3:=(blk_cell (blk_below HX.out hS) 3).trans rfl;have l0:=cell_at hS HLC.out;go_simp;with_reducible rfl)
    refine pu_ ?_ ?_ 8 (some 23) (lb 17 0x29ff) ?_
    refine pu_ ?_ ?_ 9 (some 24) (lb 17 0x2bff) ?_
    refine ta_ ?_ ?_ 10 (some 25) (lb 17 0x2fff) hHeld ?_ (y:=by rintro w' hS;have k2:=(blk_cell (blk_below HK.out hS) 2).trans rfl;have x0:=(blk_cell (blk_below HX.out hS) 0).trans rfl;have x1:=(blk_cell (blk_below HX.out hS) 1).trans rfl;have x2:=(blk_cell (blk_below HX.out hS) 2).trans rfl;have x3:=(blk_cell (blk_below HX.out hS) 3).trans rfl;have l0:=cell_at hS HLC.out;go_simp;with_reducible rfl)
    refine ta_ ?_ ?_ 12 (some 27) (lb 17 0x3fff) hHeld ?_ (y:=by rintro w' hS;have k2:=(blk_cell (blk_below HK.out hS) 2).trans rfl;have x0:=(blk_cell (blk_below HX.out hS) 0).trans rfl;have x1:=(blk_cell (blk_below HX.out hS) 1).trans rfl;have x2:=(blk_cell (blk_below HX.out hS) 2).trans rfl;have x3:=(blk_cell (blk_below HX.out hS) 3).trans rfl;have l0:=cell_at hS HLC.out;go_simp;with_reducible rfl)
    refine ta_ ?_ ?_ 14 (some 29) (lb 17 0x7fff) hHeld ?_ (y:=by rintro w' hS;have k2:=(blk_cell (blk_below HK.out hS) 2).trans rfl;have x0:=(blk_cell (blk_below HX.out hS) 0).trans rfl;have x1:=(blk_cell (blk_below HX.out hS) 1).trans rfl;have x2:=(blk_cell (blk_below HX.out hS) 2).trans rfl;have x3:=(blk_cell (blk_below HX.out hS) 3).trans rfl;have l0:=cell_at hS HLC.out;go_simp;with_reducible rfl)
    refine pu_ ?_ ?_ 15 (some 30) (lb 17 0xffff) ?_
    refine ls_ 16 (some 31) (lb 17 0x1ffff) (fun K hK => ?_)
    (refine goesC_ Try.func82 (by kernel_rfl) rfl (by rfl) rfl rfl (sym_c w0 _ k g n r vq s (leftR g pr) pi pj HB.out (by have:=HLEFT.out;omega) HLEFT.out.2 h3 h4 HL.out (H.out.below_ hHeld).cm HQL.out) (by simp [Act.eval]) ?_;rintro e w9 ⟨rfl,vq',h9,g9⟩;refine ⟨_,rfl,?_⟩;have H9:=Aside0.mk h9;have HG9:=Aside0.mk ((H.out.go.trans (GoB.below hHeld vq)).trans g9);clear h9 g9)
    refine hK.out _ _ ?_
    clear hK K
    refine nm_ ?_ (some 31) ?_
    refine done_ (by kernel_rfl) ?_
    go_wp2
    refine bodyPost_ret (results_none rfl _ _ _) rfl ?_
    exact ⟨rfl,vq',by rw [HE.out];exact H9.out,HG9.out⟩
  · have hdl : pd < xr.right.length:=by omega
    obtain ⟨y,hy⟩ : ∃ y,y = xr.right[pd]'hdl:=⟨_,rfl⟩
    have hyg : (rightR g pr).getD pd 0 = y:=by rw [HRR.out,List.getD_eq_getElem?_getD,List.getElem?_eq_getElem hdl,hy];rfl
    have hyin:=right_mem HB.out.gd h1 (d:=pd) (x:=y) (by rw [HRR.out,List.getElem?_eq_getElem hdl,hy])
    obtain ⟨yn,rfl⟩:=Int.eq_ofNat_of_zero_le hyin.1
    have hyn : yn ≤ 80:=by have h5:=goodF_small HB.out.gd;have:=hyin.2;unfold nsym at this;omega
    have HE : Aside0 (followF g n s ⟨pr,pd,pi,pj⟩ = (List.range (n + 1 - pj)).foldl (fun s i => stepE g n ⟨pr,pd,pi,pj⟩ (yn : Int) s (pj + i)) s):=⟨by unfold followF;rw [if_neg (by simp only;rw [HRR.out];exact hlen)];simp only;rw [hyg,endsL_eq]⟩
    have HYN : Aside0 (yn < nsym g):=⟨by have:=hyin.2;omega⟩
    have HY:=Lib.hid hy
    have heq : ((pd : Int) == (xr.right.length : Int)) = false:=by rw [beq_eq_false_iff_ne];omega
    have k2 : (pd : Int) < (xr.right.length : Int):=by omega
    clear hlen hy hyg hyin
    rw [HX0.out,HW.out] at x0c x1c x2c x3c
    go_enter Try.func49,Try.ntmps49
    go_wp2_with (go_at_call 52;go_loud (simp only [← HX0.out,← HW.out];refine (right_c k.b k.A3 k.c3 g.rules pr H1.out w0 _ H.out.cm.below HO2.out HG0.out.rules).mono ?_;rw [← HXR.out];rintro e w9 ⟨⟨Ar,cr,rfl,hcr⟩,rfl⟩;have HCR:=Aside0.mk hcr;clear hcr;rw [← HX0.out,← HW.out] at x1c x3c))
    clear x0c x1c x2c x3c heq
    go_loopw [5] (fun i wr => ∃ (m : Nat) (vq' : Value),m ≤ n + 1 - pj ∧ i = .int .i64 ((pj + m : Nat) : Int) ∧ Aside0 (SI w0 W wr k g n r vq vq' s ((List.range m).foldl (fun s i => stepE g n ⟨pr,pd,pi,pj⟩ (yn : Int) s (pj + i)) s) x0 (.cells #[.int .i64 pr,.int .i64 pd,.int .i64 pi,.int .i64 pj] 30 (0,0)))) (fun i _ => n + 1 - (intOf i).toNat)
    case atStart => exact ⟨0,vq,Nat.zero_le _,rfl,H⟩
    case round =>
      clear H
      obtain ⟨m,vq1,hm,rfl,HS⟩:=hrel
      rename World => wm
      have o3 : wm.cell? ⟨k.b,3,none⟩ = some (.int .i64 (n : Int)):=(blk_cell HS.out.cm.o 3).trans rfl
      by_cases hml : pj + m ≤ n
      · have m2 : ((pj + m : Nat) : Int) ≤ (n : Int):=by omega
        obtain ⟨sm,hsm⟩ : ∃ sm,sm = (List.range m).foldl (fun s i => stepE g n ⟨pr,pd,pi,pj⟩ (yn : Int) s (pj + i)) s:=⟨_,rfl⟩
        rw [← hsm] at HS
        have HSM : Aside0 ((List.range (m + 1)).foldl (fun s i => stepE g n ⟨pr,pd,pi,pj⟩ (yn : Int) s (pj + i)) s = stepE g n ⟨pr,pd,pi,pj⟩ (yn : Int) sm (pj + m)):=⟨by rw [foldl_range_succ,← hsm]⟩
        clear hsm
        obtain ⟨pm,hpm⟩ : ∃ pm,pm = pj + m:=⟨_,rfl⟩
        rw [← hpm] at m2 hml HSM ⊢
        have HPM:=Lib.hid hpm
        have HK:=Aside0.mk HS.out.cm.o
        have HX:=Aside0.mk HS.out.bx
        obtain ⟨adr,eadr,hrc⟩:=at_int (Kd.C_below HCR.out HS.out.cm.below) pd hdl
        rw [← HY.out] at hrc
        cases eadr
        have HRC:=Aside0.mk hrc
        obtain ⟨pz,hpz⟩ : ∃ pz,pz = atF n yn pj pm:=⟨_,rfl⟩
        have hzl : pz < k.ls:=by rw [hpz,HB.out.ls];exact atF_lt HYN.out h4 hml
        have HPZ:=Lib.hid hpz
        have z2 : (pz : Int) < (k.ls : Int):=by omega
        obtain ⟨v,hv⟩ : ∃ v,hasS n sm (yn : Int) pj pm = v:=⟨_,rfl⟩
        have HZC:=Aside0.mk (HS.out.cm.sy.cell' (i:=pz) (v:=v) (by rw [HS.out.cm.ls];exact hzl) (by rw [getB_nat,hpz];exact hv))
        have HST:=Lib.hid (show stepE g n ⟨pr,pd,pi,pj⟩ (yn : Int) sm pm = if v = true then partF g n sm ⟨pr,pd + 1,pi,pm⟩ else sm by unfold stepE;simp only;rw [hv])
        have HOK2 : Aside0 (PN.ok g n ⟨pr,pd + 1,pi,pm⟩):=⟨⟨h1,by simp only;rw [HRR.out];exact hdl,h3,hml⟩⟩
        clear hrc hpz hv hzl hpm
        go_upto_region 7 with (fail)
        refine start_ (n:=16) (S:=fun w' => Below wm.heap.size wm w') (ds:=[]) (lb 16 0x0) (by kernel_rfl) rfl (by kernel_rfl) (below_drew1 (Below.refl _ _)) (fun hHeld => ?_)
        refine pu_ ?_ ?_ 0 (some 42) (lb 16 0x1) ?_
        refine pu_ ?_ ?_ 1 (some 43) (lb 16 0x3) ?_
        refine pu_ ?_ ?_ 2 (some 44) (lb 16 0x7) ?_
        refine pu_ ?_ ?_ 4 (some 46) (lb 16 0x17) ?_
        refine pu_ ?_ ?_ 5 (some 47) (lb 16 0x37) ?_
        refine pu_ ?_ ?_ 6 (some 48) (lb 16 0x77) ?_
        refine pu_ ?_ ?_ 10 (some 52) (lb 16 0x477) ?_
        refine pu_ ?_ ?_ 12 (some 54) (lb 16 0x1477) ?_
        refine ta_ ?_ ?_ 3 (some 45) (lb 16 0x147f) hHeld ?_ (y:=by rintro w' hS;have d0:=(blk_cell (blk_below HK.out hS) 0).trans rfl;have d1:=(blk_cell (blk_below HK.out hS) 1).trans rfl;have d2:=(blk_cell (blk_below HK.out hS) 2).trans rfl;have d3:=(blk_cell (blk_below HK.out hS) 3).trans rfl;have d4:=(blk_cell (blk_below HK.out hS) 4).trans rfl;have d5:=(blk_cell (blk_below HK.out hS) 5).trans rfl;have d6:=(blk_cell (blk_below HK.out hS) 6).trans rfl;have d7:=(blk_cell (blk_below HK.out hS) 7).trans rfl;have d8:=(blk_cell (blk_below HK.out hS) 8).trans rfl;have d9:=(blk_cell (blk_below HX.out hS) 0).trans rfl;have d10:=(blk_cell (blk_below HX.out hS) 1).trans rfl;have d11:=(blk_cell (blk_below HX.out hS) 2).trans rfl;have d12:=(blk_cell (blk_below HX.out hS) 3).trans rfl;have d13:=cell_at hS HRC.out;have d14:=cell_at hS HZC.out;go_simp;with_reducible rfl)
        refine ta_ ?_ ?_ 7 (some 49) (lb 16 0x14ff) hHeld ?_ (y:=by rintro w' hS;have d0:=(blk_cell (blk_below HK.out hS) 0).trans rfl;have d1:=(blk_cell (blk_below HK.out hS) 1).trans rfl;have d2:=(blk_cell (blk_below HK.out hS) 2).trans rfl;have d3:=(blk_cell (blk_below HK.out hS) 3).trans rfl;have d4:=(blk_cell (blk_below HK.out hS) 4).trans rfl;have d5:=(blk_cell (blk_below HK.out hS) 5).trans rfl;have d6:=(blk_cell (blk_below HK.out hS) 6).trans rfl;have d7:=(blk_cell (blk_below HK.out hS) 7).trans rfl;have d8:=(blk_cell (blk_below HK.out hS) 8).trans rfl;have d9:=(blk_cell (blk_below HX.out hS) 0).trans rfl;have d10:=(blk_cell (blk_below HX.out hS) 1).trans rfl;have d11:=(blk_cell (blk_below HX.out hS) 2).trans rfl;have d12:=(blk_cell (blk_below HX.out hS) 3).trans rfl;have d13:=cell_at hS HRC.out;have d14:=cell_at hS HZC.out;go_simp;with_reducible rfl)
        refine pu_ ?_ ?_ 8 (some 50) (lb 16 0x15ff) ?_
        refine ta_ ?_ ?_ 9 (some 51) (lb 16 0x17ff) hHeld ?_ (y:=by rintro w' hS;have d0:=(blk_cell (blk_below HK.out hS) 0).trans rfl;have d1:=(blk_cell (blk_below HK.out hS) 1).trans rfl;have d2:=(blk_cell (blk_below HK.out hS) 2).trans rfl;have d3:=(blk_cell (blk_below HK.out hS) 3).trans rfl;have d4:=(blk_cell (blk_below HK.out hS) 4).trans rfl;have d5:=(blk_cell (blk_below HK.out hS) 5).trans rfl;have d6:=(blk_cell (blk_below HK.out hS) 6).trans rfl;have d7:=(blk_cell (blk_below HK.out hS) 7).trans rfl;have d8:=(blk_cell (blk_below HK.out hS) 8).trans rfl;have d9:=(blk_cell (blk_below HX.out hS) 0).trans rfl;have d10:=(blk_cell (blk_below HX.out hS) 1).trans rfl;have d11:=(blk_cell (blk_below HX.out hS) 2).trans rfl;have d12:=(blk_cell (blk_below HX.out hS) 3).trans rfl;have d13:=cell_at hS HRC.out;have d14:=cell_at hS HZC.out;go_simp;with_reducible rfl)
        refine ta_ ?_ ?_ 11 (some 53) (lb 16 0x1fff) hHeld ?_ (y:=by rintro w' hS;have d0:=(blk_cell (blk_below HK.out hS) 0).trans rfl;have d1:=(blk_cell (blk_below HK.out hS) 1).trans rfl;have d2:=(blk_cell (blk_below HK.out hS) 2).trans rfl;have d3:=(blk_cell (blk_below HK.out hS) 3).trans rfl;have d4:=(blk_cell (blk_below HK.out hS) 4).trans rfl;have d5:=(blk_cell (blk_below HK.out hS) 5).trans rfl;have d6:=(blk_cell (blk_below HK.out hS) 6).trans rfl;have d7:=(blk_cell (blk_below HK.out hS) 7).trans rfl;have d8:=(blk_cell (blk_below HK.out hS) 8).trans rfl;have d9:=(blk_cell (blk_below HX.out hS) 0).trans rfl;have d10:=(blk_cell (blk_below HX.out hS) 1).trans rfl;have d11:=(blk_cell (blk_below HX.out hS) 2).trans rfl;have d12:=(blk_cell (blk_below HX.out hS) 3).trans rfl;have d13:=cell_at hS HRC.out;have d14:=cell_at hS HZC.out;go_simp;with_reducible rfl)
        refine on_ 13 (some 55) (lb 16 0x3fff) (fun K hK => ?_)
        (refine goesC_ Try.func46 (by kernel_rfl) rfl (by rfl) rfl rfl (at_c k.b n _ _ _ yn pj pm _ (t:=97) (cs:=#[]) ((blk_cell (blk_below HK.out hHeld) 3).trans rfl) (by omega) rfl rfl rfl (by omega) (by omega) (by omega)) (by simp [Act.eval]) ?_;rintro e w9 ⟨rfl,hb9⟩;refine ⟨_,rfl,?_⟩;have HQ9:=Aside0.mk (below_then hHeld hHeld.size hb9);simp only [← HPZ.out];clear hb9;refine hK.out _ _ HQ9.out (fun hHeld => ?_))
        clear hK K
        refine nm_ ?_ (some 55) ?_
        refine pu_ ?_ ?_ 14 (some 56) (lb 16 0x7fff) ?_
        refine ta_ ?_ ?_ 15 (some 57) (lb 16 0xffff) hHeld ?_ (y:=by rintro w' hS;have d0:=(blk_cell (blk_below HK.out hS) 0).trans rfl;have d1:=(blk_cell (blk_below HK.out hS) 1).trans rfl;have d2:=(blk_cell (blk_below HK.out hS) 2).trans rfl;have d3:=(blk_cell (blk_below HK.out hS) 3).trans rfl;have d4:=(blk_cell (blk_below HK.out hS) 4).trans rfl;have d5:=(blk_cell (blk_below HK.out hS) 5).trans rfl;have d6:=(blk_cell (blk_below HK.out hS) 6).trans rfl;have d7:=(blk_cell (blk_below HK.out hS) 7).trans rfl;have d8:=(blk_cell (blk_below HK.out hS) 8).trans rfl;have d9:=(blk_cell (blk_below HX.out hS) 0).trans rfl;have d10:=(blk_cell (blk_below HX.out hS) 1).trans rfl;have d11:=(blk_cell (blk_below HX.out hS) 2).trans rfl;have d12:=(blk_cell (blk_below HX.out hS) 3).trans rfl;have d13:=cell_at hS HRC.out;have d14:=cell_at hS HZC.out;go_simp;with_reducible rfl)
        refine done_ (by kernel_rfl) ?_
        rename World => wn
        have HS2:=Aside0.mk (HS.out.below_ hHeld)
        have x0c : wn.cell? ⟨x0,0,none⟩ = some (.int .i64 (pr : Int)):=(blk_cell HS2.out.bx 0).trans rfl
        have x1c : wn.cell? ⟨x0,1,none⟩ = some (.int .i64 (pd : Int)):=(blk_cell HS2.out.bx 1).trans rfl
        have x2c : wn.cell? ⟨x0,2,none⟩ = some (.int .i64 (pi : Int)):=(blk_cell HS2.out.bx 2).trans rfl
        clear hHeld o3
        cases v
        · go_wp2
          go_roundw
          case rel => exact ⟨m + 1,vq1,by have:=HPM.out;omega,by rw [HPM.out];go_num,by rw [HSM.out,HST.out];exact HS2⟩
          case measure => simp [intOf];omega
        · have hq3:=(HS2.out.qlen HB.out HL.out HQL.out).1
          go_wp2_with (go_at_call 47;go_loud (refine (part_c w0 _ k g n r vq1 sm ⟨pr,pd + 1,pi,pm⟩ HB.out HOK2.out HS2.out.cm (by omega)).mono ?_;rintro e w9 ⟨rfl,vq4,h9,g9⟩;have HS4:=Aside0.mk (HS2.out.next h9 g9 (ext_part HOK2.out));clear h9 g9))
          go_roundw
          case rel => exact ⟨m + 1,vq4,by have:=HPM.out;omega,by rw [HPM.out];go_num,by rw [HSM.out,HST.out];exact HS4⟩
          case measure => simp [intOf];omega
      · have hme : m = n + 1 - pj:=by omega
        have m2 : ¬ ((pj + m : Nat) : Int) ≤ (n : Int):=by omega
        rw [hme,← HE.out] at HS
        clear hme
        go_wp2
        refine bodyPost_end (results_none rfl _ _ _) rfl ?_
        exact ⟨rfl,vq1,HS.out.cm,HS.out.go⟩
end Go.Proofs.Ytmkgcjhimajgiaa


set_option linter.unusedVariables false
set_option linter.unusedSimpArgs false
namespace Go.Proofs.Ytmkgcjhimajgiaa
open Go.RowKit Go.Proofs.YtmkgcjhimajgiaaW.PrintWords Go.Proofs.YtmkgcjhimajgiaaW.PrintLast Go.Conc

theorem pn_far {w : World} {e base : Nat} {ok : Nat → Prop} {v : Value} {xs : List PN} (h : kPN.R e w base ok v xs) {g : Nat} (hne : some g ≠ v.ownBlock) : kPN.R e w base (fun k => ok k ∧ k ≠ g) v xs :=
  ⟨fun k hk => ⟨h.1 k hk,fun e => hne (by rw [← e];exact hk.symm)⟩,h.2.imp_ (fun _ _ hp => by
    obtain ⟨_,_,rfl,rfl,⟨_,_,rfl,rfl,⟨_,_,rfl,rfl,rfl⟩⟩⟩:=hp
    exact M_pn _ _ _ _)⟩
theorem CMb.box {bf : Array Value} {w0 W : World} {k : CB} {g : Gram} {n r : Nat} {vq : Value} {s : ChS} (h : CMb bf w0 W k g n vq s r) {q : Nat} {cs : Array Value} (hq : W.heap[q]? = some (.cells cs 30 (0,0))) (hn : q ≠ k.b ∧ q ≠ k.p ∧ q ≠ k.s ∧ q ≠ k.ch) (hv : some q ≠ vq.ownBlock) (hl : w0.heap.size ≤ q) (i : Nat) (u : Value) : CMb bf w0 (W.setCell ⟨q,i,none⟩ u) k g n vq s r:=by
  obtain ⟨z,hc⟩:=h.ch
  have hR:=Kd.R_mono (Kd.R_far (pn_far h.q hv) (p:=⟨q,i,none⟩) (fun k hk => hk.2) u) (fun _ hk => hk.1)
  exact ⟨set_heap_far h.o (Ne.symm hn.1),set_heap_far h.sy (Ne.symm hn.2.2.1),set_heap_far h.pa (Ne.symm hn.2.1),h.sp,h.ls,h.lp,R_setOther h.ba hq (by decide) i u,hR,⟨z,set_heap_far hc (Ne.symm hn.2.2.2)⟩,below_set h.below hl _ _,h.lo,h.g⟩
structure BX (w0 W : World) (k : CB) (vq : Value) (q : Nat) (cs : Array Value) : Prop where
  o : W.heap[q]? = some (.cells cs 30 (0,0))
  nb : q ≠ k.b ∧ q ≠ k.p ∧ q ≠ k.s ∧ q ≠ k.ch
  nv : some q ≠ vq.ownBlock
  lo : w0.heap.size ≤ q
theorem CMb.write {bf : Array Value} {w0 W : World} {k : CB} {g : Gram} {n r : Nat} {vq : Value} {s : ChS} (h : CMb bf w0 W k g n vq s r) {q : Nat} {a b c d : Value} (hx : BX w0 W k vq q #[a,b,c,d]) (a' b' c' d' : Value) :
    CMb bf w0 ((((W.setCell ⟨q,0,none⟩ a').setCell ⟨q,1,none⟩ b').setCell ⟨q,2,none⟩ c').setCell ⟨q,3,none⟩ d') k g n vq s r ∧ BX w0 ((((W.setCell ⟨q,0,none⟩ a').setCell ⟨q,1,none⟩ b').setCell ⟨q,2,none⟩ c').setCell ⟨q,3,none⟩ d') k vq q #[a',b',c',d']:=by
  obtain ⟨ho,hn,hv,hl⟩:=hx
  have h1:=blk_set ho 0 a'
  have h2:=blk_set h1 1 b'
  have h3:=blk_set h2 2 c'
  have h4:=blk_set h3 3 d'
  exact ⟨(((h.box ho hn hv hl 0 a').box h1 hn hv hl 1 b').box h2 hn hv hl 2 c').box h3 hn hv hl 3 d',h4,hn,hv,hl⟩
theorem results_take {tmps : Array Value} {W : World} {q : Nat} {a b c d : Int} {v : Bool} (t2 : tmps.getD 2 undef = .pointer (some ⟨q,0,none⟩)) (t3 : tmps.getD 3 undef = .bool v)
    (h : W.heap[q]? = some (.cells #[.int .i64 a,.int .i64 b,.int .i64 c,.int .i64 d] 30 (0,0))) :
    (results Try.f48 tmps).run Try.prog W = .ok (.tuple #[.agg #[.int .i64 a,.int .i64 b,.int .i64 c,.int .i64 d],.bool v]) W:=by
  have d1:=blk_cell h 0
  have d2:=blk_cell h 1
  have d3:=blk_cell h 2
  have d4:=blk_cell h 3
  simp only [List.getElem?_toArray,List.getElem?_cons_zero,List.getElem?_cons_succ] at d1 d2 d3 d4
  simp only [Array.getD_eq_getD_getElem?] at t2 t3
  simp [results,Try.results48,go_sem,d1,d2,d3,d4,t2,t3]
set_option maxRecDepth 100000 in
set_option maxHeartbeats 4000000 in
theorem take_none (w0 W : World) (k : CB) (g : Gram) (n r : Nat) (vq : Value) (s : ChS) (h : CM w0 W k g n vq s r) (hq : s.q = []) :
    Calls Try.prog 48 #[.pointer (some ⟨k.b,7,none⟩)] W fun e W' => e = .returned (.tuple #[.agg #[.int .i64 0,.int .i64 0,.int .i64 0,.int .i64 0],.bool false]) ∧ CM w0 W' k g n vq s r:=by
  obtain ⟨A,c,rfl⟩:=Kd.R_slice h.q
  have hlen : s.q.length = 0:=by rw [hq];rfl
  rw [hlen] at h ⊢
  have H:=Aside0.mk (h.below_ (below_alloc (Below.refl _ _) (.cells #[.int .i64 0,.int .i64 0,.int .i64 0,.int .i64 0] 30 (0,0))))
  have HX:=Aside0.mk (blk_new W (.cells #[.int .i64 0,.int .i64 0,.int .i64 0,.int .i64 0] 30 (0,0)))
  have HF:=Aside0.mk h.fresh
  have HL0:=Aside0.mk h.below.size
  have d7:=(blk_cell H.out.o 7).trans rfl
  have d8:=(blk_cell H.out.o 8).trans rfl
  clear h hq hlen
  refine calls_of_wpN Try.func48 rfl ?_
  simp only [Try.ntmps48,List.size_toArray,List.length_cons,List.length_nil,Nat.reduceAdd,Nat.reduceSub,Array.replicate_succ,Array.replicate_zero,List.push_toArray,List.append_toArray,List.nil_append,List.cons_append]
  refine wpN_seq_k (fun K hK => ?_)
  go_wp2
  refine wpN_seq_n (fun K1 hK1 => ?_)
  refine wpN_seq_k (fun K hK => ?_)
  go_wp2
  refine wpN_seq_k (fun K hK => ?_)
  go_wp2
  refine wpN_cond (t:=false) rfl ?_
  refine wpN_of_wp ?_
  go_wp2
  refine wpN_seq_k (fun K hK => ?_)
  go_wp2
  refine wpN_seq_n (fun K hK => ?_)
  refine wpN_region ?_
  show inN _ _ [0,1,2] _ _ _
  obtain ⟨z,hch⟩:=H.out.ch
  refine inN_default (c:=k.ch) (cap:=1) (s:=z) (r:=r) (tm:=false) (o:=?o1) (z:=?z1) (w₁:=?w1) (by simp only [List.getElem?_toArray,List.getElem?_cons_zero,List.getElem?_cons_succ];rfl) (by rfl) ?h1 ?c1 ?_
  case h1 => (go_simp;first | rfl | (constructor;rfl;rfl))
  case c1 => exact hch
  simp only [Act.put,List.setIfInBounds_toArray,List.set_cons_zero,List.set_cons_succ]
  refine inN_value (o:=?o2) (v:=?v2) (w':=?w2) (by simp only [List.getElem?_toArray,List.getElem?_cons_zero,List.getElem?_cons_succ];rfl) (by rfl) ?h2 ?_
  case h2 => (go_simp;first | rfl | (constructor;rfl;rfl))
  simp only [Act.put,List.setIfInBounds_toArray,List.set_cons_zero,List.set_cons_succ]
  refine inN_value (o:=?o3) (v:=?v3) (w':=?w3) (by simp only [List.getElem?_toArray,List.getElem?_cons_zero,List.getElem?_cons_succ];rfl) (by rfl) ?h3 ?_
  case h3 => (go_simp;first | rfl | (constructor;rfl;rfl))
  simp only [Act.put,List.setIfInBounds_toArray,List.set_cons_zero,List.set_cons_succ]
  refine inN_nil ?_
  simp only [Exit.inBlock,Exit.then]
  refine hK _ _ ?_
  refine wpN_of_wp ?_
  have x0:=(blk_cell HX.out 0).trans rfl
  have x1:=(blk_cell HX.out 1).trans rfl
  have x2:=(blk_cell HX.out 2).trans rfl
  have x3:=(blk_cell HX.out 3).trans rfl
  have f0:=blk_frozen HX.out 0
  have f1:=blk_frozen HX.out 1
  have f2:=blk_frozen HX.out 2
  have f3:=blk_frozen HX.out 3
  clear hch
  go_wp2
  refine bodyPost_ret (results_take rfl rfl HX.out) rfl ?_
  exact ⟨rfl,H.out⟩
set_option maxRecDepth 100000 in
set_option maxHeartbeats 8000000 in
theorem take_some (w0 W : World) (k : CB) (g : Gram) (n r : Nat) (vq : Value) (s : ChS) (q : List PN) (p : PN) (h : CM w0 W k g n vq s r) (hq : s.q = q ++ [p]) (hm : q.length ≤ 4000000) :
    Calls Try.prog 48 #[.pointer (some ⟨k.b,7,none⟩)] W fun e W' => e = .returned (.tuple #[valP p,.bool true]) ∧ ∃ vq',CM w0 W' k g n vq' { s with q:=q } (r + 1):=by
  obtain ⟨m,hml⟩ : ∃ m,m = q.length:=⟨_,rfl⟩
  have hlen : s.q.length = m + 1:=by rw [hq];simp [hml]
  obtain ⟨qg,cap,rfl,_,_,_,_⟩:=Kd.R_form h.q (by omega)
  rw [hlen] at h
  have hcap:=(Kd.R_reads' h.q).2.1
  have hC:=(Kd.R_reads' h.q).2.2
  obtain ⟨ad,ead,e0,e1,e2,e3⟩:=at_pn hC m (by omega)
  cases ead
  have hp : s.q[m]'(by omega) = p:=by simp [hq,hml]
  rw [hp,add0_] at e0 e1 e2 e3
  simp only at e1 e2 e3
  have HE0:=Aside0.mk e0
  have HE1:=Aside0.mk e1
  have HE2:=Aside0.mk e2
  have HE3:=Aside0.mk e3
  have hRT : Aside0 (kPN.R 30 W w0.heap.size (fun _ => True) (.slice (some ⟨qg,0,none⟩) m cap) q):=⟨by
    have:=Kd.R_take h.q (m:=m) (by omega)
    rwa [show s.q.take m = q by rw [hq,hml];simp] at this⟩
  obtain ⟨ti,hti⟩ : ∃ i,Try.prog.info? 30 = some i:=by
    obtain ⟨i,hi,_⟩:=Option.map_eq_some_iff.1 infoPart
    exact ⟨i,hi⟩
  have hsl : ∀ W : World,(Instr.slice 93 (.slice (some ⟨qg,0,none⟩) (m + 1) cap) none (some (.int .i64 (m : Int))) none).run Try.prog W = .ok (.slice (some ⟨qg,0,none⟩) m cap) W:=fun W => by
    have:=cut_to (P:=Try.prog) 93 30 .i64 Try.underlying93 hti (some ⟨qg,0,none⟩) (m + 1) cap (m : Int) (by omega) (by omega) hcap W
    rwa [Int.toNat_natCast] at this
  have e9 : IntKind.i64.wrap (m : Int) = (m : Int):=IntWalk.i64_in _ (by omega)
  have HML:=Lib.hid hml
  have H:=Aside0.mk (h.below_ (below_alloc (Below.refl _ _) (.cells #[.int .i64 0,.int .i64 0,.int .i64 0,.int .i64 0] 30 (0,0))))
  have HB:=Aside0.mk (below_alloc (Below.refl W.heap.size W) (.cells #[.int .i64 0,.int .i64 0,.int .i64 0,.int .i64 0] 30 (0,0)))
  have HX:=Aside0.mk (blk_new W (.cells #[.int .i64 0,.int .i64 0,.int .i64 0,.int .i64 0] 30 (0,0)))
  have HF:=Aside0.mk h.fresh
  have HL0:=Aside0.mk h.below.size
  have HQ1:=Aside0.mk (Kd.R_below hRT.out HB.out)
  have E0:=Aside0.mk (pw_cell_below HB.out HE0.out)
  have E1:=Aside0.mk (pw_cell_below HB.out HE1.out)
  have E2:=Aside0.mk (pw_cell_below HB.out HE2.out)
  have E3:=Aside0.mk (pw_cell_below HB.out HE3.out)
  clear HB hRT
  obtain ⟨x0,hx0⟩ : ∃ x0,x0 = W.heap.size:=⟨_,rfl⟩
  obtain ⟨W1,hW1⟩ : ∃ W1,W1 = W.alloc (.cells #[.int .i64 0,.int .i64 0,.int .i64 0,.int .i64 0] 30 (0,0)):=⟨_,rfl⟩
  have d7:=(blk_cell H.out.o 7).trans rfl
  have i2 : (m : Int) < (m : Int) + 1:=by omega
  have HHQ:=Lib.hid hq
  clear h hq hlen hC e0 e1 e2 e3 hp hti hcap hm hml
  refine calls_of_wpN Try.func48 rfl ?_
  simp only [Try.ntmps48,List.size_toArray,List.length_cons,List.length_nil,Nat.reduceAdd,Nat.reduceSub,Array.replicate_succ,Array.replicate_zero,List.push_toArray,List.append_toArray,List.nil_append,List.cons_append]
  refine wpN_seq_k (fun K hK => ?_)
  go_wp2
  refine wpN_seq_n (fun K1 hK1 => ?_)
  refine wpN_seq_k (fun K hK => ?_)
  go_wp2
  refine wpN_seq_k (fun K hK => ?_)
  go_wp2
  refine wpN_cond (t:=true) rfl ?_
  simp only [if_true]
  refine wpN_seq_n (fun K3 hK3 => ?_)
  clear d7
  simp only [← hx0] at *
  rw [← hW1] at H HX HQ1 E0 E1 E2 E3 ⊢
  clear hx0 hW1 HE0 HE1 HE2 HE3
  have HK:=Aside0.mk H.out.o
  refine startN_ (n:=13) (S:=fun w' => Below W1.heap.size W1 w') (ds:=[]) 12 (lb 13 0x0) (by kernel_rfl) rfl (by kernel_rfl) (below_drew1 (Below.refl _ _)) (fun hHeld => ?_)
  simp only [stillAt,stillO,List.setIfInBounds_toArray,List.set_cons_zero,List.set_cons_succ,Array.getD_eq_getD_getElem?,List.getElem?_toArray,List.getElem?_cons_zero,List.getElem?_cons_succ,Option.getD_some]
  refine pu_ ?_ ?_ 0 (some 12) (lb 13 0x1) ?_
  refine pu_ ?_ ?_ 1 (some 13) (lb 13 0x3) ?_
  refine pu_ ?_ ?_ 2 (some 14) (lb 13 0x7) ?_
  refine pu_ ?_ ?_ 4 (some 16) (lb 13 0x17) ?_
  refine pu_ ?_ ?_ 5 (some 17) (lb 13 0x37) ?_
  refine pu_ ?_ ?_ 6 (some 18) (lb 13 0x77) ?_
  refine pu_ ?_ ?_ 8 (some 20) (lb 13 0x177) ?_
  refine pu_ ?_ ?_ 9 (some 21) (lb 13 0x377) ?_
  refine ta_ ?_ ?_ 3 (some 15) (lb 13 0x37f) hHeld ?_ (y:=by rintro w' hS;have d7:=(blk_cell (blk_below HK.out hS) 7).trans rfl;have d8:=(blk_cell (blk_below HK.out hS) 8).trans rfl;have c0:=cell_at hS E0.out;have c1:=cell_at hS E1.out;have c2:=cell_at hS E2.out;have c3:=cell_at hS E3.out;go_simp;with_reducible rfl)
  refine ta_ ?_ ?_ 7 (some 19) (lb 13 0x3ff) hHeld ?_ (y:=by rintro w' hS;have d7:=(blk_cell (blk_below HK.out hS) 7).trans rfl;have d8:=(blk_cell (blk_below HK.out hS) 8).trans rfl;have c0:=cell_at hS E0.out;have c1:=cell_at hS E1.out;have c2:=cell_at hS E2.out;have c3:=cell_at hS E3.out;go_simp;with_reducible rfl)
  refine pu_ ?_ ?_ 10 (some 22) (lb 13 0x7ff) ?_
  refine ta_ ?_ ?_ 11 (some 23) (lb 13 0xfff) hHeld ?_ (y:=by rintro w' hS;have d7:=(blk_cell (blk_below HK.out hS) 7).trans rfl;have d8:=(blk_cell (blk_below HK.out hS) 8).trans rfl;have c0:=cell_at hS E0.out;have c1:=cell_at hS E1.out;have c2:=cell_at hS E2.out;have c3:=cell_at hS E3.out;go_simp;with_reducible rfl)
  refine pu_ ?_ ?_ 12 none (lb 13 0x1fff) ?_
  refine done_ (by kernel_rfl) ?_
  simp only [EndQ]
  obtain ⟨z,hch0⟩:=H.out.ch
  have hch : W1.drew.heap[k.ch]? = some (.chan 1 #[] false z r false):=heap_below hch0 hHeld
  refine inN_send (c:=k.ch) (cap:=1) (buf:=#[]) (s:=z) (r:=r) (tm:=false) (o:=?o4) (v:=?v4) (z':=?z4) (w₁:=?w4) (by simp only [List.getElem?_toArray,List.getElem?_cons_zero,List.getElem?_cons_succ];rfl) (by rfl) ?h4 ?c4 (by decide) ?_
  case h4 => (go_simp;first | rfl | (constructor;rfl;rfl))
  case c4 => exact hch
  simp only [Act.put,List.setIfInBounds_toArray,List.set_cons_zero,List.set_cons_succ]
  refine inN_nil ?_
  simp only [Exit.then]
  refine hK3 _ _ ?_
  refine wpN_of_wp ?_
  have H2:=Aside0.mk ((H.out.below_ hHeld).setC #[valP p] (z + 1) r)
  have HQ2 : Aside0 (kPN.R 30 (W1.drew.setChan k.ch 1 #[valP p] false (z + 1) r false) w0.heap.size (fun _ => True) (.slice (some ⟨qg,0,none⟩) m cap) q):=⟨by
    have:=Kd.R_take H2.out.q (m:=m) (by rw [HHQ.out];simp [HML.out])
    rwa [show s.q.take m = q by rw [HHQ.out,HML.out];simp] at this⟩
  have HX2 : Aside0 ((W1.drew.setChan k.ch 1 #[valP p] false (z + 1) r false).heap[x0]? = some (.cells #[.int .i64 0,.int .i64 0,.int .i64 0,.int .i64 0] 30 (0,0))):=⟨chan_far (blk_below HX.out hHeld) (Ne.symm (blk_ch_ne (blk_below HX.out hHeld) hch))⟩
  have d7:=(blk_cell H2.out.o 7).trans rfl
  have f7:=blk_frozen H2.out.o 7
  have H3:=Aside0.mk (H2.out.setQ HQ2.out)
  have HX3:=Aside0.mk (set_heap_far (b:=k.b) (i:=7) (u:=.slice (some ⟨qg,0,none⟩) m cap) HX2.out HF.out.1.1)
  clear hch0 hch hHeld
  rw [Array.push_empty]
  go_wp2
  obtain ⟨W3,hW3⟩ : ∃ W3,W3 = (W1.drew.setChan k.ch 1 #[valP p] false (z + 1) r false).setCell ⟨k.b,7,none⟩ (.slice (some ⟨qg,0,none⟩) m cap):=⟨_,rfl⟩
  rw [← hW3] at H3 HX3 ⊢
  clear hW3 d7 f7 HQ2 HX2
  clear H2
  have d8:=(blk_cell H3.out.o 8).trans rfl
  refine wpN_seq_k (fun K hK => ?_)
  go_wp2
  refine wpN_seq_n (fun K hK => ?_)
  refine wpN_region ?_
  show inN _ _ [0,1,2] _ _ _
  obtain ⟨z2,hch2⟩:=H3.out.ch
  refine inN_take (c:=k.ch) (cap:=1) (buf:=#[valP p]) (s:=z2) (r:=r) (tm:=false) (closed:=false) (o:=?o5) (z:=?z5) (w₁:=?w5) (by simp only [List.getElem?_toArray,List.getElem?_cons_zero,List.getElem?_cons_succ];rfl) (by rfl) ?h5 ?c5 (by simp) ?_
  case h5 => (go_simp;first | rfl | (constructor;rfl;rfl))
  case c5 => exact hch2
  simp only [Act.put,List.setIfInBounds_toArray,List.set_cons_zero,List.set_cons_succ]
  refine inN_value (o:=?o6) (v:=?v6) (w':=?w6) (by simp only [List.getElem?_toArray,List.getElem?_cons_zero,List.getElem?_cons_succ];rfl) (by rfl) ?h6 ?_
  case h6 => (go_simp;first | rfl | (constructor;rfl;rfl))
  simp only [Act.put,List.setIfInBounds_toArray,List.set_cons_zero,List.set_cons_succ]
  refine inN_value (o:=?o7) (v:=?v7) (w':=?w7) (by simp only [List.getElem?_toArray,List.getElem?_cons_zero,List.getElem?_cons_succ];rfl) (by rfl) ?h7 ?_
  case h7 => (go_simp;first | rfl | (constructor;rfl;rfl))
  simp only [Act.put,List.setIfInBounds_toArray,List.set_cons_zero,List.set_cons_succ]
  refine inN_nil ?_
  simp only [Exit.inBlock,Exit.then]
  refine hK _ _ ?_
  refine wpN_of_wp ?_
  have H4:=Aside0.mk (H3.out.setC #[] z2 (r + 1))
  have HX4 : Aside0 ((W3.setChan k.ch 1 #[] false z2 (r + 1) false).heap[x0]? = some (.cells #[.int .i64 0,.int .i64 0,.int .i64 0,.int .i64 0] 30 (0,0))):=⟨chan_far HX3.out (Ne.symm (blk_ch_ne HX3.out hch2))⟩
  obtain ⟨W4,hW4⟩ : ∃ W4,W4 = W3.setChan k.ch 1 #[] false z2 (r + 1) false:=⟨_,rfl⟩
  rw [← hW4]
  rw [← hW4] at H4 HX4
  clear hch2 hW4 d8
  have HBX : Aside0 (BX w0 W4 k (.slice (some ⟨qg,0,none⟩) m cap) x0 #[.int .i64 0,.int .i64 0,.int .i64 0,.int .i64 0]):=⟨⟨HX4.out,HF.out.1,HF.out.2,HL0.out⟩⟩
  have HC:=Aside0.mk (H4.out.write HBX.out (.int .i64 p.r) (.int .i64 p.d) (.int .i64 p.i) (.int .i64 p.j))
  have HC2:=Aside0.mk (HC.out.1.write HC.out.2 (.int .i64 p.r) (.int .i64 p.d) (.int .i64 p.i) (.int .i64 p.j))
  have c0:=(blk_cell HX4.out 0).trans rfl
  have c1:=(blk_cell HX4.out 1).trans rfl
  have c2:=(blk_cell HX4.out 2).trans rfl
  have c3:=(blk_cell HX4.out 3).trans rfl
  have f0:=blk_frozen HX4.out 0
  have f1:=blk_frozen HX4.out 1
  have f2:=blk_frozen HX4.out 2
  have f3:=blk_frozen HX4.out 3
  have y0:=(blk_cell HC.out.2.o 0).trans rfl
  have y1:=(blk_cell HC.out.2.o 1).trans rfl
  have y2:=(blk_cell HC.out.2.o 2).trans rfl
  have y3:=(blk_cell HC.out.2.o 3).trans rfl
  have g0:=blk_frozen HC.out.2.o 0
  have g1:=blk_frozen HC.out.2.o 1
  have g2:=blk_frozen HC.out.2.o 2
  have g3:=blk_frozen HC.out.2.o 3
  go_wp2
  refine bodyPost_ret (results_take rfl rfl HC2.out.2.o) rfl ?_
  exact ⟨rfl,_,HC2.out.1⟩
end Go.Proofs.Ytmkgcjhimajgiaa


set_option linter.unusedVariables false
set_option linter.unusedSimpArgs false
namespace Go.Proofs.Ytmkgcjhimajgiaa
open Go.RowKit Go.Proofs.YtmkgcjhimajgiaaW.PrintWords Go.Proofs.YtmkgcjhimajgiaaW.PrintLast Go.Conc

theorem mk_chanP : ∀ W : World,(Instr.makeChan 92 (.int .i64 1)).run Try.prog W = .ok (.chan (some W.heap.size)) (W.alloc (.chan 1 #[] false 0 0 false)):=by
  intro W
  have h0 : (Try.prog.info? 30).map (·.bytes) = some 32:=by kernel_rfl
  obtain ⟨i,hi,hb⟩:=Option.map_eq_some_iff.1 h0
  exact run_makeChan (P:=Try.prog) (w:=W) Try.underlying92 hi .i64 1 (by omega) (by rw [hb];omega)
/-- A chart that is done. -/
def CF (W : World) (k : CB) (g : Gram) (wd : List Int) : Prop:=∃ (w0 : World) (vq : Value) (s : ChS) (r : Nat),CM w0 W k g wd.length vq s r ∧ IsTab g wd s.sy s.pa ∧ PB k g wd.length
theorem CF.below_ {W W1 : World} {k : CB} {g : Gram} {wd : List Int} (h : CF W k g wd) (hb : Below W.heap.size W W1) : CF W1 k g wd:=by
  obtain ⟨w0,vq,s,r,h1,h2,h3⟩:=h
  exact ⟨w0,vq,s,r,h1.below_ hb,h2,h3⟩
set_option maxRecDepth 100000 in
set_option maxHeartbeats 4000000 in
theorem ofC_form (g : Gram) (A1 A2 A3 : Option Addr) (c1 c2 c3 : Nat) (B : Option Addr) (d : Nat) (l : List Int) (w : World) (hg : RepG w g A1 A2 A3 c1 c2 c3) (hno : goodF g = false) :
    Calls Try.prog 17 #[.agg #[.slice A1 g.terms.length c1,.slice A2 g.names.length c2,.slice A3 g.rules.length c3],.slice B l.length d] w fun e w' => e = .returned (.tuple #[.pointer none,.int .i64 16]) ∧ Below w.heap.size w w':=by
  have HB:=Aside0.mk ((Below.refl w.heap.size w).alloc (Nat.le_refl _) (.cells #[.slice A1 g.terms.length c1,.slice A2 g.names.length c2,.slice A3 g.rules.length c3] 25 (0,0)))
  have HG:=Aside0.mk (hg.below_ (below_alloc (Below.refl _ _) (.cells #[.slice A1 g.terms.length c1,.slice A2 g.names.length c2,.slice A3 g.rules.length c3] 25 (0,0))))
  clear hg
  go_enter Try.func17,Try.ntmps17
  go_wp2_with (go_at_call 44;go_loud (refine (good_c g A1 A2 A3 c1 c2 c3 _ HG.out).mono ?_;rw [hno];rintro e w1 ⟨rfl,hb1⟩))
  go_ret2
  exact ⟨rfl,below_then HB.out HB.out.size hb1⟩
set_option maxRecDepth 100000 in
set_option maxHeartbeats 4000000 in
theorem ofC_large (g : Gram) (A1 A2 A3 : Option Addr) (c1 c2 c3 : Nat) (B : Option Addr) (d : Nat) (l : List Int) (w : World) (hg : RepG w g A1 A2 A3 c1 c2 c3) (hgd : goodF g = true) (hl : 40 < l.length) :
    Calls Try.prog 17 #[.agg #[.slice A1 g.terms.length c1,.slice A2 g.names.length c2,.slice A3 g.rules.length c3],.slice B l.length d] w fun e w' => e = .returned (.tuple #[.pointer none,.int .i64 14]) ∧ Below w.heap.size w w':=by
  have HB:=Aside0.mk ((Below.refl w.heap.size w).alloc (Nat.le_refl _) (.cells #[.slice A1 g.terms.length c1,.slice A2 g.names.length c2,.slice A3 g.rules.length c3] 25 (0,0)))
  have HG:=Aside0.mk (hg.below_ (below_alloc (Below.refl _ _) (.cells #[.slice A1 g.terms.length c1,.slice A2 g.names.length c2,.slice A3 g.rules.length c3] 25 (0,0))))
  have hl2 : (40 : Int) < (l.length : Int):=by omega
  clear hg hl
  go_enter Try.func17,Try.ntmps17
  go_wp2_with (go_at_call 44;go_loud (refine (good_c g A1 A2 A3 c1 c2 c3 _ HG.out).mono ?_;rw [hgd];rintro e w1 ⟨rfl,hb1⟩))
  go_ret2
  exact ⟨rfl,below_then HB.out HB.out.size hb1⟩
/-- The chart's struct in the midst of its making: its first places,as far as they are told. -/
structure CO (w W : World) (b ch x0 : Nat) (g : Gram) (A1 A2 A3 : Option Addr) (c1 c2 c3 : Nat) (n : Nat) (vb : Value) (bl : List Int) : Prop where
  o : W.heap[b]? = some (.cells #[.slice A1 g.terms.length c1,.slice A2 g.names.length c2,.slice A3 g.rules.length c3,.int .i64 n,.slice none 0 0,.slice none 0 0,vb,.slice none 0 0,.chan (some ch)] 97 (0,0))
  x : W.heap[x0]? = some (.cells #[.slice A1 g.terms.length c1,.slice A2 g.names.length c2,.slice A3 g.rules.length c3] 25 (0,0))
  ba : kInt.R 3 W w.heap.size (fun _ => True) vb bl
  hch : W.heap[ch]? = some (.chan 1 #[] false 0 0 false)
  below : Below w.heap.size w W
  lo : w.heap.size ≤ b ∧ w.heap.size ≤ ch ∧ w.heap.size ≤ x0
section
variable {w W W1 : World} {b ch x0 n : Nat} {g : Gram} {A1 A2 A3 : Option Addr} {c1 c2 c3 : Nat} {vb : Value} {bl : List Int}
theorem CO.below_ (h : CO w W b ch x0 g A1 A2 A3 c1 c2 c3 n vb bl) (hb : Below W.heap.size W W1) : CO w W1 b ch x0 g A1 A2 A3 c1 c2 c3 n vb bl :=
  ⟨blk_below h.o hb,blk_below h.x hb,Kd.R_below h.ba hb,heap_below h.hch hb,below_then h.below h.below.size hb,h.lo⟩
theorem CO.app {vb' : Value} {bl' : List Int} {w1 : World} (h : CO w W b ch x0 g A1 A2 A3 c1 c2 c3 n vb bl) (A : Appd kInt 3 w W w.heap.size (fun _ => True) vb bl' vb' w1) : CO w (w1.setCell ⟨b,6,none⟩ vb') b ch x0 g A1 A2 A3 c1 c2 c3 n vb' bl':=by
  have ho:=blk_grown h.o A.grown (Kd.R_ne h.ba h.o (by decide))
  have hx:=blk_grown h.x A.grown (Kd.R_ne h.ba h.x (by decide))
  have hne : some ch ≠ vb.ownBlock:=fun e => by
    obtain ⟨inner,ho⟩:=Kd.R_own h.ba
    obtain ⟨cells,hx⟩:=own_typed ho ch e.symm
    rw [h.hch] at hx
    injection hx with hx
    cases hx
  have hc1 : w1.heap[ch]? = some (.chan 1 #[] false 0 0 false):=(A.grown.block ch (Array.getElem?_eq_some_iff.1 h.hch).1 hne).trans h.hch
  exact ⟨(blk_set ho 6 vb').trans (by rfl),set_heap_far hx (blk_ty_ne hx ho (by decide)),R_setOther A.row ho (by decide) 6 _,set_heap_far hc1 (Ne.symm (blk_ch_ne ho hc1)),below_set A.below h.lo.1 _ _,h.lo⟩
/-- The chart's struct while its tables are made: slot 4 may be written. -/
structure CO4 (w W : World) (b ch x0 : Nat) (g : Gram) (A1 A2 A3 : Option Addr) (c1 c2 c3 : Nat) (n : Nat) (u vb : Value) (bl : List Int) : Prop where
  o : W.heap[b]? = some (.cells #[.slice A1 g.terms.length c1,.slice A2 g.names.length c2,.slice A3 g.rules.length c3,.int .i64 n,u,.slice none 0 0,vb,.slice none 0 0,.chan (some ch)] 97 (0,0))
  x : W.heap[x0]? = some (.cells #[.slice A1 g.terms.length c1,.slice A2 g.names.length c2,.slice A3 g.rules.length c3] 25 (0,0))
  ba : kInt.R 3 W w.heap.size (fun _ => True) vb bl
  hch : W.heap[ch]? = some (.chan 1 #[] false 0 0 false)
  below : Below w.heap.size w W
  lo : w.heap.size ≤ b ∧ w.heap.size ≤ ch ∧ w.heap.size ≤ x0
theorem CO4.below_ {u : Value} (h : CO4 w W b ch x0 g A1 A2 A3 c1 c2 c3 n u vb bl) (hb : Below W.heap.size W W1) : CO4 w W1 b ch x0 g A1 A2 A3 c1 c2 c3 n u vb bl :=
  ⟨blk_below h.o hb,blk_below h.x hb,Kd.R_below h.ba hb,heap_below h.hch hb,below_then h.below h.below.size hb,h.lo⟩
theorem CO4.set {u : Value} (h : CO4 w W b ch x0 g A1 A2 A3 c1 c2 c3 n u vb bl) (v : Value) : CO4 w (W.setCell ⟨b,4,none⟩ v) b ch x0 g A1 A2 A3 c1 c2 c3 n v vb bl :=
  ⟨(blk_set h.o 4 v).trans (by rfl),set_heap_far h.x (blk_ty_ne h.x h.o (by decide)),R_setOther h.ba h.o (by decide) 4 _,set_heap_far h.hch (Ne.symm (blk_ch_ne h.o h.hch)),below_set h.below h.lo.1 _ _,h.lo⟩
theorem CO.four (h : CO w W b ch x0 g A1 A2 A3 c1 c2 c3 n vb bl) : CO4 w W b ch x0 g A1 A2 A3 c1 c2 c3 n (.slice none 0 0) vb bl:=⟨h.o,h.x,h.ba,h.hch,h.below,h.lo⟩
theorem CO4.drew {u : Value} (h : CO4 w W b ch x0 g A1 A2 A3 c1 c2 c3 n u vb bl) : CO4 w W.drew b ch x0 g A1 A2 A3 c1 c2 c3 n u vb bl:=h.below_ (below_drew (Below.refl _ _))
theorem CO4.made {u : Value} (h : CO4 w W b ch x0 g A1 A2 A3 c1 c2 c3 n u vb bl) (m : Nat) : CO4 w (W.alloc (.cells (madeCells #[.bool false] m) 4)) b ch x0 g A1 A2 A3 c1 c2 c3 n u vb bl ∧ BB (W.alloc (.cells (madeCells #[.bool false] m) 4)) W.heap.size (List.replicate m false) ∧ w.heap.size ≤ W.heap.size :=
  ⟨h.below_ (below_alloc (Below.refl _ _) _),BB.new W m,h.below.size⟩
/-- Both are made,the first one is written down. -/
structure CO5 (w W : World) (b ch x0 : Nat) (g : Gram) (A1 A2 A3 : Option Addr) (c1 c2 c3 : Nat) (n ls lp : Nat) (vb : Value) (bl : List Int) (s p : Nat) : Prop where
  c : CO4 w W b ch x0 g A1 A2 A3 c1 c2 c3 n (.slice (some ⟨s,0,none⟩) ls ls) vb bl
  bs : BB W s (List.replicate ls false)
  bp : BB W p (List.replicate lp false)
  sp : s ≠ p
  lo5 : w.heap.size ≤ s ∧ w.heap.size ≤ p
theorem bb_far4 {s b i tc : Nat} {m : List Bool} {cs : Array Value} (h : BB W s m) (ho : W.heap[b]? = some (.cells cs tc (0,0))) (ht : 4 ≠ tc) (v : Value) : BB (W.setCell ⟨b,i,none⟩ v) s m:=set_heap_far h (blk_ty_ne h ho ht)
theorem CO5.drew {ls lp s p : Nat} (h : CO5 w W b ch x0 g A1 A2 A3 c1 c2 c3 n ls lp vb bl s p) : CO5 w W.drew b ch x0 g A1 A2 A3 c1 c2 c3 n ls lp vb bl s p:=⟨h.c.drew,h.bs,h.bp,h.sp,h.lo5⟩
theorem CO.l1 (h : CO w W b ch x0 g A1 A2 A3 c1 c2 c3 n vb bl) (ls lp : Nat) : CO5 w (((W.alloc (.cells (madeCells #[.bool false] ls) 4)).alloc (.cells (madeCells #[.bool false] lp) 4)).setCell ⟨b,4,none⟩ (.slice (some ⟨W.heap.size,0,none⟩) ls ls)).drew.drew b ch x0 g A1 A2 A3 c1 c2 c3 n ls lp vb bl W.heap.size (W.heap.size + 1):=by
  obtain ⟨h1,h2,h3⟩:=h.four.made ls
  obtain ⟨h4,h5,h6⟩:=h1.made lp
  rw [World.size_alloc] at h5 h6
  exact CO5.drew (CO5.drew ⟨h4.set _,bb_far4 (h2.alloc _) h4.o (by decide) _,bb_far4 h5 h4.o (by decide) _,by omega,h3,h6⟩)
theorem CO.l2 (h : CO w W b ch x0 g A1 A2 A3 c1 c2 c3 n vb bl) (ls lp : Nat) : CO5 w (((W.alloc (.cells (madeCells #[.bool false] ls) 4)).setCell ⟨b,4,none⟩ (.slice (some ⟨W.heap.size,0,none⟩) ls ls)).alloc (.cells (madeCells #[.bool false] lp) 4)).drew.drew b ch x0 g A1 A2 A3 c1 c2 c3 n ls lp vb bl W.heap.size (W.heap.size + 1):=by
  obtain ⟨h1,h2,h3⟩:=h.four.made ls
  obtain ⟨h4,h5,h6⟩:=(h1.set (.slice (some ⟨W.heap.size,0,none⟩) ls ls)).made lp
  have e : ((W.alloc (.cells (madeCells #[.bool false] ls) 4)).setCell ⟨b,4,none⟩ (.slice (some ⟨W.heap.size,0,none⟩) ls ls)).heap.size = W.heap.size + 1:=by simp [World.setCell]
  rw [e] at h5 h6
  exact CO5.drew (CO5.drew ⟨h4,(bb_far4 h2 h1.o (by decide) _).alloc _,h5,by omega,h3,h6⟩)
theorem CO.l3 (h : CO w W b ch x0 g A1 A2 A3 c1 c2 c3 n vb bl) (ls lp : Nat) : CO5 w (((W.alloc (.cells (madeCells #[.bool false] lp) 4)).alloc (.cells (madeCells #[.bool false] ls) 4)).setCell ⟨b,4,none⟩ (.slice (some ⟨W.heap.size + 1,0,none⟩) ls ls)).drew.drew b ch x0 g A1 A2 A3 c1 c2 c3 n ls lp vb bl (W.heap.size + 1) W.heap.size:=by
  obtain ⟨h1,h2,h3⟩:=h.four.made lp
  obtain ⟨h4,h5,h6⟩:=h1.made ls
  rw [World.size_alloc] at h5 h6
  exact CO5.drew (CO5.drew ⟨h4.set _,bb_far4 h5 h4.o (by decide) _,bb_far4 (h2.alloc _) h4.o (by decide) _,by omega,h6,h3⟩)
theorem CO5.fin {ls lp s p : Nat} {B : Option Addr} {cb : Nat} (h : CO5 w W b ch x0 g A1 A2 A3 c1 c2 c3 n ls lp (.slice B g.rules.length cb) (baseL g) s p) (hg : RepG w g A1 A2 A3 c1 c2 c3) :
    CM w (W.setCell ⟨b,5,none⟩ (.slice (some ⟨p,0,none⟩) lp lp)) ⟨b,s,p,ch,A1,A2,A3,c1,c2,c3,B,cb,ls,lp⟩ g n (.slice none 0 0) ⟨List.replicate ls false,List.replicate lp false,[]⟩ 0 ∧ (W.setCell ⟨b,5,none⟩ (.slice (some ⟨p,0,none⟩) lp lp)).heap[x0]? = some (.cells #[.slice A1 g.terms.length c1,.slice A2 g.names.length c2,.slice A3 g.rules.length c3] 25 (0,0)):=by
  have hs : W.heap[s]? = some (.cells ((List.replicate ls false).map Value.bool).toArray 4 (0,0)):=h.bs
  have hp : W.heap[p]? = some (.cells ((List.replicate lp false).map Value.bool).toArray 4 (0,0)):=h.bp
  exact ⟨⟨(blk_set h.c.o 5 _).trans (by rfl),set_heap_far h.bs (blk_ty_ne hs h.c.o (by decide)),set_heap_far h.bp (blk_ty_ne hp h.c.o (by decide)),h.sp,by simp,by simp,R_setOther h.c.ba h.c.o (by decide) 5 _,Kd.R_nil _ _ _ _ _,⟨0,set_heap_far h.c.hch (Ne.symm (blk_ch_ne h.c.o h.c.hch))⟩,below_set h.c.below h.c.lo.1 _ _,⟨h.c.lo.1,h.lo5.1,h.lo5.2,h.c.lo.2.1⟩,hg⟩,set_heap_far h.c.x (blk_ty_ne h.c.x h.c.o (by decide))⟩
end
end Go.Proofs.Ytmkgcjhimajgiaa


set_option linter.unusedVariables false
set_option linter.unusedSimpArgs false
namespace Go.Proofs.Ytmkgcjhimajgiaa
open Go.RowKit Go.Proofs.YtmkgcjhimajgiaaW.PrintWords Go.Proofs.YtmkgcjhimajgiaaW.PrintLast Go.Conc

theorem baseL_take {g : Gram} {i : Nat} (h : i < g.rules.length) : (baseL g).take (i + 1) = (baseL g).take i ++ [(baseF g i : Int)]:=by
  have hl : i < (baseL g).length:=by simp [baseL];exact h
  rw [List.take_succ_eq_append_getElem hl,baseL_at h]
theorem baseL_len (g : Gram) : (baseL g).length = g.rules.length:=by simp [baseL]
set_option maxRecDepth 100000 in
set_option maxHeartbeats 16000000 in
theorem ofC_yes (g : Gram) (A1 A2 A3 : Option Addr) (c1 c2 c3 : Nat) (B : Option Addr) (d : Nat) (l : List Int) (w : World) (hg : RepG w g A1 A2 A3 c1 c2 c3) (hr : kInt.C w B l.length l) (hgd : goodF g = true) (hl : l.length ≤ 40) (hin : ∀ x ∈ l,-9223372036854775808 ≤ x ∧ x ≤ 9223372036854775807) :
    Calls Try.prog 17 #[.agg #[.slice A1 g.terms.length c1,.slice A2 g.names.length c2,.slice A3 g.rules.length c3],.slice B l.length d] w fun e w' => (∃ k : CB,e = .returned (.tuple #[.pointer (some ⟨k.b,0,none⟩),.int .i64 0]) ∧ CF w' k g l ∧ w.heap.size ≤ k.b) ∧ Below w.heap.size w w':=by
  obtain ⟨q1,q2,q3,q4⟩:=goodF_small hgd
  have HGD:=Aside0.mk hgd
  have HIN:=Aside0.mk hin
  have HB0:=Aside0.mk ((Below.refl w.heap.size w).alloc (Nat.le_refl _) (.cells #[.slice A1 g.terms.length c1,.slice A2 g.names.length c2,.slice A3 g.rules.length c3] 25 (0,0)))
  have HGR:=Aside0.mk hg
  have HWR:=Aside0.mk hr
  have HP0:=Aside0.mk (blk_new w (.cells #[.slice A1 g.terms.length c1,.slice A2 g.names.length c2,.slice A3 g.rules.length c3] 25 (0,0)))
  obtain ⟨x0,hx0⟩ : ∃ x0,x0 = w.heap.size:=⟨_,rfl⟩
  obtain ⟨wg,hwg⟩ : ∃ wg : World,wg = w.alloc (.cells #[.slice A1 g.terms.length c1,.slice A2 g.names.length c2,.slice A3 g.rules.length c3] 25 (0,0)):=⟨_,rfl⟩
  rw [← hwg] at HB0 HP0
  rw [← hx0] at HP0
  have HX0:=Lib.hid hx0
  have HWG:=Lib.hid hwg
  have HL:=Aside0.mk hl
  have hl2 : ¬ (40 : Int) < (l.length : Int):=by omega
  have hmkc:=mk_chanP
  clear hg hr hgd hl hin hwg hx0
  go_enter Try.func17,Try.ntmps17
  go_wp2_with (go_at_call 44;go_loud (simp only [← HX0.out,← HWG.out];refine (good_c g A1 A2 A3 c1 c2 c3 _ (HGR.out.below_ HB0.out)).mono ?_;rw [HGD.out];rintro e w1 ⟨rfl,hb1⟩))
  have HB1:=Aside0.mk (below_then HB0.out HB0.out.size hb1)
  have HP1:=Aside0.mk (blk_below HP0.out hb1)
  clear hb1 HP0 HB0
  refine start_ (n:=8) (S:=fun w' => Below w1.heap.size w1 w') (ds:=[]) (lb 8 0x0) (by kernel_rfl) rfl (by kernel_rfl) (below_drew1 (Below.refl _ _)) (fun hHeld => ?_)
  refine pu_ ?_ ?_ 1 (some 26) (lb 8 0x2) ?_
  refine pu_ ?_ ?_ 2 (some 27) (lb 8 0x6) ?_
  refine ta_ ?_ ?_ 0 (some 25) (lb 8 0x7) hHeld ?_ (y:=by rintro w' hS;have p0:=(blk_cell (blk_below HP1.out hS) 0).trans rfl;have p1:=(blk_cell (blk_below HP1.out hS) 1).trans rfl;have p2:=(blk_cell (blk_below HP1.out hS) 2).trans rfl;go_simp;with_reducible rfl)
  refine on_ 3 (some 28) (lb 8 0xf) (fun K hK => ?_)
  refine va_ ?_ ?_ ?_
  refine hK.out _ _ (below_alloc hHeld _) (fun hHeld => ?_)
  clear hK K
  refine nm_ ?_ (some 28) ?_
  refine pu_ ?_ ?_ 4 (some 29) (lb 8 0x1f) ?_
  refine pu_ ?_ ?_ 5 (some 30) (lb 8 0x3f) ?_
  refine on_ 6 (some 31) (lb 8 0x7f) (fun K hK => ?_)
  refine va_ ?_ ?_ ?_
  refine hK.out _ _ (below_alloc hHeld _) (fun hHeld => ?_)
  clear hK K
  refine nm_ ?_ (some 31) ?_
  refine pu_ ?_ ?_ 7 (some 6) (lb 8 0xff) ?_
  refine done_ (by kernel_rfl) ?_
  clear hHeld hmkc
  have HCO0 : Aside0 (CO w ((w1.alloc (.chan 1 #[] false 0 0 false)).alloc (.cells #[.slice A1 g.terms.length c1,.slice A2 g.names.length c2,.slice A3 g.rules.length c3,.int .i64 l.length,.slice none 0 0,.slice none 0 0,.slice none 0 0,.slice none 0 0,.chan (some w1.heap.size)] 97 (0,0))) (w1.heap.size + 1) w1.heap.size x0 g A1 A2 A3 c1 c2 c3 l.length (.slice none 0 0) []) :=
    ⟨⟨blk_snd w1 _ _,blk_alloc (blk_alloc HP1.out _) _,Kd.R_nil _ _ _ _ _,blk_alloc (blk_new w1 _) _,((HB1.out.alloc HB1.out.size _).alloc (by rw [World.size_alloc];exact Nat.le_succ_of_le HB1.out.size) _),by have:=HB1.out.size;omega,HB1.out.size,by rw [HX0.out];exact Nat.le_refl _⟩⟩
  have HCO:=Aside0.mk (HCO0.out.below_ (below_drew (Below.refl _ _)))
  clear HCO0
  obtain ⟨ch,hch⟩ : ∃ ch,ch = w1.heap.size:=⟨_,rfl⟩
  obtain ⟨b,hb⟩ : ∃ b,b = w1.heap.size + 1:=⟨_,rfl⟩
  obtain ⟨W2,hW2⟩ : ∃ W2,W2 = ((w1.alloc (.chan 1 #[] false 0 0 false)).alloc (.cells #[.slice A1 g.terms.length c1,.slice A2 g.names.length c2,.slice A3 g.rules.length c3,.int .i64 l.length,.slice none 0 0,.slice none 0 0,.slice none 0 0,.slice none 0 0,.chan (some w1.heap.size)] 97 (0,0))).drew:=⟨_,rfl⟩
  rw [← hb,← hW2] at HCO ⊢
  rw [← hch] at HCO ⊢
  clear hb hch hW2 HP1 HB1
  have a3 : W2.cell? ⟨x0,2,none⟩ = some (.slice A3 g.rules.length c3):=(blk_cell HCO.out.x 2).trans rfl
  have HMX : Aside0 (∀ r,r ≤ g.rules.length → baseF g r ≤ 9 * r):=⟨rowsF_max (fun r hr => (goodF_mem HGD.out r hr).2.2.1)⟩
  go_wp2
  clear a3
  go_loopw [35,7] (fun i rv wr => ∃ (j : Nat) (vb : Value),j ≤ g.rules.length ∧ i = .int .i64 j ∧ rv = .int .i64 (baseF g j : Nat) ∧ Aside0 (CO w wr b ch x0 g A1 A2 A3 c1 c2 c3 l.length vb ((baseL g).take j))) (fun i _ _ => g.rules.length - (intOf i).toNat)
  case atStart => exact ⟨0,.slice none 0 0,Nat.zero_le _,rfl,rfl,HCO⟩
  case round =>
    clear HCO
    obtain ⟨j,vb,hj,rfl,rfl,HS⟩:=hrel
    rename World => wo
    by_cases hlt : j < g.rules.length
    · obtain ⟨ad,B1,d1,ead,hx,hy,hd1,hC1⟩:=at_rule HGR.out.rules j hlt
      cases ead
      have hx':=pw_cell_below HS.out.below hx
      have hy':=pw_cell_below HS.out.below hy
      have hr8:=(goodF_mem HGD.out (g.rules[j]'hlt) (List.getElem_mem _)).2.2.1
      have HBS:=Lib.hid (baseF_succ hlt)
      rw [rightR_at hlt] at HBS
      have hbz:=HMX.out j hj
      have HTK:=Lib.hid (baseL_take hlt)
      obtain ⟨xr,hxr⟩ : ∃ xr,xr = g.rules[j]'hlt:=⟨_,rfl⟩
      rw [← hxr] at hx' hy' hr8 HBS hd1
      obtain ⟨bz,hbzz⟩ : ∃ bz,bz = baseF g j:=⟨_,rfl⟩
      rw [← hbzz] at HBS hbz HTK ⊢
      have i2 : (j : Int) < (g.rules.length : Int):=by omega
      obtain ⟨Av,cv,rfl⟩:=Kd.R_slice HS.out.ba
      obtain ⟨bl,hbl⟩ : ∃ bl,bl = (baseL g).take j:=⟨_,rfl⟩
      have hbll : bl.length ≤ 60:=by rw [hbl,List.length_take,baseL_len];omega
      rw [← hbl] at HS HTK
      clear hx hy hC1 hxr hbzz hbl
      have HY:=Aside0.mk (blk_new wo (.cells #[.int .i64 xr.left,.slice B1 xr.right.length d1] 46 (0,0)))
      have HS1:=Aside0.mk (HS.out.below_ (below_alloc (Below.refl _ _) (.cells #[.int .i64 xr.left,.slice B1 xr.right.length d1] 46 (0,0))))
      have a6 : (wo.alloc (.cells #[.int .i64 xr.left,.slice B1 xr.right.length d1] 46 (0,0))).cell? ⟨b,6,none⟩ = some (.slice Av bl.length cv):=(blk_cell HS1.out.o 6).trans rfl
      go_wp2_with (at_builtin;refine app_int (w0:=w) (base:=w.heap.size) (p:=(bz : Int)) (ok:=fun _ => True) rfl rfl HS1.out.ba HS1.out.below HS1.out.below.size (by omega) (fun _ _ => trivial) rfl (by simp [Act.eval]) ?_;intro v2 w2 A2;obtain ⟨A',c',rfl⟩:=A2.shape;have HS2:=Aside0.mk (HS1.out.app A2);have hh:=blk_grown HS1.out.o A2.grown (Kd.R_ne HS1.out.ba HS1.out.o (by decide));have d6:=(blk_cell hh 6).trans rfl;have f6:=blk_frozen hh 6;have hy2:=blk_grown HY.out A2.grown (Kd.R_ne HS1.out.ba HY.out (by decide));have hy3:=set_heap_far (b:=b) (i:=6) (u:=.slice A' (bl.length + 1) c') hy2 (blk_ty_ne hy2 hh (by decide));have y1:=(blk_cell hy3 1).trans rfl;clear A2 hh hy2 hy3)
      go_roundw
      case rel => exact ⟨j + 1,.slice A' (bl.length + 1) c',by omega,by go_num,congrArg (Value.int .i64) (by have:=HBS.out;omega),by rw [HTK.out];exact HS2⟩
      case measure => simp [intOf];omega
    · have hje : j = g.rules.length:=by omega
      have HS1 : Aside0 (CO w wo b ch x0 g A1 A2 A3 c1 c2 c3 l.length vb (baseL g)):=⟨by have:=HS.out;rwa [hje,List.take_of_length_le (by rw [baseL_len];exact Nat.le_refl _)] at this⟩
      obtain ⟨rz,hrz⟩ : ∃ rz,rz = rowsF g:=⟨_,rfl⟩
      have hrz2 : baseF g j = rz:=by rw [hrz,hje];rfl
      have hrzb : rz ≤ 540:=by have:=HMX.out j hj;rw [hrz2] at this;omega
      rw [hrz2]
      have HRZ:=Lib.hid hrz
      clear hje hrz hrz2
      clear HS
      obtain ⟨al,hal⟩ : ∃ al,al = (l.length + 1) * (l.length + 1):=⟨_,rfl⟩
      have hal2 : al ≤ 1681:=by have:=HL.out;rw [hal];exact Nat.le_trans (Nat.mul_le_mul (show l.length + 1 ≤ 41 by omega) (show l.length + 1 ≤ 41 by omega)) (by decide)
      have hln:=HL.out
      obtain ⟨ln,hlnn⟩ : ∃ ln,ln = l.length + 1:=⟨_,rfl⟩
      have e0 : IntKind.i64.wrap ((l.length : Int) + 1) = (ln : Int):=by rw [IntWalk.i64_in _ (by omega)];omega
      have e1 : IntKind.i64.wrap ((ln : Int) * (ln : Int)) = (al : Int):=by rw [← Int.natCast_mul,hlnn,← hal];exact IntWalk.i64_in _ (by omega)
      have HAL:=Lib.hid hal
      have HK:=Aside0.mk HS1.out.o
      clear hal hlnn
      go_upto_region 13 with (fail)
      refine start_ (n:=12) (S:=fun w' => Below wo.heap.size wo w') (ds:=[]) (lb 12 0x0) (by kernel_rfl) rfl (by kernel_rfl) (below_drew1 (Below.refl _ _)) (fun hHeld => ?_)
      refine pu_ ?_ ?_ 0 (some 56) (lb 12 0x1) ?_
      refine pu_ ?_ ?_ 1 (some 57) (lb 12 0x3) ?_
      refine pu_ ?_ ?_ 2 (some 58) (lb 12 0x7) ?_
      refine pu_ ?_ ?_ 5 (some 61) (lb 12 0x27) ?_
      refine pu_ ?_ ?_ 6 (some 62) (lb 12 0x67) ?_
      refine pu_ ?_ ?_ 7 (some 63) (lb 12 0xe7) ?_
      refine ta_ ?_ ?_ 3 (some 59) (lb 12 0xef) hHeld ?_ (y:=by rintro w' hS;have d0:=(blk_cell (blk_below HK.out hS) 0).trans rfl;have d1:=(blk_cell (blk_below HK.out hS) 1).trans rfl;have d2:=(blk_cell (blk_below HK.out hS) 2).trans rfl;have d3:=(blk_cell (blk_below HK.out hS) 3).trans rfl;have d4:=(blk_cell (blk_below HK.out hS) 4).trans rfl;have d5:=(blk_cell (blk_below HK.out hS) 5).trans rfl;have d6:=(blk_cell (blk_below HK.out hS) 6).trans rfl;have d7:=(blk_cell (blk_below HK.out hS) 7).trans rfl;have d8:=(blk_cell (blk_below HK.out hS) 8).trans rfl;go_simp;with_reducible rfl)
      refine pu_ ?_ ?_ 4 (some 60) (lb 12 0xff) ?_
      refine ta_ ?_ ?_ 8 (some 64) (lb 12 0x1ff) hHeld ?_ (y:=by rintro w' hS;have d0:=(blk_cell (blk_below HK.out hS) 0).trans rfl;have d1:=(blk_cell (blk_below HK.out hS) 1).trans rfl;have d2:=(blk_cell (blk_below HK.out hS) 2).trans rfl;have d3:=(blk_cell (blk_below HK.out hS) 3).trans rfl;have d4:=(blk_cell (blk_below HK.out hS) 4).trans rfl;have d5:=(blk_cell (blk_below HK.out hS) 5).trans rfl;have d6:=(blk_cell (blk_below HK.out hS) 6).trans rfl;have d7:=(blk_cell (blk_below HK.out hS) 7).trans rfl;have d8:=(blk_cell (blk_below HK.out hS) 8).trans rfl;go_simp;with_reducible rfl)
      refine pu_ ?_ ?_ 9 (some 65) (lb 12 0x3ff) ?_
      refine pu_ ?_ ?_ 10 (some 66) (lb 12 0x7ff) ?_
      refine pu_ ?_ ?_ 11 (some 10) (lb 12 0xfff) ?_
      refine done_ (by kernel_rfl) ?_
      rename World => w3
      have HS3:=Aside0.mk (HS1.out.below_ hHeld)
      clear hHeld e0 e1 HK
      obtain ⟨ns,hns⟩ : ∃ ns,ns = nsym g:=⟨_,rfl⟩
      have hns2 : ns ≤ 80:=by rw [hns];unfold nsym;omega
      have e1 : IntKind.i64.wrap ((g.terms.length : Int) + (g.names.length : Int)) = (ns : Int):=by rw [IntWalk.i64_in _ (by omega),hns];unfold nsym;omega
      obtain ⟨ls,hls⟩ : ∃ ls,ls = ns * al:=⟨_,rfl⟩
      obtain ⟨lp,hlp⟩ : ∃ lp,lp = rz * al:=⟨_,rfl⟩
      have hls2 : ls ≤ 134480:=by rw [hls];exact Nat.mul_le_mul hns2 hal2
      have hlp2 : lp ≤ 907740:=by rw [hlp];exact Nat.mul_le_mul hrzb hal2
      have e2 : IntKind.i64.wrap ((ns : Int) * (al : Int)) = (ls : Int):=by rw [← Int.natCast_mul,← hls];exact IntWalk.i64_in _ (by omega)
      have e3 : IntKind.i64.wrap ((rz : Int) * (al : Int)) = (lp : Int):=by rw [← Int.natCast_mul,← hlp];exact IntWalk.i64_in _ (by omega)
      have hmk1:=print_make_of (P:=Try.prog) 57 4 (.bool false) 1 Try.underlying57 (by kernel_rfl) rfl (by decide) ls (by omega)
      have hmk2:=print_make_of (P:=Try.prog) 57 4 (.bool false) 1 Try.underlying57 (by kernel_rfl) rfl (by decide) lp (by omega)
      have HNS:=Lib.hid hns
      have HLS:=Lib.hid hls
      have HLP:=Lib.hid hlp
      clear hns hls hlp
      have HF:=Aside0.mk HS3.out.four
      go_upto_region 14 with (fail)
      refine start_ (n:=22) (S:=fun w' => ∃ u,CO4 w w' b ch x0 g A1 A2 A3 c1 c2 c3 l.length u vb (baseL g)) (ds:=[21]) (lb 22 0x0) (by kernel_rfl) rfl (by kernel_rfl) (⟨_,HF.out.drew⟩) (fun hHeld => ?_)
      refine pu_ ?_ ?_ 0 (some 67) (lb 22 0x1) ?_
      refine pu_ ?_ ?_ 1 (some 68) (lb 22 0x3) ?_
      refine pu_ ?_ ?_ 2 (some 69) (lb 22 0x7) ?_
      refine pu_ ?_ ?_ 5 (some 72) (lb 22 0x27) ?_
      refine pu_ ?_ ?_ 9 (some 76) (lb 22 0x227) ?_
      refine pu_ ?_ ?_ 12 (some 79) (lb 22 0x1227) ?_
      refine pu_ ?_ ?_ 13 (some 80) (lb 22 0x3227) ?_
      refine pu_ ?_ ?_ 14 (some 81) (lb 22 0x7227) ?_
      refine ta_ ?_ ?_ 3 (some 70) (lb 22 0x722f) hHeld ?_ (y:=by rintro w' ⟨u,hS⟩;have p0:=(blk_cell hS.x 0).trans rfl;have p1:=(blk_cell hS.x 1).trans rfl;go_simp;with_reducible rfl)
      refine pu_ ?_ ?_ 4 (some 71) (lb 22 0x723f) ?_
      refine ta_ ?_ ?_ 6 (some 73) (lb 22 0x727f) hHeld ?_ (y:=by rintro w' ⟨u,hS⟩;have p0:=(blk_cell hS.x 0).trans rfl;have p1:=(blk_cell hS.x 1).trans rfl;go_simp;with_reducible rfl)
      refine pu_ ?_ ?_ 7 (some 74) (lb 22 0x72ff) ?_
      refine pu_ ?_ ?_ 8 (some 75) (lb 22 0x73ff) ?_
      refine pu_ ?_ ?_ 10 (some 77) (lb 22 0x77ff) ?_
      refine join_ (σ:=Nat × Nat) 1 (lb 22 0x1fffff) (fun s => [(78,.slice (some ⟨s.1,0,none⟩) ls ls),(82,.slice (some ⟨s.2,0,none⟩) lp lp),(83,.pointer (some ⟨b,0,none⟩)),(84,.pointer (some ⟨b,4,none⟩)),(85,.pointer (some ⟨b,0,none⟩)),(86,.pointer (some ⟨b,5,none⟩))]) (fun s w' => CO5 w w' b ch x0 g A1 A2 A3 c1 c2 c3 l.length ls lp vb (baseL g) s.1 s.2) ?_ ?_
      rotate_left
      · intro hrest
        simp only [putAll,Act.put,List.setIfInBounds_toArray,List.set_cons_zero,List.set_cons_succ] at hrest
        refine two_ (i:=11) (j:=15) (Ni:=(some 78)) (Nj:=(some 82)) (lb 22 0x7fff) (lb 22 0xf7ff) rfl rfl rfl rfl (by kernel_rfl) (by decide) (by decide) (fun K hK => ?_) (fun K hK => ?_)
        · obtain ⟨u11,hC⟩:=hHeld
          refine value_ (v:=?_) (w1:=?_) (by rfl) rfl ?_ ?_
          rotate_left 2
          · (go_simp;first | rfl | (constructor;rfl;rfl))
          refine hK.out _ _ (⟨_,(hC.made ls).1⟩) (fun hHeld => ?_)
          clear hK K
          refine norm_ (a':=?_) ?_ ?_
          rotate_left
          · (show Act.put _ (some 78) _ = _;simp only [Act.put,List.setIfInBounds_toArray,List.set_cons_zero,List.set_cons_succ];rfl)
          refine pu_ ?_ ?_ 16 (some 83) (lb 22 0x17fff) ?_
          refine pu_ ?_ ?_ 17 (some 84) (lb 22 0x37fff) ?_
          refine two_ (i:=15) (j:=18) (Ni:=(some 82)) (Nj:=none) (lb 22 0x3ffff) (lb 22 0x77fff) rfl rfl rfl rfl (by kernel_rfl) (by decide) (by decide) (fun K hK => ?_) (fun K hK => ?_)
          · obtain ⟨u15,hC⟩:=hHeld
            refine value_ (v:=?_) (w1:=?_) (by rfl) rfl ?_ ?_
            rotate_left 2
            · (go_simp;first | rfl | (constructor;rfl;rfl))
            refine hK.out _ _ (⟨_,(hC.made lp).1⟩) (fun hHeld => ?_)
            clear hK K
            refine norm_ (a':=?_) ?_ ?_
            rotate_left
            · (show Act.put _ (some 82) _ = _;simp only [Act.put,List.setIfInBounds_toArray,List.set_cons_zero,List.set_cons_succ];rfl)
            refine one_ (i:=18) (N:=none) (lb 22 0x7ffff) rfl rfl (by kernel_rfl) (by decide) (fun K hK => ?_)
            obtain ⟨u18,hC⟩:=hHeld;have d4:=(blk_cell hC.o 4).trans rfl;have f4:=blk_frozen hC.o 4
            refine skip_ (w1:=?_) (by rfl) rfl ?_ ?_
            rotate_left
            · (go_simp;first | rfl | (constructor;rfl;rfl))
            refine hK.out _ _ (⟨_,hC.set _⟩) (fun hHeld => ?_)
            clear hK K
            refine pu_ ?_ ?_ 19 (some 85) (lb 22 0xfffff) ?_
            refine pu_ ?_ ?_ 20 (some 86) (lb 22 0x1fffff) ?_
            first | exact hrest (w3.heap.size,w3.heap.size + 1) _ (HS1.out.l1 ls lp) | exact hrest (w3.heap.size,w3.heap.size + 1) _ (HS1.out.l2 ls lp) | exact hrest (w3.heap.size + 1,w3.heap.size) _ (HS1.out.l3 ls lp)
          · obtain ⟨u18,hC⟩:=hHeld;have d4:=(blk_cell hC.o 4).trans rfl;have f4:=blk_frozen hC.o 4
            refine skip_ (w1:=?_) (by rfl) rfl ?_ ?_
            rotate_left
            · (go_simp;first | rfl | (constructor;rfl;rfl))
            refine hK.out _ _ (⟨_,hC.set _⟩) (fun hHeld => ?_)
            clear hK K
            refine one_ (i:=15) (N:=(some 82)) (lb 22 0x7ffff) rfl rfl (by kernel_rfl) (by decide) (fun K hK => ?_)
            obtain ⟨u15,hC⟩:=hHeld
            refine value_ (v:=?_) (w1:=?_) (by rfl) rfl ?_ ?_
            rotate_left 2
            · (go_simp;first | rfl | (constructor;rfl;rfl))
            refine hK.out _ _ (⟨_,(hC.made lp).1⟩) (fun hHeld => ?_)
            clear hK K
            refine norm_ (a':=?_) ?_ ?_
            rotate_left
            · (show Act.put _ (some 82) _ = _;simp only [Act.put,List.setIfInBounds_toArray,List.set_cons_zero,List.set_cons_succ];rfl)
            refine pu_ ?_ ?_ 19 (some 85) (lb 22 0xfffff) ?_
            refine pu_ ?_ ?_ 20 (some 86) (lb 22 0x1fffff) ?_
            first | exact hrest (w3.heap.size,w3.heap.size + 1) _ (HS1.out.l1 ls lp) | exact hrest (w3.heap.size,w3.heap.size + 1) _ (HS1.out.l2 ls lp) | exact hrest (w3.heap.size + 1,w3.heap.size) _ (HS1.out.l3 ls lp)
        · obtain ⟨u15,hC⟩:=hHeld
          refine value_ (v:=?_) (w1:=?_) (by rfl) rfl ?_ ?_
          rotate_left 2
          · (go_simp;first | rfl | (constructor;rfl;rfl))
          refine hK.out _ _ (⟨_,(hC.made lp).1⟩) (fun hHeld => ?_)
          clear hK K
          refine norm_ (a':=?_) ?_ ?_
          rotate_left
          · (show Act.put _ (some 82) _ = _;simp only [Act.put,List.setIfInBounds_toArray,List.set_cons_zero,List.set_cons_succ];rfl)
          refine one_ (i:=11) (N:=(some 78)) (lb 22 0xffff) rfl rfl (by kernel_rfl) (by decide) (fun K hK => ?_)
          obtain ⟨u11,hC⟩:=hHeld
          refine value_ (v:=?_) (w1:=?_) (by rfl) rfl ?_ ?_
          rotate_left 2
          · (go_simp;first | rfl | (constructor;rfl;rfl))
          refine hK.out _ _ (⟨_,(hC.made ls).1⟩) (fun hHeld => ?_)
          clear hK K
          refine norm_ (a':=?_) ?_ ?_
          rotate_left
          · (show Act.put _ (some 78) _ = _;simp only [Act.put,List.setIfInBounds_toArray,List.set_cons_zero,List.set_cons_succ];rfl)
          refine pu_ ?_ ?_ 16 (some 83) (lb 22 0x1ffff) ?_
          refine pu_ ?_ ?_ 17 (some 84) (lb 22 0x3ffff) ?_
          refine one_ (i:=18) (N:=none) (lb 22 0x7ffff) rfl rfl (by kernel_rfl) (by decide) (fun K hK => ?_)
          obtain ⟨u18,hC⟩:=hHeld;have d4:=(blk_cell hC.o 4).trans rfl;have f4:=blk_frozen hC.o 4
          refine skip_ (w1:=?_) (by rfl) rfl ?_ ?_
          rotate_left
          · (go_simp;first | rfl | (constructor;rfl;rfl))
          refine hK.out _ _ (⟨_,hC.set _⟩) (fun hHeld => ?_)
          clear hK K
          refine pu_ ?_ ?_ 19 (some 85) (lb 22 0xfffff) ?_
          refine pu_ ?_ ?_ 20 (some 86) (lb 22 0x1fffff) ?_
          first | exact hrest (w3.heap.size,w3.heap.size + 1) _ (HS1.out.l1 ls lp) | exact hrest (w3.heap.size,w3.heap.size + 1) _ (HS1.out.l2 ls lp) | exact hrest (w3.heap.size + 1,w3.heap.size) _ (HS1.out.l3 ls lp)
      rintro s w' hF
      have d5:=(blk_cell hF.c.o 5).trans rfl;have f5:=blk_frozen hF.c.o 5;have HCF:=Aside0.mk hF
      refine norm_ (a':=?_) ?_ ?_
      rotate_left
      · (simp only [putAll,Act.put,List.setIfInBounds_toArray,List.set_cons_zero,List.set_cons_succ];rfl)
      refine ls_ 21 none (lb 22 0x3fffff) (fun K hK => ?_)
      skip
      refine skip_ (w1:=?_) (by rfl) rfl ?_ ?_
      rotate_left
      · (go_simp;first | rfl | (constructor;rfl;rfl))
      refine hK.out _ _ ?_
      clear hK K
      refine done_ (by kernel_rfl) ?_
      clear HS1 HS3 hmk1 hmk2 e1 e2 e3
      obtain ⟨sa,pa⟩:=s
      simp only at HCF
      obtain ⟨Bb,cb,rfl⟩:=Kd.R_slice HCF.out.c.ba
      rw [baseL_len] at HCF
      obtain ⟨hcm,hxg⟩:=HCF.out.fin HGR.out
      obtain ⟨k,hk⟩ : ∃ k : CB,k = ⟨b,sa,pa,ch,A1,A2,A3,c1,c2,c3,Bb,cb,ls,lp⟩:=⟨_,rfl⟩
      obtain ⟨W5,hW5⟩ : ∃ W5,W5 = w'.setCell ⟨b,5,none⟩ (.slice (some ⟨pa,0,none⟩) lp lp):=⟨_,rfl⟩
      have HCM : Aside0 (CM w W5 k g l.length (.slice none 0 0) ⟨initS g l 0,List.replicate (rowsF g * ((l.length + 1) * (l.length + 1))) false,[]⟩ 0):=⟨by
        rw [hk,hW5]
        have : initS g l 0 = List.replicate ls false:=by unfold initS;rw [HLS.out,HNS.out,HAL.out];rfl
        rw [this,← HAL.out,← HRZ.out,← HLP.out]
        exact hcm⟩
      have HXG : Aside0 (W5.heap[x0]? = some (.cells #[.slice A1 g.terms.length c1,.slice A2 g.names.length c2,.slice A3 g.rules.length c3] 25 (0,0))):=⟨by rw [hW5];exact hxg⟩
      have HPB : Aside0 (PB k g l.length):=⟨by rw [hk];exact ⟨HGD.out,HL.out,by simp only;rw [HLS.out,HNS.out,HAL.out],by simp only;rw [HLP.out,HRZ.out,HAL.out]⟩⟩
      have hkb : b = k.b:=by rw [hk]
      have HLO : Aside0 (w.heap.size ≤ k.b):=⟨by rw [← hkb];exact HCF.out.c.lo.1⟩
      simp only [← hW5]
      rw [hkb]
      clear hcm hxg hW5 hkb hk d5 f5 hF HCF HF
      obtain ⟨pa0,hpa0⟩ : ∃ pa0,pa0 = List.replicate (rowsF g * ((l.length + 1) * (l.length + 1))) false:=⟨_,rfl⟩
      rw [← hpa0] at HCM
      have HPA:=Lib.hid hpa0
      clear hpa0
      go_wp2
      go_loopw [89] (fun i wr => ∃ m : Nat,m ≤ l.length ∧ i = .int .i64 m ∧ Aside0 (CM w wr k g l.length (.slice none 0 0) ⟨initS g l m,pa0,[]⟩ 0) ∧ Aside0 (wr.heap[x0]? = some (.cells #[.slice A1 g.terms.length c1,.slice A2 g.names.length c2,.slice A3 g.rules.length c3] 25 (0,0)))) (fun i _ => l.length - (intOf i).toNat)
      case atStart => exact ⟨0,Nat.zero_le _,rfl,HCM,HXG⟩
      case round =>
        clear HCM HXG
        obtain ⟨m,hm,rfl,HS,HX⟩:=hrel
        rename World => wm
        by_cases hml : m < l.length
        · have m2 : (m : Int) < (l.length : Int):=by omega
          obtain ⟨adw,eadw,hwc⟩:=at_int (Kd.C_below HWR.out HS.out.below) m hml
          cases eadw
          have hyin:=HIN.out (l[m]'hml) (List.getElem_mem _)
          have HSU : Aside0 (initS g l (m + 1) = if termF g (l[m]'hml) = true then (initS g l m).set (atF l.length (l[m]'hml).toNat m (m + 1)) true else initS g l m):=⟨by
            rw [initS_succ];unfold initO;rw [List.getD_eq_getElem?_getD,List.getElem?_eq_getElem hml];rfl⟩
          obtain ⟨y,hy⟩ : ∃ y,y = l[m]'hml:=⟨_,rfl⟩
          rw [← hy] at hwc hyin HSU
          clear hy
          have a1 : wm.cell? ⟨x0,0,none⟩ = some (.slice A1 g.terms.length c1):=(blk_cell HX.out 0).trans rfl
          have a2 : wm.cell? ⟨x0,1,none⟩ = some (.slice A2 g.names.length c2):=(blk_cell HX.out 1).trans rfl
          have a3 : wm.cell? ⟨x0,2,none⟩ = some (.slice A3 g.rules.length c3):=(blk_cell HX.out 2).trans rfl
          obtain ⟨tv,htv⟩ : ∃ tv,termF g y = tv:=⟨_,rfl⟩
          rw [htv] at HSU
          have HTV:=Lib.hid htv
          clear htv
          cases tv
          · go_wp2_with (go_at_call 45;go_loud (refine (term_c g A1 A2 A3 c1 c2 c3 y _).mono ?_;rw [HTV.out];rintro e w9 ⟨rfl,hb9⟩;have HS9:=Aside0.mk (HS.out.below_ hb9);have HX9:=Aside0.mk (blk_below HX.out hb9)))
            go_roundw
            case rel => exact ⟨m + 1,by omega,by go_num,by rw [HSU.out];exact HS9,HX9⟩
            case measure => simp [intOf];omega
          · have hts:=term_sym HTV.out
            obtain ⟨yn,rfl⟩:=Int.eq_ofNat_of_zero_le hts.1
            have hyn : yn ≤ 80:=by have:=hts.2;unfold nsym at this;omega
            have hln40:=HL.out
            obtain ⟨pz,hpz⟩ : ∃ pz,pz = atF l.length yn m (m + 1):=⟨_,rfl⟩
            have hpzl : pz < k.ls:=by rw [hpz,HPB.out.ls];exact atF_lt (by have:=hts.2;omega) (by omega) (by omega)
            have HPZ:=Lib.hid hpz
            have z2 : (pz : Int) < (k.ls : Int):=by omega
            clear hpz
            go_wp2_with (go_at_call 45;go_loud (refine (term_c g A1 A2 A3 c1 c2 c3 (yn : Int) _).mono ?_;rw [HTV.out];rintro e w9 ⟨rfl,hb9⟩;have HS9:=Aside0.mk (HS.out.below_ hb9);have HX9:=Aside0.mk (blk_below HX.out hb9)))
            have HK:=Aside0.mk HS9.out.o
            clear a1 a2 a3 hwc
            have e5 : IntKind.i64.wrap ((m : Int) + 1) = ((m + 1 : Nat) : Int):=by rw [IntWalk.i64_in _ (by omega)];omega
            refine start_ (n:=12) (S:=fun w' => Below w9.heap.size w9 w') (ds:=[11]) (lb 12 0x0) (by kernel_rfl) rfl (by kernel_rfl) (below_drew1 (Below.refl _ _)) (fun hHeld => ?_)
            refine pu_ ?_ ?_ 0 (some 97) (lb 12 0x1) ?_
            refine pu_ ?_ ?_ 1 (some 98) (lb 12 0x3) ?_
            refine pu_ ?_ ?_ 2 (some 99) (lb 12 0x7) ?_
            refine pu_ ?_ ?_ 4 (some 101) (lb 12 0x17) ?_
            refine pu_ ?_ ?_ 5 (some 102) (lb 12 0x37) ?_
            refine pu_ ?_ ?_ 6 (some 103) (lb 12 0x77) ?_
            refine pu_ ?_ ?_ 7 (some 104) (lb 12 0xf7) ?_
            refine pu_ ?_ ?_ 8 (some 105) (lb 12 0x1f7) ?_
            refine ta_ ?_ ?_ 3 (some 100) (lb 12 0x1ff) hHeld ?_ (y:=by rintro w' hS;have d4:=(blk_cell (blk_below HK.out hS) 4).trans rfl;go_simp;with_reducible rfl)
            refine on_ 9 (some 106) (lb 12 0x3ff) (fun K hK => ?_)
            (refine goesC_ Try.func46 (by kernel_rfl) rfl (by rfl) rfl rfl (at_c k.b l.length _ _ _ yn m (m + 1) _ (t:=97) (cs:=#[]) ((blk_cell (blk_below HK.out hHeld) 3).trans rfl) (by omega) rfl rfl rfl (by omega) (by omega) (by omega)) (by simp [Act.eval]) ?_;rintro e w10 ⟨rfl,hb10⟩;refine ⟨_,rfl,?_⟩;simp only [← HPZ.out];have HQ10:=Aside0.mk (below_then hHeld hHeld.size hb10);clear hb10;refine hK.out _ _ HQ10.out (fun hHeld => ?_))
            clear hK K
            refine nm_ ?_ (some 106) ?_
            refine pu_ ?_ ?_ 10 (some 107) (lb 12 0x7ff) ?_
            refine ls_ 11 none (lb 12 0xfff) (fun K hK => ?_)
            (have HS10:=Aside0.mk (HS9.out.below_ hHeld);have HX10:=Aside0.mk (blk_below HX9.out hHeld);have hz1:=HS10.out.sy.cell (i:=pz) (by rw [HS10.out.ls];exact hpzl);have fz:=HS10.out.sy.fz pz;have HS11:=Aside0.mk (HS10.out.setS pz);have HX11:=Aside0.mk (set_heap_far (b:=k.s) (i:=pz) (u:=.bool true) HX10.out (blk_ty_ne HX10.out HS10.out.sy (by decide))))
            refine skip_ (w1:=?_) (by rfl) rfl ?_ ?_
            rotate_left
            · (go_simp;first | rfl | (constructor;rfl;rfl))
            refine hK.out _ _ ?_
            clear hK K
            refine done_ (by kernel_rfl) ?_
            clear e5
            go_wp2
            go_roundw
            case rel => exact ⟨m + 1,by omega,by go_num,by rw [HSU.out,if_pos trivial,Int.toNat_natCast,← HPZ.out];exact HS11,HX11⟩
            case measure => simp [intOf];omega
        · have hme : m = l.length:=by omega
          have m2 : ¬ (m : Int) < (l.length : Int):=by omega
          have HC0 : Aside0 (CM w wm k g l.length (.slice none 0 0) (startS g l) 0):=⟨by have:=HS.out;rw [hme,HPA.out] at this;exact this⟩
          have a3 : wm.cell? ⟨x0,2,none⟩ = some (.slice A3 g.rules.length c3):=(blk_cell HX.out 2).trans rfl
          clear hme
          clear HS
          go_wp2
          clear a3 m2 HX
          go_loopw [112] (fun i wr => ∃ (j : Nat) (vq : Value),j ≤ g.rules.length ∧ i = .int .i64 j ∧ Aside0 (CM w wr k g l.length vq ((List.range j).foldl (begR g l.length) (startS g l)) 0)) (fun i _ => g.rules.length - (intOf i).toNat)
          case atStart => exact ⟨0,.slice none 0 0,Nat.zero_le _,rfl,HC0⟩
          case round =>
            clear HC0
            obtain ⟨j,vq,hj,rfl,HS⟩:=hrel
            rename World => wj
            by_cases hjl : j < g.rules.length
            · have j2 : (j : Int) < (g.rules.length : Int):=by omega
              obtain ⟨sj,hsj⟩ : ∃ sj,sj = (List.range j).foldl (begR g l.length) (startS g l):=⟨_,rfl⟩
              have HSJ : Aside0 ((List.range (j + 1)).foldl (begR g l.length) (startS g l) = (List.range (l.length + 1)).foldl (begO g l.length j) sj):=⟨by rw [foldl_range_succ,← hsj];rfl⟩
              have HEX : Aside0 (Ext g l.length (startS g l) sj):=⟨by rw [hsj];exact fold_ext _ _ (fun s k hk => begR_ext (by have:=List.mem_range.1 hk;omega) s) _⟩
              rw [← hsj] at HS
              clear hsj
              have o3 : wj.cell? ⟨k.b,3,none⟩ = some (.int .i64 (l.length : Int)):=(blk_cell HS.out.o 3).trans rfl
              go_wp2
              clear o3
              go_loopw [120] (fun i wr => ∃ (m : Nat) (vq' : Value),m ≤ l.length + 1 ∧ i = .int .i64 m ∧ Aside0 (CM w wr k g l.length vq' ((List.range m).foldl (begO g l.length j) sj) 0)) (fun i _ => l.length + 1 - (intOf i).toNat)
              case atStart => exact ⟨0,vq,Nat.zero_le _,rfl,HS⟩
              case round =>
                clear HS
                obtain ⟨m,vq1,hm,rfl,HS⟩:=hrel
                rename World => wm
                by_cases hml : m < l.length + 1
                · have m2 : (m : Int) < (l.length : Int) + 1:=by omega
                  obtain ⟨sm,hsm⟩ : ∃ sm,sm = (List.range m).foldl (begO g l.length j) sj:=⟨_,rfl⟩
                  have HSM : Aside0 ((List.range (m + 1)).foldl (begO g l.length j) sj = partF g l.length sm ⟨j,0,m,m⟩):=⟨by rw [foldl_range_succ,← hsm];rfl⟩
                  have HE1 : Aside0 (Ext g l.length (startS g l) sm):=⟨HEX.out.trans (by rw [hsm];exact fold_ext _ _ (fun s i hi => begO_ext hjl s (by have:=List.mem_range.1 hi;omega)) _)⟩
                  rw [← hsm] at HS
                  have hql : sm.q.length ≤ 4000000:=by
                    have h1:=HE1.out.many start_lens
                    have h2:=cnt_le sm.pa
                    have h3:=HPB.out.max.1
                    have h4:=HS.out.lp
                    have h0 : (startS g l).q.length = 0:=rfl
                    have h5 : cnt (startS g l).pa = 0:=cnt_replicate _
                    omega
                  have HOK : Aside0 (PN.ok g l.length ⟨j,0,m,m⟩):=⟨⟨hjl,Nat.zero_le _,Nat.lt_succ_iff.1 hml,Nat.lt_succ_iff.1 hml⟩⟩
                  clear hsm
                  go_wp2_with (go_at_call 47;go_loud (refine (part_c w _ k g l.length 0 vq1 sm ⟨j,0,m,m⟩ HPB.out HOK.out HS.out hql).mono ?_;rintro e w9 ⟨rfl,vq4,h9,g9⟩;have HS4:=Aside0.mk h9;clear h9 g9))
                  go_roundw
                  case rel => exact ⟨m + 1,vq4,by omega,by go_num,by rw [HSM.out];exact HS4⟩
                  case measure => simp [intOf];omega
                · have m2 : ¬ (m : Int) < (l.length : Int) + 1:=by omega
                  have hme : m = l.length + 1:=by omega
                  rw [hme,← HSJ.out] at HS
                  clear hme
                  go_wp2
                  go_roundw
                  case rel => exact ⟨j + 1,vq1,by omega,by go_num,HS⟩
                  case measure => simp [intOf];omega
            · have j2 : ¬ (j : Int) < (g.rules.length : Int):=by omega
              have hje : j = g.rules.length:=by omega
              rw [hje] at HS
              have HC0 : Aside0 (CM w wj k g l.length vq (startF g l) 0 ∧ InvC g l (startF g l) ∧ (startF g l).q.length + 0 = cnt (startF g l).pa ∧ ∀ p ∈ (startF g l).q,hasP g l.length (startF g l) p = true):=⟨⟨HS.out,start_inv HGD.out,start_many,start_qp⟩⟩
              clear hje
              clear HS
              go_wp2
              clear j2
              go_loopw [131] (fun _ wr => ∃ (vq : Value) (s : ChS) (r : Nat),Aside0 (CM w wr k g l.length vq s r ∧ InvC g l s ∧ s.q.length + r = cnt s.pa ∧ ∀ p ∈ s.q,hasP g l.length s p = true)) (fun _ wr => k.lp - rcvd wr k.ch)
              case atStart => exact ⟨vq,_,0,HC0⟩
              case round =>
                clear HC0
                obtain ⟨vq1,s,r,HS⟩:=hrel
                rename World => wm
                obtain ⟨h1,h2,h3,h4⟩:=HS.out
                have hlp:=h1.lp
                have hcl:=cnt_le s.pa
                have hmx:=HPB.out.max.1
                have hrc : rcvd wm k.ch = r:=by
                  obtain ⟨z,hz⟩:=h1.ch
                  unfold Go.Proofs.Ytmkgcjhimajgiaa.rcvd
                  rw [hz]
                rcases List.eq_nil_or_concat s.q with hnil | ⟨q,p,hq⟩
                · have HT:=Aside0.mk (h2.is HGD.out hnil)
                  have HNIL:=Lib.hid hnil
                  clear h1 h2 h3 h4 hnil hrc hlp hcl hmx
                  go_wp2_with (go_at_call 48;go_loud (refine (take_none w _ k g l.length r vq1 s HS.out.1 HNIL.out).mono ?_;rintro e w9 ⟨rfl,h9⟩;have HS4:=Aside0.mk (h9.below_ (below_alloc (Below.refl _ _) (.cells #[.int .i64 0,.int .i64 0,.int .i64 0,.int .i64 0] 30 (0,0))));clear h9))
                  go_ret2
                  exact ⟨⟨k,rfl,⟨w,vq1,s,r,HS4.out,HT.out,HPB.out⟩,HLO.out⟩,HS4.out.below⟩
                · rw [List.concat_eq_append] at hq
                  have hql : q.length + 1 + r = cnt s.pa:=by rw [hq] at h3;simpa using h3
                  obtain ⟨hl2',hpok,hnext⟩:=round_inv HGD.out hq ⟨h2,h3,h4⟩
                  have HNEXT:=Aside0.mk hnext
                  have HPOK:=Aside0.mk hpok
                  have HL2:=Aside0.mk hl2'
                  have HRC:=Lib.hid hrc
                  have hq4 : q.length ≤ 2000000:=by omega
                  have HLT : Aside0 (r < k.lp):=⟨by omega⟩
                  have HQ:=Lib.hid hq
                  clear h1 h2 h3 h4 hq hql hl2' hpok hnext hrc hlp hcl hmx
                  go_wp2_with (first | (have hx:=HS6.out;go_at_call 49;go_loud (refine (follow_c w _ k g l.length (r + 1) vq4 { s with q:=q } p HPB.out HPOK.out HL2.out HS6.out hq4).mono ?_;rintro e w10 ⟨rfl,vq5,h10,g10⟩;have HS10:=Aside0.mk h10;clear h10 g10)) | (go_at_call 48;go_loud (refine (take_some w _ k g l.length r vq1 s q p HS.out.1 HQ.out (by omega)).mono ?_;rintro e w9 ⟨rfl,vq4,h9⟩;have HS6:=Aside0.mk (h9.below_ (below_alloc (Below.refl _ _) (.cells #[.int .i64 p.r,.int .i64 p.d,.int .i64 p.i,.int .i64 p.j] 30 (0,0))));clear h9)))
                  have HRC2 : Aside0 (rcvd w10 k.ch = r + 1):=⟨by
                    obtain ⟨z,hz⟩:=HS10.out.ch
                    unfold Go.Proofs.Ytmkgcjhimajgiaa.rcvd
                    rw [hz]⟩
                  go_roundw
                  case rel => exact ⟨vq5,_,r + 1,⟨⟨HS10.out,HNEXT.out.1,HNEXT.out.2.1,HNEXT.out.2.2⟩⟩⟩
                  case measure => rw [HRC2.out,HRC.out];have:=HLT.out;omega
end Go.Proofs.Ytmkgcjhimajgiaa

