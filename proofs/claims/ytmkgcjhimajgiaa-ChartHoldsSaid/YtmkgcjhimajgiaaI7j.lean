/- The loop over pivots of the law ChartHolds,walked by itself. -/
import Derived.Test.YtmkgcjhimajgiaaI2j
import Derived.Test.YtmkgcjhimajgiaaJI
import Derived.Test.YtmkgcjhimajgiaaP34j
import Derived.Test.YtmkgcjhimajgiaaJK
import Derived.Test.YtmkgcjhimajgiaaFXj
set_option linter.unusedVariables false
set_option linter.unusedSimpArgs false
namespace Go.Proofs.Ytmkgcjhimajgiaa.Fast
open Go.RowKit Go.Proofs.YtmkgcjhimajgiaaW.PrintWords Go.Proofs.YtmkgcjhimajgiaaW.PrintLast Go.Conc

/-- What stands in a block of a function's code. -/
def blockOf (n : Nat) : Code → Option Code
  | .block m c => if m = n then some c else blockOf n c
  | .seq a b => match blockOf n a with
    | some c => some c
    | none => blockOf n b
  | .loop c => blockOf n c
  | .cond _ a b => match blockOf n a with
    | some c => some c
    | none => blockOf n b
  | _ => none
/-- Left by one way alone. -/
def OnlyExit (n : Nat) (R : Act → World → Prop) : Exit → Act → World → Prop
  | .exit m,a,w => m = n ∧ R a w
  | _,_,_ => False
theorem only_exit {n : Nat} {Q : Exit → Act → World → Prop} : ∀ e a w,OnlyExit n (fun a w => Q (.exit n) a w) e a w → Q e a w:=by
  intro e a w h
  cases e <;> first | exact h.elim | (obtain ⟨rfl,h⟩:=h;exact h)
noncomputable def pivCode : Code:=(Try.f7.body.bind (blockOf 8)).getD .skip
set_option maxRecDepth 1000000 in
set_option maxHeartbeats 16000000 in
theorem pivLoop (g : Gram) (A1 A2 A3 : Option Addr) (c1 c2 c3 : Nat) (l : List Int) (k : CB) (wp_ : World) (x0 r dd i j m : Nat) (xr : Rule) (L : List Int) (Ap : Option Addr) (cp : Nat) (ad : Addr) (Br : Option Addr) (dr : Nat) (HGV : Hid (goodF g = true)) (q1 : g.terms.length ≤ 40) (q3 : g.names.length ≤ 40) (q4 : g.rules.length ≤ 60)
    (hln7 : l.length ≤ 7) (hij : i ≤ j) (hjl : j ≤ l.length) (hrl : r < g.rules.length) (HRR : Aside0 (rightR g r = xr.right)) (hr8 : xr.right.length ≤ 8) (hdl : dd ≤ xr.right.length) (hd0 : 0 < dd) (HPp : Aside0 (wp_.heap[x0]? = some (.cells #[.slice A1 g.terms.length c1,.slice A2 g.names.length c2,.slice (some ad) g.rules.length c3] 25 (0,0))))
    (HCp : Aside0 (CF wp_ k g l)) (HY : Aside0 (wp_.cell? ⟨(ad.add (r * 2)).block,(ad.add (r * 2)).off + 1,none⟩ = some (.slice Br xr.right.length dr))) (HCR : Aside0 (kInt.C wp_ Br xr.right.length xr.right)) (HPV : Aside0 (kInt.C wp_ Ap m L)) (HM : Hid (m = L.length)) (hpl : m ≤ 200) (HRS : Aside0 (L.Pairwise (· < ·)))
    (HMM : Aside0 (∀ x ∈ L,∃ k : Nat,x = k ∧ i ≤ k ∧ k ≤ j ∧ partV g l r ((dd - 1 : Nat) : Int) i k = true ∧ symV g l ((rightR g r).getD (dd - 1) 0) k j = true))
    (u0 u1 u2 u4 u5 u6 u8 u9 u12 u13 u14 u15 u16 u17 u18 u21 u24 u25 u26 u27 u28 u29 u30 u31 u32 u33 u34 u35 u36 u37 u38 u39 u40 u41 u42 u43 u44 u45 u46 u47 u48 u49 u50 u51 u52 u53 u54 u55 u56 u57 u58 u59 u60 u61 u62 u63 u64 u65 u66 u67 u68 u69 u70 u71 u72 u73 u74 u75 u76 u77 u78 u79 u80 u81 u82 u83 u84 u85 u86 u87 u88 u89 u90 u91 u92 u93 u94 u95 u96 u97 u98 u99 u100 u101 u102 u103 u104 u105 u106 u107 u108 u109 u110 u111 u112 u113 u114 u115 u116 u117 u118 u119 u120 u121 u122 u123 u124 u125 u126 u127 u128 u129 u130 u131 u132 u133 u134 u135 u136 u137 u138 u139 u140 u141 u142 u143 u144 u145 u146 u147 u148 u149 u150 u151 u152 u153 u154 u155 u156 u157 u158 u159 u160 u161 u162 u163 u164 u165 u166 u167 u168 u169 u170 u171 u172 u173 u174 u175 u176 u177 u178 u179 u180 u181 u182 u183 u184 u185 u186 u187 u188 u189 u190 u191 u192 u193 u194 u195 u196 u197 u198 u199 u200 u201 u202 u203 u204 u205 u206 u207 u208 u209 u210 u211 u212 u213 u214 u215 u216 u217 u218 u219 u220 u221 u222 u223 u224 u225 u226 u227 u228 u229 u230 u231 u232 u233 u234 u235 u236 u237 u238 u239 u240 u241 u242 u243 u244 u245 u246 u247 u248 u249 u250 u251 u252 u253 u254 u255 u256 u257 u258 u259 u260 u261 u262 u263 u264 u265 u266 u267 u268 u269 u270 u271 u272 u273 u274 u275 u276 u277 u278 u279 u280 u281 u282 u283 u284 u285 u286 u287 u288 u289 u290 u291 u292 u293 u294 u295 u296 u297 u298 u299 u300 u301 : Value) (R : Act → World → Prop)
    (hQ : ∀ (v6 v23 v230 v231 v232 v233 v234 v235 v236 v237 v238 v239 v240 v241 v242 v243 v244 v245 v246 v247 v248 v249 v250 v251 v252 v253 v254 v255 v256 v257 v258 v259 v260 v261 v262 v263 v264 v265 v266 v267 v268 v269 v270 v271 v272 v273 v274 v275 v276 v277 v278 v279 v280 v281 v282 v283 v284 v285 v286 v287 v288 v289 v290 v291 v292 v293 v294 v295 v296 v297 v298 v299 v300 : Value) (w' : World),Below wp_.heap.size wp_ w' → R ⟨(List.toArray (u0 :: u1 :: u2 :: .pointer (some ⟨x0,0,none⟩) :: u4 :: u5 :: v6 :: .pointer (some ⟨k.b,0,none⟩) :: u8 :: u9 :: .int .i64 i :: .int .i64 j :: u12 :: u13 :: u14 :: u15 :: u16 :: u17 :: u18 :: .int .i64 r :: .int .i64 dd :: u21 :: .slice Ap m cp :: v23 :: u24 :: u25 :: u26 :: u27 :: u28 :: u29 :: u30 :: u31 :: u32 :: u33 :: u34 :: u35 :: u36 :: u37 :: u38 :: u39 :: u40 :: u41 :: u42 :: u43 :: u44 :: u45 :: u46 :: u47 :: u48 :: u49 :: u50 :: u51 :: u52 :: u53 :: u54 :: u55 :: u56 :: u57 :: u58 :: u59 :: u60 :: u61 :: u62 :: u63 :: u64 :: u65 :: u66 :: u67 :: u68 :: u69 :: u70 :: u71 :: u72 :: u73 :: u74 :: u75 :: u76 :: u77 :: u78 :: u79 :: u80 :: u81 :: u82 :: u83 :: u84 :: u85 :: u86 :: u87 :: u88 :: u89 :: u90 :: u91 :: u92 :: u93 :: u94 :: u95 :: u96 :: u97 :: u98 :: u99 :: u100 :: u101 :: u102 :: u103 :: u104 :: u105 :: u106 :: u107 :: u108 :: u109 :: u110 :: u111 :: u112 :: u113 :: u114 :: u115 :: u116 :: u117 :: u118 :: u119 :: u120 :: u121 :: u122 :: u123 :: u124 :: u125 :: u126 :: u127 :: u128 :: u129 :: u130 :: u131 :: u132 :: u133 :: u134 :: u135 :: u136 :: u137 :: u138 :: u139 :: u140 :: u141 :: u142 :: u143 :: u144 :: u145 :: u146 :: u147 :: u148 :: u149 :: u150 :: u151 :: u152 :: u153 :: u154 :: u155 :: u156 :: u157 :: u158 :: u159 :: u160 :: u161 :: u162 :: u163 :: u164 :: u165 :: u166 :: u167 :: u168 :: u169 :: u170 :: u171 :: u172 :: u173 :: u174 :: u175 :: u176 :: u177 :: u178 :: u179 :: u180 :: u181 :: u182 :: u183 :: u184 :: u185 :: u186 :: u187 :: u188 :: u189 :: u190 :: u191 :: u192 :: u193 :: u194 :: u195 :: u196 :: u197 :: u198 :: u199 :: u200 :: u201 :: u202 :: u203 :: u204 :: u205 :: u206 :: u207 :: u208 :: u209 :: u210 :: u211 :: u212 :: u213 :: u214 :: u215 :: u216 :: u217 :: u218 :: u219 :: u220 :: u221 :: u222 :: u223 :: u224 :: u225 :: u226 :: u227 :: u228 :: u229 :: v230 :: v231 :: v232 :: v233 :: v234 :: v235 :: v236 :: v237 :: v238 :: v239 :: v240 :: v241 :: v242 :: v243 :: v244 :: v245 :: v246 :: v247 :: v248 :: v249 :: v250 :: v251 :: v252 :: v253 :: v254 :: v255 :: v256 :: v257 :: v258 :: v259 :: v260 :: v261 :: v262 :: v263 :: v264 :: v265 :: v266 :: v267 :: v268 :: v269 :: v270 :: v271 :: v272 :: v273 :: v274 :: v275 :: v276 :: v277 :: v278 :: v279 :: v280 :: v281 :: v282 :: v283 :: v284 :: v285 :: v286 :: v287 :: v288 :: v289 :: v290 :: v291 :: v292 :: v293 :: v294 :: v295 :: v296 :: v297 :: v298 :: v299 :: v300 :: u301 :: [])),[]⟩ w') :
    Code.wp Try.prog pivCode (OnlyExit 8 R) ⟨(List.toArray (u0 :: u1 :: u2 :: .pointer (some ⟨x0,0,none⟩) :: u4 :: u5 :: u6 :: .pointer (some ⟨k.b,0,none⟩) :: u8 :: u9 :: .int .i64 i :: .int .i64 j :: u12 :: u13 :: u14 :: u15 :: u16 :: u17 :: u18 :: .int .i64 r :: .int .i64 dd :: u21 :: .slice Ap m cp :: .int .i64 (0 : Nat) :: u24 :: u25 :: u26 :: u27 :: u28 :: u29 :: u30 :: u31 :: u32 :: u33 :: u34 :: u35 :: u36 :: u37 :: u38 :: u39 :: u40 :: u41 :: u42 :: u43 :: u44 :: u45 :: u46 :: u47 :: u48 :: u49 :: u50 :: u51 :: u52 :: u53 :: u54 :: u55 :: u56 :: u57 :: u58 :: u59 :: u60 :: u61 :: u62 :: u63 :: u64 :: u65 :: u66 :: u67 :: u68 :: u69 :: u70 :: u71 :: u72 :: u73 :: u74 :: u75 :: u76 :: u77 :: u78 :: u79 :: u80 :: u81 :: u82 :: u83 :: u84 :: u85 :: u86 :: u87 :: u88 :: u89 :: u90 :: u91 :: u92 :: u93 :: u94 :: u95 :: u96 :: u97 :: u98 :: u99 :: u100 :: u101 :: u102 :: u103 :: u104 :: u105 :: u106 :: u107 :: u108 :: u109 :: u110 :: u111 :: u112 :: u113 :: u114 :: u115 :: u116 :: u117 :: u118 :: u119 :: u120 :: u121 :: u122 :: u123 :: u124 :: u125 :: u126 :: u127 :: u128 :: u129 :: u130 :: u131 :: u132 :: u133 :: u134 :: u135 :: u136 :: u137 :: u138 :: u139 :: u140 :: u141 :: u142 :: u143 :: u144 :: u145 :: u146 :: u147 :: u148 :: u149 :: u150 :: u151 :: u152 :: u153 :: u154 :: u155 :: u156 :: u157 :: u158 :: u159 :: u160 :: u161 :: u162 :: u163 :: u164 :: u165 :: u166 :: u167 :: u168 :: u169 :: u170 :: u171 :: u172 :: u173 :: u174 :: u175 :: u176 :: u177 :: u178 :: u179 :: u180 :: u181 :: u182 :: u183 :: u184 :: u185 :: u186 :: u187 :: u188 :: u189 :: u190 :: u191 :: u192 :: u193 :: u194 :: u195 :: u196 :: u197 :: u198 :: u199 :: u200 :: u201 :: u202 :: u203 :: u204 :: u205 :: u206 :: u207 :: u208 :: u209 :: u210 :: u211 :: u212 :: u213 :: u214 :: u215 :: u216 :: u217 :: u218 :: u219 :: u220 :: u221 :: u222 :: u223 :: u224 :: u225 :: u226 :: u227 :: u228 :: u229 :: u230 :: u231 :: u232 :: u233 :: u234 :: u235 :: u236 :: u237 :: u238 :: u239 :: u240 :: u241 :: u242 :: u243 :: u244 :: u245 :: u246 :: u247 :: u248 :: u249 :: u250 :: u251 :: u252 :: u253 :: u254 :: u255 :: u256 :: u257 :: u258 :: u259 :: u260 :: u261 :: u262 :: u263 :: u264 :: u265 :: u266 :: u267 :: u268 :: u269 :: u270 :: u271 :: u272 :: u273 :: u274 :: u275 :: u276 :: u277 :: u278 :: u279 :: u280 :: u281 :: u282 :: u283 :: u284 :: u285 :: u286 :: u287 :: u288 :: u289 :: u290 :: u291 :: u292 :: u293 :: u294 :: u295 :: u296 :: u297 :: u298 :: u299 :: u300 :: u301 :: [])),[]⟩ wp_:=by
  have HB5 : Aside0 (Below wp_.heap.size wp_ wp_):=⟨Below.refl _ _⟩
  have HHQ:=Aside0.mk hQ
  clear hQ
  conv => arg 2;whnf
  go_loopw [23] (fun xv wr => ∃ x : Nat,x ≤ m ∧ xv = .int .i64 x ∧ Aside0 (Below wp_.heap.size wp_ wr)) (fun xv _ => m - (intOf xv).toNat)
  case atStart => exact ⟨0,Nat.zero_le _,rfl,HB5⟩
  case round =>
    clear HB5
    obtain ⟨x,hx,rfl,HB⟩:=hrel
    rename World => wx
    by_cases hxm : x < m
    · have x2 : (x : Int) < (m : Int):=by omega
      have hxl : x < L.length:=by rw [← HM.out];exact hxm
      obtain ⟨adp,eadp,hc0⟩:=at_int HPV.out x hxl
      cases eadp
      obtain ⟨kk,hk,hk1,hk2,hk3,hk4⟩:=HMM.out (L[x]'hxl) (List.getElem_mem _)
      rw [hk] at hc0
      have HCX:=Aside0.mk hc0
      have hcx:=pw_cell_below HB.out hc0
      have HBk:=HB
      have n1_ : ¬ (kk : Int) < (i : Int):=by omega
      have n2_ : ¬ (j : Int) < (kk : Int):=by omega
      have e5 : IntKind.i64.wrap ((dd : Int) - 1) = ((dd - 1 : Nat) : Int):=by rw [IntWalk.i64_in _ (by omega)];omega
      have hbk : (-9223372036854775808 ≤ (r : Int) ∧ (r : Int) ≤ 9223372036854775807) ∧ (-9223372036854775808 ≤ ((dd - 1 : Nat) : Int) ∧ ((dd - 1 : Nat) : Int) ≤ 9223372036854775807):=by omega
      have hy1 : dd - 1 < xr.right.length:=by omega
      have hyr : (rightR g r).getD (dd - 1) 0 = xr.right[dd - 1]'hy1:=by rw [HRR.out,List.getD_eq_getElem?_getD,List.getElem?_eq_getElem hy1];rfl
      have hyin:=(goodF_mem HGV.out (g.rules[r]'hrl) (List.getElem_mem _)).2.2.2 ((rightR g r).getD (dd - 1) 0) (by rw [hyr];simp only [← rightR_at hrl,HRR.out];exact List.getElem_mem _)
      obtain ⟨y,hy⟩ : ∃ y,y = (rightR g r).getD (dd - 1) 0:=⟨_,rfl⟩
      rw [← hy] at hyr hyin hk4
      have hyb : -9223372036854775808 ≤ y ∧ y ≤ 9223372036854775807:=by unfold nsym at hyin;omega
      have HYR:=Lib.hid hyr
      have HK3:=Lib.hid hk3
      have HS4:=Lib.hid hk4
      have k2x : ((dd - 1 : Nat) : Int) < (xr.right.length : Int):=by omega
      have HCw:=Aside0.mk (HCp.out.below_ HBk.out)
      have HA3:=Aside0.mk (show wx.cell? ⟨x0,2,none⟩ = some (.slice (some ad) g.rules.length c3) from (blk_cell (blk_below HPp.out HBk.out) 2).trans rfl)
      have HAY:=Aside0.mk (pw_cell_below HBk.out HY.out)
      obtain ⟨adr,eadr,hrc⟩:=at_int (Kd.C_below HCR.out HBk.out) (dd - 1) hy1
      rw [← HYR.out] at hrc
      cases eadr
      have HRC:=Aside0.mk hrc
      have HCP:=Aside0.mk hcx
      have g1 : decide ((kk : Int) < (i : Int)) = false:=decide_eq_false n1_
      have g2 : decide ((j : Int) < (kk : Int)) = false:=decide_eq_false n2_
      have g3 : decide (kk < i) = false:=decide_eq_false (by omega)
      have g4 : decide (j < kk) = false:=decide_eq_false (by omega)
      clear hy hyin hyr hk3 hk4 hc0 hrc hcx n1_ n2_
      rcases Nat.eq_zero_or_pos x with hx0 | hx0
      · have m1 : decide (0 < x) = false:=decide_eq_false (by omega)
        have m2 : decide (0 < (x : Int)) = false:=decide_eq_false (by omega)
        clear hx0
        go_upto_region 38 with (fail)
        dsimp only [List.append]
        refine start_ (n:=65) (S:=fun w' => Below wx.heap.size wx w') (ds:=[]) (lb 65 0x0) (by kernel_rfl) rfl (by kernel_rfl) (below_drew1 (Below.refl _ _)) (fun hHeld => ?_)
        refine pu_ ?_ ?_ 0 (some 236) (lb 65 0x1) ?_
        refine pu_ ?_ ?_ 1 (some 237) (lb 65 0x3) ?_
        refine pu_ ?_ ?_ 2 (some 238) (lb 65 0x7) ?_
        refine pu_ ?_ ?_ 4 (some 240) (lb 65 0x17) ?_
        refine ta_ ?_ ?_ 3 (some 239) (lb 65 0x1f) hHeld ?_ (y:=by rintro w' hS;have d0:=cell_at hS HA3.out;have d1:=cell_at hS HAY.out;have d2:=cell_at hS HRC.out;have d3:=cell_at hS HCP.out;go_simp;with_reducible rfl)
        refine pu_ ?_ ?_ 5 (some 241) (lb 65 0x3f) ?_
        refine pu_ ?_ ?_ 6 (some 242) (lb 65 0x7f) ?_
        refine pu_ ?_ ?_ 7 (some 243) (lb 65 0xff) ?_
        refine pu_ ?_ ?_ 8 (some 244) (lb 65 0x1ff) ?_
        refine pu_ ?_ ?_ 9 (some 245) (lb 65 0x3ff) ?_
        refine pu_ ?_ ?_ 11 (some 247) (lb 65 0xbff) ?_
        refine ta_ ?_ ?_ 10 (some 246) (lb 65 0xfff) hHeld ?_ (y:=by rintro w' hS;have d0:=cell_at hS HA3.out;have d1:=cell_at hS HAY.out;have d2:=cell_at hS HRC.out;have d3:=cell_at hS HCP.out;go_simp;with_reducible rfl)
        refine pu_ ?_ ?_ 12 (some 248) (lb 65 0x1fff) ?_
        refine pu_ ?_ ?_ 13 (some 249) (lb 65 0x3fff) ?_
        refine pu_ ?_ ?_ 14 (some 250) (lb 65 0x7fff) ?_
        refine pu_ ?_ ?_ 15 (some 251) (lb 65 0xffff) ?_
        refine pu_ ?_ ?_ 16 (some 252) (lb 65 0x1ffff) ?_
        refine pu_ ?_ ?_ 17 (some 253) (lb 65 0x3ffff) ?_
        refine po_ ?_ 18 (some 254) (lb 65 0x7ffff) ?_
        refine po_ ?_ 19 (some 255) (lb 65 0xfffff) ?_
        refine po_ ?_ 20 (some 256) (lb 65 0x1fffff) ?_
        refine po_ ?_ 22 (some 258) (lb 65 0x5fffff) ?_
        refine po_ ?_ 23 (some 259) (lb 65 0xdfffff) ?_
        refine po_ ?_ 24 (some 260) (lb 65 0x1dfffff) ?_
        refine po_ ?_ 25 (some 261) (lb 65 0x3dfffff) ?_
        refine po_ ?_ 21 (some 257) (lb 65 0x3ffffff) ?_
        refine po_ ?_ 26 (some 262) (lb 65 0x7ffffff) ?_
        refine po_ ?_ 27 (some 263) (lb 65 0xfffffff) ?_
        refine pu_ ?_ ?_ 28 (some 264) (lb 65 0x1fffffff) ?_
        refine pu_ ?_ ?_ 29 (some 265) (lb 65 0x3fffffff) ?_
        refine pu_ ?_ ?_ 30 (some 266) (lb 65 0x7fffffff) ?_
        refine pu_ ?_ ?_ 31 (some 267) (lb 65 0xffffffff) ?_
        refine pu_ ?_ ?_ 32 (some 268) (lb 65 0x1ffffffff) ?_
        refine pu_ ?_ ?_ 33 (some 269) (lb 65 0x3ffffffff) ?_
        refine pu_ ?_ ?_ 34 (some 270) (lb 65 0x7ffffffff) ?_
        refine pu_ ?_ ?_ 35 (some 271) (lb 65 0xfffffffff) ?_
        refine pu_ ?_ ?_ 36 (some 272) (lb 65 0x1fffffffff) ?_
        refine pu_ ?_ ?_ 37 (some 273) (lb 65 0x3fffffffff) ?_
        refine pu_ ?_ ?_ 38 (some 274) (lb 65 0x7fffffffff) ?_
        refine ta_ ?_ ?_ 39 (some 275) (lb 65 0xffffffffff) hHeld ?_ (y:=by rintro w' hS;have d0:=cell_at hS HA3.out;have d1:=cell_at hS HAY.out;have d2:=cell_at hS HRC.out;have d3:=cell_at hS HCP.out;go_simp;with_reducible rfl)
        refine pu_ ?_ ?_ 40 (some 276) (lb 65 0x1ffffffffff) ?_
        refine on_ 41 (some 277) (lb 65 0x3ffffffffff) (fun K hK => ?_)
        (refine goesC_ Try.func22 (by kernel_rfl) rfl (by rfl) rfl rfl (partM_c k g l r ((dd - 1 : Nat) : Int) i kk _ (HCw.out.below_ hHeld) hbk HK3.out) (by simp [Act.eval]) ?_;rintro e w9 ⟨rfl,hb9⟩;refine ⟨_,rfl,?_⟩;have HQ9:=Aside0.mk (below_then hHeld hHeld.size hb9);clear hb9;refine hK.out _ _ HQ9.out (fun hHeld => ?_))
        clear hK K
        refine nm_ ?_ (some 277) ?_
        refine pu_ ?_ ?_ 42 (some 278) (lb 65 0x7ffffffffff) ?_
        refine pu_ ?_ ?_ 43 (some 279) (lb 65 0xfffffffffff) ?_
        refine pu_ ?_ ?_ 44 (some 280) (lb 65 0x1fffffffffff) ?_
        refine pu_ ?_ ?_ 45 (some 281) (lb 65 0x3fffffffffff) ?_
        refine pu_ ?_ ?_ 46 (some 282) (lb 65 0x7fffffffffff) ?_
        refine pu_ ?_ ?_ 48 (some 284) (lb 65 0x17fffffffffff) ?_
        refine pu_ ?_ ?_ 52 (some 288) (lb 65 0x117fffffffffff) ?_
        refine pu_ ?_ ?_ 53 (some 289) (lb 65 0x317fffffffffff) ?_
        refine pu_ ?_ ?_ 56 (some 292) (lb 65 0x1317fffffffffff) ?_
        refine pu_ ?_ ?_ 57 (some 293) (lb 65 0x3317fffffffffff) ?_
        refine pu_ ?_ ?_ 58 (some 294) (lb 65 0x7317fffffffffff) ?_
        refine pu_ ?_ ?_ 60 (some 296) (lb 65 0x17317fffffffffff) ?_
        refine ta_ ?_ ?_ 47 (some 283) (lb 65 0x1731ffffffffffff) hHeld ?_ (y:=by rintro w' hS;have d0:=cell_at hS HA3.out;have d1:=cell_at hS HAY.out;have d2:=cell_at hS HRC.out;have d3:=cell_at hS HCP.out;go_simp;with_reducible rfl)
        refine pu_ ?_ ?_ 49 (some 285) (lb 65 0x1733ffffffffffff) ?_
        refine pu_ ?_ ?_ 50 (some 286) (lb 65 0x1737ffffffffffff) ?_
        refine ta_ ?_ ?_ 51 (some 287) (lb 65 0x173fffffffffffff) hHeld ?_ (y:=by rintro w' hS;have d0:=cell_at hS HA3.out;have d1:=cell_at hS HAY.out;have d2:=cell_at hS HRC.out;have d3:=cell_at hS HCP.out;go_simp;with_reducible rfl)
        refine pu_ ?_ ?_ 54 (some 290) (lb 65 0x177fffffffffffff) ?_
        refine ta_ ?_ ?_ 55 (some 291) (lb 65 0x17ffffffffffffff) hHeld ?_ (y:=by rintro w' hS;have d0:=cell_at hS HA3.out;have d1:=cell_at hS HAY.out;have d2:=cell_at hS HRC.out;have d3:=cell_at hS HCP.out;go_simp;with_reducible rfl)
        refine ta_ ?_ ?_ 59 (some 295) (lb 65 0x1fffffffffffffff) hHeld ?_ (y:=by rintro w' hS;have d0:=cell_at hS HA3.out;have d1:=cell_at hS HAY.out;have d2:=cell_at hS HRC.out;have d3:=cell_at hS HCP.out;go_simp;with_reducible rfl)
        refine pu_ ?_ ?_ 61 (some 297) (lb 65 0x3fffffffffffffff) ?_
        refine on_ 62 (some 298) (lb 65 0x7fffffffffffffff) (fun K hK => ?_)
        (refine goesC_ Try.func26 (by kernel_rfl) rfl (by rfl) rfl rfl (symM_c k g l y kk j _ (HCw.out.below_ hHeld) hyb HS4.out) (by simp [Act.eval]) ?_;rintro e w9 ⟨rfl,hb9⟩;refine ⟨_,rfl,?_⟩;have HQ9:=Aside0.mk (below_then hHeld hHeld.size hb9);clear hb9;refine hK.out _ _ HQ9.out (fun hHeld => ?_))
        clear hK K
        refine nm_ ?_ (some 298) ?_
        refine pu_ ?_ ?_ 63 (some 299) (lb 65 0xffffffffffffffff) ?_
        refine pu_ ?_ ?_ 64 (some 300) (lb 65 0x1ffffffffffffffff) ?_
        refine done_ (by kernel_rfl) ?_
        rename World => w7
        have HB7:=Aside0.mk (below_then HB.out HB.out.size hHeld)
        clear hHeld
        go_wp2
        go_roundw
        case rel => exact ⟨x + 1,by omega,by go_num,HB7⟩
        case measure => simp [intOf];omega
      · have hxl1 : x - 1 < L.length:=by omega
        obtain ⟨adq,eadq,hc1⟩:=at_int HPV.out (x - 1) hxl1
        cases eadq
        have hlt : L[x - 1]'hxl1 < L[x]'hxl:=List.pairwise_iff_getElem.1 HRS.out (x - 1) x hxl1 hxl (by omega)
        obtain ⟨yy,hyy⟩ : ∃ yy,yy = L[x - 1]'hxl1:=⟨_,rfl⟩
        rw [← hyy] at hc1 hlt
        rw [hk] at hlt
        have HCY:=Aside0.mk (pw_cell_below HB.out hc1)
        have m0 : decide ((kk : Int) ≤ yy) = false:=decide_eq_false (by omega)
        have m1 : decide (0 < x) = true:=decide_eq_true hx0
        have m2 : decide (0 < (x : Int)) = true:=decide_eq_true (by omega)
        have e6 : IntKind.i64.wrap ((x : Int) - 1) = ((x - 1 : Nat) : Int):=by rw [IntWalk.i64_in _ (by omega)];omega
        have m3 : ((x - 1 : Nat) : Int) < (m : Int):=by omega
        clear hyy hlt hc1 hxl1
        go_upto_region 38 with (fail)
        dsimp only [List.append]
        refine start_ (n:=65) (S:=fun w' => Below wx.heap.size wx w') (ds:=[]) (lb 65 0x0) (by kernel_rfl) rfl (by kernel_rfl) (below_drew1 (Below.refl _ _)) (fun hHeld => ?_)
        refine pu_ ?_ ?_ 0 (some 236) (lb 65 0x1) ?_
        refine pu_ ?_ ?_ 1 (some 237) (lb 65 0x3) ?_
        refine pu_ ?_ ?_ 2 (some 238) (lb 65 0x7) ?_
        refine pu_ ?_ ?_ 4 (some 240) (lb 65 0x17) ?_
        refine ta_ ?_ ?_ 3 (some 239) (lb 65 0x1f) hHeld ?_ (y:=by rintro w' hS;have d0:=cell_at hS HA3.out;have d1:=cell_at hS HAY.out;have d2:=cell_at hS HRC.out;have d3:=cell_at hS HCP.out;have d4:=cell_at hS HCY.out;go_simp;with_reducible rfl)
        refine pu_ ?_ ?_ 5 (some 241) (lb 65 0x3f) ?_
        refine pu_ ?_ ?_ 6 (some 242) (lb 65 0x7f) ?_
        refine pu_ ?_ ?_ 7 (some 243) (lb 65 0xff) ?_
        refine pu_ ?_ ?_ 8 (some 244) (lb 65 0x1ff) ?_
        refine pu_ ?_ ?_ 9 (some 245) (lb 65 0x3ff) ?_
        refine pu_ ?_ ?_ 11 (some 247) (lb 65 0xbff) ?_
        refine ta_ ?_ ?_ 10 (some 246) (lb 65 0xfff) hHeld ?_ (y:=by rintro w' hS;have d0:=cell_at hS HA3.out;have d1:=cell_at hS HAY.out;have d2:=cell_at hS HRC.out;have d3:=cell_at hS HCP.out;have d4:=cell_at hS HCY.out;go_simp;with_reducible rfl)
        refine pu_ ?_ ?_ 12 (some 248) (lb 65 0x1fff) ?_
        refine pu_ ?_ ?_ 13 (some 249) (lb 65 0x3fff) ?_
        refine pu_ ?_ ?_ 14 (some 250) (lb 65 0x7fff) ?_
        refine pu_ ?_ ?_ 15 (some 251) (lb 65 0xffff) ?_
        refine pu_ ?_ ?_ 16 (some 252) (lb 65 0x1ffff) ?_
        refine pu_ ?_ ?_ 17 (some 253) (lb 65 0x3ffff) ?_
        refine pu_ ?_ ?_ 18 (some 254) (lb 65 0x7ffff) ?_
        refine pu_ ?_ ?_ 19 (some 255) (lb 65 0xfffff) ?_
        refine pu_ ?_ ?_ 20 (some 256) (lb 65 0x1fffff) ?_
        refine pu_ ?_ ?_ 22 (some 258) (lb 65 0x5fffff) ?_
        refine pu_ ?_ ?_ 23 (some 259) (lb 65 0xdfffff) ?_
        refine pu_ ?_ ?_ 24 (some 260) (lb 65 0x1dfffff) ?_
        refine pu_ ?_ ?_ 25 (some 261) (lb 65 0x3dfffff) ?_
        refine ta_ ?_ ?_ 21 (some 257) (lb 65 0x3ffffff) hHeld ?_ (y:=by rintro w' hS;have d0:=cell_at hS HA3.out;have d1:=cell_at hS HAY.out;have d2:=cell_at hS HRC.out;have d3:=cell_at hS HCP.out;have d4:=cell_at hS HCY.out;go_simp;with_reducible rfl)
        refine ta_ ?_ ?_ 26 (some 262) (lb 65 0x7ffffff) hHeld ?_ (y:=by rintro w' hS;have d0:=cell_at hS HA3.out;have d1:=cell_at hS HAY.out;have d2:=cell_at hS HRC.out;have d3:=cell_at hS HCP.out;have d4:=cell_at hS HCY.out;go_simp;with_reducible rfl)
        refine pu_ ?_ ?_ 27 (some 263) (lb 65 0xfffffff) ?_
        refine pu_ ?_ ?_ 28 (some 264) (lb 65 0x1fffffff) ?_
        refine pu_ ?_ ?_ 29 (some 265) (lb 65 0x3fffffff) ?_
        refine pu_ ?_ ?_ 30 (some 266) (lb 65 0x7fffffff) ?_
        refine pu_ ?_ ?_ 31 (some 267) (lb 65 0xffffffff) ?_
        refine pu_ ?_ ?_ 32 (some 268) (lb 65 0x1ffffffff) ?_
        refine pu_ ?_ ?_ 33 (some 269) (lb 65 0x3ffffffff) ?_
        refine pu_ ?_ ?_ 34 (some 270) (lb 65 0x7ffffffff) ?_
        refine pu_ ?_ ?_ 35 (some 271) (lb 65 0xfffffffff) ?_
        refine pu_ ?_ ?_ 36 (some 272) (lb 65 0x1fffffffff) ?_
        refine pu_ ?_ ?_ 37 (some 273) (lb 65 0x3fffffffff) ?_
        refine pu_ ?_ ?_ 38 (some 274) (lb 65 0x7fffffffff) ?_
        refine ta_ ?_ ?_ 39 (some 275) (lb 65 0xffffffffff) hHeld ?_ (y:=by rintro w' hS;have d0:=cell_at hS HA3.out;have d1:=cell_at hS HAY.out;have d2:=cell_at hS HRC.out;have d3:=cell_at hS HCP.out;have d4:=cell_at hS HCY.out;go_simp;with_reducible rfl)
        refine pu_ ?_ ?_ 40 (some 276) (lb 65 0x1ffffffffff) ?_
        refine on_ 41 (some 277) (lb 65 0x3ffffffffff) (fun K hK => ?_)
        (refine goesC_ Try.func22 (by kernel_rfl) rfl (by rfl) rfl rfl (partM_c k g l r ((dd - 1 : Nat) : Int) i kk _ (HCw.out.below_ hHeld) hbk HK3.out) (by simp [Act.eval]) ?_;rintro e w9 ⟨rfl,hb9⟩;refine ⟨_,rfl,?_⟩;have HQ9:=Aside0.mk (below_then hHeld hHeld.size hb9);clear hb9;refine hK.out _ _ HQ9.out (fun hHeld => ?_))
        clear hK K
        refine nm_ ?_ (some 277) ?_
        refine pu_ ?_ ?_ 42 (some 278) (lb 65 0x7ffffffffff) ?_
        refine pu_ ?_ ?_ 43 (some 279) (lb 65 0xfffffffffff) ?_
        refine pu_ ?_ ?_ 44 (some 280) (lb 65 0x1fffffffffff) ?_
        refine pu_ ?_ ?_ 45 (some 281) (lb 65 0x3fffffffffff) ?_
        refine pu_ ?_ ?_ 46 (some 282) (lb 65 0x7fffffffffff) ?_
        refine pu_ ?_ ?_ 48 (some 284) (lb 65 0x17fffffffffff) ?_
        refine pu_ ?_ ?_ 52 (some 288) (lb 65 0x117fffffffffff) ?_
        refine pu_ ?_ ?_ 53 (some 289) (lb 65 0x317fffffffffff) ?_
        refine pu_ ?_ ?_ 56 (some 292) (lb 65 0x1317fffffffffff) ?_
        refine pu_ ?_ ?_ 57 (some 293) (lb 65 0x3317fffffffffff) ?_
        refine pu_ ?_ ?_ 58 (some 294) (lb 65 0x7317fffffffffff) ?_
        refine pu_ ?_ ?_ 60 (some 296) (lb 65 0x17317fffffffffff) ?_
        refine ta_ ?_ ?_ 47 (some 283) (lb 65 0x1731ffffffffffff) hHeld ?_ (y:=by rintro w' hS;have d0:=cell_at hS HA3.out;have d1:=cell_at hS HAY.out;have d2:=cell_at hS HRC.out;have d3:=cell_at hS HCP.out;have d4:=cell_at hS HCY.out;go_simp;with_reducible rfl)
        refine pu_ ?_ ?_ 49 (some 285) (lb 65 0x1733ffffffffffff) ?_
        refine pu_ ?_ ?_ 50 (some 286) (lb 65 0x1737ffffffffffff) ?_
        refine ta_ ?_ ?_ 51 (some 287) (lb 65 0x173fffffffffffff) hHeld ?_ (y:=by rintro w' hS;have d0:=cell_at hS HA3.out;have d1:=cell_at hS HAY.out;have d2:=cell_at hS HRC.out;have d3:=cell_at hS HCP.out;have d4:=cell_at hS HCY.out;go_simp;with_reducible rfl)
        refine pu_ ?_ ?_ 54 (some 290) (lb 65 0x177fffffffffffff) ?_
        refine ta_ ?_ ?_ 55 (some 291) (lb 65 0x17ffffffffffffff) hHeld ?_ (y:=by rintro w' hS;have d0:=cell_at hS HA3.out;have d1:=cell_at hS HAY.out;have d2:=cell_at hS HRC.out;have d3:=cell_at hS HCP.out;have d4:=cell_at hS HCY.out;go_simp;with_reducible rfl)
        refine ta_ ?_ ?_ 59 (some 295) (lb 65 0x1fffffffffffffff) hHeld ?_ (y:=by rintro w' hS;have d0:=cell_at hS HA3.out;have d1:=cell_at hS HAY.out;have d2:=cell_at hS HRC.out;have d3:=cell_at hS HCP.out;have d4:=cell_at hS HCY.out;go_simp;with_reducible rfl)
        refine pu_ ?_ ?_ 61 (some 297) (lb 65 0x3fffffffffffffff) ?_
        refine on_ 62 (some 298) (lb 65 0x7fffffffffffffff) (fun K hK => ?_)
        (refine goesC_ Try.func26 (by kernel_rfl) rfl (by rfl) rfl rfl (symM_c k g l y kk j _ (HCw.out.below_ hHeld) hyb HS4.out) (by simp [Act.eval]) ?_;rintro e w9 ⟨rfl,hb9⟩;refine ⟨_,rfl,?_⟩;have HQ9:=Aside0.mk (below_then hHeld hHeld.size hb9);clear hb9;refine hK.out _ _ HQ9.out (fun hHeld => ?_))
        clear hK K
        refine nm_ ?_ (some 298) ?_
        refine pu_ ?_ ?_ 63 (some 299) (lb 65 0xffffffffffffffff) ?_
        refine pu_ ?_ ?_ 64 (some 300) (lb 65 0x1ffffffffffffffff) ?_
        refine done_ (by kernel_rfl) ?_
        rename World => w7
        have HB7:=Aside0.mk (below_then HB.out HB.out.size hHeld)
        clear hHeld
        go_wp2
        go_roundw
        case rel => exact ⟨x + 1,by omega,by go_num,HB7⟩
        case measure => simp [intOf];omega
    · have x2 : ¬ (x : Int) < (m : Int):=by omega
      go_wp2
      exact ⟨rfl,HHQ.out _ _ _ _ _ _ _ _ _ _ _ _ _ _ _ _ _ _ _ _ _ _ _ _ _ _ _ _ _ _ _ _ _ _ _ _ _ _ _ _ _ _ _ _ _ _ _ _ _ _ _ _ _ _ _ _ _ _ _ _ _ _ _ _ _ _ _ _ _ _ _ _ _ _ HB.out⟩
end Go.Proofs.Ytmkgcjhimajgiaa.Fast
