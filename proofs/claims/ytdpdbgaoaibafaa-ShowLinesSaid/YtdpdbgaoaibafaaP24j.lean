/- A line of a grammar's text,read by itself;where the lines end (plain). -/
import Derived.Test.YtdpdbgaoaibafaaJP
set_option linter.unusedVariables false
set_option linter.unusedSimpArgs false
namespace Go.Proofs.Ytdpdbgaoaibafaa
open Go.RowKit Go.Proofs.YtdpdbgaoaibafaaW.PrintWords

def lnF (g : Gram) (r : Rule) : ByteArray:=lineF g r ++ ⟨#[32,59]⟩
def ownB (g : Gram) (r : Rule) (x : Int) : Bool:=decide (x < (g.terms.length : Int)) || decide (x = r.left)
theorem term_lt {g : Gram} {x : Int} (h0 : 0 ≤ x) : termF g x = decide (x < (g.terms.length : Int)):=by unfold termF;simp [h0]
theorem right_line {g : Gram} (hg : goodF g = true) {r : Rule} (hr : r ∈ g.rules) (ts : List ByteArray) : ∀ (l : List Int) (rts : List Tok) (acc : List Int),(∀ x ∈ l,0 ≤ x ∧ x < (g.terms.length : Int) + g.names.length) → rts.map er = l.map (kdS g) →
    (l.all (ownB g r) = true → ∃ m,rightF ts [nameD g r.left] rts acc = .ok m ∧ m.length = acc.length + l.length) ∧ (l.all (ownB g r) = false → ∃ p,rightF ts [nameD g r.left] rts acc = .error (13,p))
  | [],rts,acc,_,h => by
    cases rts with
    | nil => exact ⟨fun _ => ⟨acc,by rw [rightF],by simp⟩,fun h => by simp at h⟩
    | cons t rts => cases h
  | x :: l,rts,acc,hx,h => by
    cases rts with
    | nil => cases h
    | cons t rts =>
      injection h with h1 h2
      obtain ⟨x0,x1⟩:=hx x List.mem_cons_self
      have hk : t.kind = (kdS g x).1:=congrArg Prod.fst h1
      have hxt : t.text = nameD g x:=congrArg Prod.snd h1
      have key : (ownB g r x = true → ∃ y,symF ts [nameD g r.left] t = .ok y) ∧ (ownB g r x = false → symF ts [nameD g r.left] t = .error (13,t.pos)):=by
        unfold symF ownB
        cases ht : termF g x
        · have hd : decide (x < (g.terms.length : Int)) = false:=by rw [← term_lt x0];exact ht
          rw [if_neg (by rw [hk,kdS,ht];simp),hxt,hd,Bool.false_or]
          obtain ⟨hl,_,_⟩:=good_left hg hr
          constructor
          · intro he
            rw [decide_eq_true_eq] at he
            rw [he,if_neg (by have:=(idxF_some (l:=[nameD g r.left]) (s:=nameD g r.left) (by simp)).1;omega)]
            exact ⟨_,rfl⟩
          · intro he
            rw [decide_eq_false_iff_not] at he
            rw [idxF_none (by
              rw [List.mem_singleton]
              intro e
              obtain ⟨s1,e1⟩:=name_in x0 x1
              obtain ⟨s2,e2⟩:=name_in (show 0 ≤ r.left by omega) hl.2
              unfold nameD at e
              rw [e1,e2] at e
              simp only [Option.getD_some] at e
              rw [← e] at e2
              refine he (name_own hg e1 e2 ?_)
              rw [ht,term_lt (show 0 ≤ r.left by omega)]
              exact (decide_eq_false (by omega)).symm),if_pos (by decide)]
        · have hd : decide (x < (g.terms.length : Int)) = true:=by rw [← term_lt x0];exact ht
          rw [if_pos (by rw [hk,kdS,ht];simp),hd]
          exact ⟨fun _ => ⟨_,rfl⟩,fun h => by simp at h⟩
      rw [List.all_cons,rightF]
      cases ho : ownB g r x
      · rw [key.2 ho,Bool.false_and]
        exact ⟨(by intro h;cases h),fun _ => ⟨_,rfl⟩⟩
      · obtain ⟨y,hy⟩:=key.1 ho
        rw [hy,Bool.true_and]
        simp only []
        obtain ⟨i1,i2⟩:=right_line hg hr ts l rts (acc ++ [y]) (fun z hz => hx z (List.mem_cons_of_mem _ hz)) h2
        refine ⟨fun h => ?_,i2⟩
        obtain ⟨m,e1,e2⟩:=i1 h
        exact ⟨m,e1,by rw [e2];simp;omega⟩
theorem lnF_size {g : Gram} (hg : goodF g = true) {r : Rule} (hr : r ∈ g.rules) : (lnF g r).size ≤ 202:=by
  unfold lnF
  rw [size_app,show (⟨#[32,59]⟩ : ByteArray).size = 2 from rfl]
  have:=lineF_size hg (good_left hg hr).2.1
  omega
theorem of_line {g : Gram} (hg : goodF g = true) {r : Rule} (hr : r ∈ g.rules) :
    (r.right.all (ownB g r) = true → ∃ h r',ofF (lnF g r) = .ok h ∧ h.rules = [r'] ∧ r'.right.length = r.right.length) ∧ (r.right.all (ownB g r) = false → ∃ p,ofF (lnF g r) = .error (13,p)):=by
  obtain ⟨hl,h8,hx⟩:=good_left hg hr
  have hb : bsl (lnF g r) = flatP (piecesH g r) ++ [59]:=by
    unfold lnF
    rw [bsl_app,← lineF_flat]
    show _ ++ [32,59] = _ ++ [32] ++ [59]
    simp
  obtain ⟨ts,e1,e2⟩:=lexE_flat hb (piecesH_ok hg hr) (.inr ⟨rfl,rfl⟩) (by have:=lnF_size hg hr;omega) (.inl (by simp))
  rw [piecesH_er] at e2
  obtain ⟨al,f1,f2⟩:=readF_er (en:=(lnF g r).size) (g:=g) (l:=[r]) (by simp) (by simpa using h8) (by simpa using e2) (by simp)
  have hga:=gather_er [r] al [] [] f2
  cases al with
  | nil => cases f2
  | cons a al =>
    cases al with
    | cons b al => simp at f2
    | nil =>
      injection f2 with g1 _
      have hxl : a.left.text = nameD g r.left:=congrArg Prod.fst g1
      have hxr : a.right.map er = r.right.map (kdS g):=congrArg Prod.snd g1
      have hlen : a.right.length = r.right.length:=by have:=congrArg List.length hxr;simpa using this
      have hgl:=gatherF_len [a] [] [] (fun b hb => by rw [List.mem_singleton.1 hb,hlen];exact h8)
      obtain ⟨T,hT⟩ : ∃ T,(termsF g [r]).foldl (fun a x => addF a (nameD g x)) [] = T:=⟨_,rfl⟩
      have hN : (leftsF [r]).foldl (fun a x => addF a (nameD g x)) [] = [nameD g r.left]:=rfl
      rw [hT,hN] at hga
      rw [hga] at hgl
      simp only [List.length_nil,List.length_singleton] at hgl
      obtain ⟨i1,i2⟩:=right_line hg hr T r.right a.right [] hx hxr
      unfold ofF
      rw [e1]
      simp only []
      rw [f1]
      simp only []
      unfold grammF
      rw [hga]
      simp only []
      constructor
      · intro ho
        obtain ⟨m,m1,m2⟩:=i1 ho
        rw [rulesF,numF,m1]
        simp only []
        rw [rulesF]
        simp only []
        rw [if_neg (by simp;omega)]
        refine ⟨_,⟨_,m⟩,rfl,rfl,?_⟩
        simpa using m2
      · intro ho
        obtain ⟨p,m1⟩:=i2 ho
        rw [rulesF,numF,m1]
        exact ⟨_,rfl⟩
/-! ### where the lines end -/
def offS (g : Gram) (k : Nat) : Nat:=(textS g ⟨#[]⟩ (g.rules.take k)).size
theorem offS_succ {g : Gram} {k : Nat} (h : k < g.rules.length) : offS g (k + 1) = offS g k + (lnF g (g.rules[k]'h)).size + 1:=by
  unfold offS lnF
  rw [textS_succ h,size_app,size_app,size_app,show (⟨#[32,59]⟩ : ByteArray).size = 2 from rfl,show (⟨#[32,59,10]⟩ : ByteArray).size = 3 from rfl]
  omega
theorem textS_app {g : Gram} (a b : List Rule) (acc : ByteArray) : textS g acc (a ++ b) = textS g (textS g acc a) b:=by unfold textS;rw [List.foldl_append]
theorem text_parts {g : Gram} {k : Nat} (h : k < g.rules.length) : ∃ rest,bsl (textF g) = bsl (textS g ⟨#[]⟩ (g.rules.take k)) ++ (bsl (lnF g (g.rules[k]'h)) ++ 10 :: rest):=by
  refine ⟨flatP ((g.rules.drop (k + 1)).flatMap (piecesR g)),?_⟩
  have e : textF g = textS g (textS g ⟨#[]⟩ (g.rules.take (k + 1))) (g.rules.drop (k + 1)):=by
    unfold textF
    rw [← textS_app,List.take_append_drop]
  rw [e,textS_flat,textS_succ h,bsl_app,bsl_app]
  unfold lnF
  rw [bsl_app]
  show _ ++ (_ ++ [32,59,10]) ++ _ = _ ++ (_ ++ [32,59] ++ _)
  simp
theorem tk_no10 {b : List UInt8} {k : Int} {s : ByteArray} (h : Tk b k s) : ∀ c ∈ b,c.toNat ≠ 10:=by
  cases h with
  | name h =>
    unfold isNameF at h
    simp only [Bool.and_eq_true] at h
    intro c hc
    have:=List.all_eq_true.1 h.2 c hc
    intro e
    simp [innerB,letterB,e] at this
  | term h =>
    unfold isTermF at h
    simp only [Bool.and_eq_true] at h
    intro c hc
    rcases List.mem_cons.1 hc with rfl | hc
    · decide
    · rcases List.mem_append.1 hc with hc | hc
      · have:=List.all_eq_true.1 h.2 c hc
        intro e
        simp [insideB,e] at this
      · rw [List.mem_singleton.1 hc];decide
  | eq => intro c hc;rw [List.mem_singleton.1 hc];decide
  | semi => intro c hc;rw [List.mem_singleton.1 hc];decide
theorem lnF_no10 {g : Gram} (hg : goodF g = true) {r : Rule} (hr : r ∈ g.rules) : ∀ c ∈ bsl (lnF g r),c.toNat ≠ 10:=by
  have hb : bsl (lnF g r) = flatP (piecesH g r) ++ [59]:=by
    unfold lnF
    rw [bsl_app,← lineF_flat]
    show _ ++ [32,59] = _ ++ [32] ++ [59]
    simp
  intro c hc
  rw [hb] at hc
  rcases List.mem_append.1 hc with hc | hc
  · unfold flatP at hc
    obtain ⟨p,hp,hc⟩:=List.mem_flatMap.1 hc
    have h32 : p.w = 32:=by
      unfold piecesH at hp
      simp only [List.mem_cons] at hp
      rcases hp with rfl | rfl | hp
      · rfl
      · rfl
      · obtain ⟨x,_,rfl⟩:=List.mem_map.1 hp
        rfl
    rcases List.mem_append.1 hc with hc | hc
    · exact tk_no10 (piecesH_ok hg hr p hp).1 c hc
    · rw [List.mem_singleton.1 hc,h32];decide
  · rw [List.mem_singleton.1 hc];decide
theorem mid_list {α : Type} (A L R : List α) : ((A ++ (L ++ R)).take (A.length + L.length)).drop A.length = L:=by
  rw [← List.append_assoc,List.take_left' (by simp),List.drop_left' rfl]
/-- Within a line no byte is 10;at its end one is;what stands between is the line. -/
theorem line_at {g : Gram} (hg : goodF g = true) {k : Nat} (h : k < g.rules.length) {i : Nat} (hi : i < (textF g).size) (h0 : offS g k ≤ i) :
    (i < offS g k + (lnF g (g.rules[k]'h)).size → ((textF g)[i]'hi).toNat ≠ 10) ∧ (i = offS g k + (lnF g (g.rules[k]'h)).size → ((textF g)[i]'hi).toNat = 10 ∧ (textF g).extract (offS g k) i = lnF g (g.rules[k]'h)):=by
  obtain ⟨rest,e⟩:=text_parts h
  have hno:=lnF_no10 hg (List.getElem_mem h)
  have hl1 : (bsl (textS g ⟨#[]⟩ (g.rules.take k))).length = offS g k:=size_data _
  have hl2 : (bsl (lnF g (g.rules[k]'h))).length = (lnF g (g.rules[k]'h)).size:=size_data _
  have hii : i < (bsl (textF g)).length:=by rw [size_data];exact hi
  have hget : (textF g)[i]'hi = (bsl (textF g))[i]'hii:=rfl
  rw [hget]
  constructor
  · intro hlt
    have e2 : (bsl (textF g))[i]'hii = (bsl (lnF g (g.rules[k]'h)))[i - offS g k]'(by omega):=by
      simp only [e]
      rw [List.getElem_append_right (by omega),List.getElem_append_left (by omega)]
      simp only [hl1]
    rw [e2]
    exact hno _ (List.getElem_mem _)
  · intro he
    constructor
    · have e2 : (bsl (textF g))[i]'hii = 10:=by
        simp only [e]
        rw [List.getElem_append_right (by omega),List.getElem_append_right (by omega)]
        simp only [hl1,hl2,he]
        simp
      rw [e2]
      rfl
    · apply ba_ext
      rw [bsl_extract,e,he,← hl1,← hl2,mid_list]
end Go.Proofs.Ytdpdbgaoaibafaa
