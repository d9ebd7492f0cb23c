/- Plain proofs. No condition. -/
import Derived.Test.YtaliejncdnegeaaGreatZwD
import Derived.Test.YtaliejncdnegeaaGreatZwB2
set_option maxRecDepth 100000
namespace Go.Proofs.YtaliejncdnegeaaGreat
open Go.Aw
set_option linter.unusedVariables false
set_option linter.unusedSimpArgs false
def L.zqig.J1 (j305 : (List (List Piece)) × (List (List Piece))) : Option ((List (List Piece)) × (List (List Piece)) × Int) := some (j305.1, j305.2, 0)
def L.zqig.J3 (st498 : (List (List Piece)) × (List (List Piece)) × Int) (j690 : (List (List Piece)) × (List (List Piece))) : Option (((List (List Piece)) × (List (List Piece)) × Int) ⊕ (((List (List Piece)) × (List (List Piece)) × Int) ⊕ ((List (List Piece)) × (List (List Piece))))) := some (.inl (j690.1, j690.2, wr (st498.2.2 + 1)))
def L.zqig.B4 (r693 : (List (List Piece)) × (List (List Piece)) × Int) (k701 : Nat) (st755 : List (List Piece)) : Option ((List (List Piece)) ⊕ (((List (List Piece)) × (List (List Piece)) × Int))) := Option.bind (ix st755 (k701 : Int)) fun p790 => Option.bind (app? ([] : List Piece) p790.2) fun l792 => Option.bind (ix r693.2.1 (k701 : Int)) fun p795 => Option.bind (app? l792 p795.2) fun l797 => Option.bind (L.zuyb l797) fun r800 => Option.bind (ix (st755.set p790.1 r800) (k701 : Int)) fun p806 => if decide ((p806.2.length : Int) > 200) = true then some ((.inr (([], [], 4)))) else some (.inl (st755.set p790.1 r800))
def L.zqig.B2 (n_0 : Network) (p_2 : Plan) (feeds_3 : List Int) (ticks_4 : Int) (st498 : (List (List Piece)) × (List (List Piece)) × Int) : Option (((List (List Piece)) × (List (List Piece)) × Int) ⊕ (((List (List Piece)) × (List (List Piece)) × Int) ⊕ ((List (List Piece)) × (List (List Piece))))) := if decide (st498.2.2 < ticks_4) = true then Option.bind (L.zthj n_0 st498.1 p_2 feeds_3) fun r693 => if (r693.2.2 != 0) = true then some ((.inr (.inl (([], [], r693.2.2))))) else Option.bind (forI (L.zqig.B4 r693) 0 st498.2.1.length st498.2.1) fun o780 => Sum.elim (fun st755 => L.zqig.J3 st498 (r693.1, st755)) (fun d811 => some ((.inr (.inl (d811))))) o780 else some ((.inr (.inr ((st498.1, st498.2.1)))))
def L.zqig (n_0 : Network) (fills_1 : List (List Piece)) (p_2 : Plan) (feeds_3 : List Int) (ticks_4 : Int) : Option ((List (List Piece)) × (List (List Piece)) × Int) := if (decide (ticks_4 < 0) || decide (ticks_4 > 400)) = true then some ([], [], 1) else Option.bind (L.zkim n_0 fills_1 p_2 feeds_3) fun r10 => if (r10 != 0) = true then some ([], [], r10) else Option.bind (mk? (n_0.Ports.length : Int) ([] : List Piece)) fun l14 => Option.bind (loopN (L.zqig.B2 n_0 p_2 feeds_3 ticks_4) lots (fills_1, l14, 0)) fun o593 => Sum.elim (fun d812 => some d812) (fun d813 => L.zqig.J1 d813) o593
def L.zijd.J2 (j110 : Bool) : Option Bool := some j110
def L.zijd.J1 (r26 : (List (List Piece)) × (List (List Piece)) × Int) (j102 : Unit) : Option Bool := Option.bind (ix r26.1 0) fun p111 => Option.bind (L.zmux p111.2) fun r113 => if r113 = true then Option.bind (L.zuro) fun r116 => L.zijd.J2 r116 else L.zijd.J2 false
def L.zijd.B3 (rate_1 : Int) (ticks_2 : Int) (r11 : Int × KS) (r17 : (List Piece) × KS) (r26 : (List (List Piece)) × (List (List Piece)) × Int) (st166 : Int) : Option (Int ⊕ (Bool ⊕ Unit)) := if decide (st166 < 5) = true then Option.bind (L.zeyd (L.zvce r11.1) ([r17.1] : List (List Piece)) ([(⟨0, false⟩ : Hop)] : List Hop) st166) fun r198 => Option.bind (L.zeyd (L.zvce r11.1) r26.1 ([(⟨0, false⟩ : Hop)] : List Hop) st166) fun r202 => if ((r198.2.2 != 0) || ((r202.2.2 != 0) || (r198.2.1 && (decide (r198.1 ≥ (wr ((wr (1 + ((wr (rate_1)).tmod 20))) * ((wr (ticks_2)).tmod 20)))) && ((!r202.2.1) || (r202.1 != (wr (r198.1 - (wr ((wr (1 + ((wr (rate_1)).tmod 20))) * ((wr (ticks_2)).tmod 20))))))))))) = true then some ((.inr (.inl (false)))) else some (.inl (wr (st166 + 1))) else some ((.inr (.inr (()))))
def L.zijd (l_0 : List Int) (rate_1 : Int) (ticks_2 : Int) : Option Bool := if (!(L.zqaf l_0)) = true then Option.bind (L.zuro) fun r4 => some r4 else Option.bind (L.ziti l_0) fun r7 => Option.bind (L.ziuk r7 20 300) fun r11 => Option.bind (ix ((L.zvce r11.1).Segments) 0) fun p15 => Option.bind (L.zdti r11.2 p15.2.Capacity 5) fun r17 => Option.bind (L.zqig (L.zvce r11.1) ([r17.1] : List (List Piece)) (⟨([wr (1 + ((wr (rate_1)).tmod 20))] : List Int), ([wr (1 + ((wr (rate_1)).tmod 20)), wr (0 - (wr (1 + ((wr (rate_1)).tmod 20))))] : List Int), []⟩ : Plan) ([9, 0] : List Int) ((wr (ticks_2)).tmod 20)) fun r26 => if (r26.2.2 != 0) = true then some false else Option.bind (loopN (L.zijd.B3 rate_1 ticks_2 r11 r17 r26) lots 0) fun o189 => Sum.elim (fun d216 => some d216) (fun d217 => L.zijd.J1 r26 d217) o189
end Go.Proofs.YtaliejncdnegeaaGreat
namespace Go.Aw
set_option linter.unusedVariables false
set_option linter.unusedSimpArgs false
def Ok {α : Type} (o : Option α) (P : α → Prop) : Prop := ∃ r, o = some r ∧ P r
section
variable {α β S B : Type}
theorem Ok.pure {x : α} {P : α → Prop} (h : P x) : Ok (some x) P := ⟨x, rfl, h⟩
theorem Ok.get {o : Option α} {P : α → Prop} (h : Ok o P) : ∃ r, o = some r ∧ P r := h
theorem Ok.mono {o : Option α} {P Q : α → Prop} (h : Ok o P) (k : ∀ x, P x → Q x) : Ok o Q := let ⟨r, h1, h2⟩ := h; ⟨r, h1, k r h2⟩
theorem Ok.bind {o : Option α} {f : α → Option β} {P : β → Prop} {Q : α → Prop} (h : Ok o Q) (k : ∀ x, Q x → Ok (f x) P) : Ok (o.bind f) P := by
 obtain ⟨r, rfl, hr⟩ := h; exact k r hr
theorem Ok.bind' {o : Option α} {f : α → Option β} {P : β → Prop} (h : Ok o fun x => Ok (f x) P) : Ok (o.bind f) P := h.bind fun _ k => k
theorem Ok.eq {o : Option α} {P : α → Prop} {x : α} (h : o = some x) (k : P x) : Ok o P := ⟨x, h, k⟩
theorem Ok.and {o : Option α} {P Q : α → Prop} (h : Ok o P) (k : Ok o Q) : Ok o fun x => P x ∧ Q x := by
 obtain ⟨r, rfl, hr⟩ := h; obtain ⟨r', h', hr'⟩ := k; cases h'; exact ⟨r, rfl, hr, hr'⟩
theorem Ok.map {o : Option α} {f : α → β} {P : β → Prop} (h : Ok o fun x => P (f x)) : Ok (o.map f) P := by
 obtain ⟨r, rfl, hr⟩ := h; exact ⟨_, rfl, hr⟩
theorem Ok.chk {p : Prop} [Decidable p] {P : Unit → Prop} (h : p) (k : P ()) : Ok (chk p) P := ⟨(), chk_eq h, k⟩
theorem Ok.ix {l : List α} {i : Int} {P : Nat × α → Prop} (k : Nat) (hi : i = (k : Int)) (hk : k < l.length) (h : P (k, l[k])) : Ok (ix l i) P := by
 subst hi; exact ⟨_, ix_nat (gq hk), h⟩
theorem Ok.ix' {l : List α} {i : Int} {P : Nat × α → Prop} (h0 : 0 ≤ i) (hk : i < (l.length : Int)) (h : ∀ (k : Nat) (x : α), i = (k : Int) → l[k]? = some x → P (k, x)) : Ok (Aw.ix l i) P := by
 obtain ⟨k, rfl⟩ : ∃ k : Nat, i = (k : Int) := ⟨i.toNat, by omega⟩
 have hk' : k < l.length := by omega
 exact ⟨_, ix_nat (gq hk'), h k _ rfl (gq hk')⟩
theorem Ok.app {l m : List α} {P : List α → Prop} (hl : l.length + m.length ≤ 68719476736) (h : P (l ++ m)) : Ok (app? l m) P := ⟨_, app?_eq hl, h⟩
theorem Ok.mk {n : Int} {z : α} {P : List α → Prop} (m : Nat) (hm : n = (m : Int)) (hl : m ≤ 68719476736) (h : P (List.replicate m z)) : Ok (mk? n z) P := by
 subst hm; exact ⟨_, mk?_eq z hl, h⟩
theorem Ok.cat {a b : ByteArray} {P : ByteArray → Prop} (hl : a.size + b.size ≤ 68719476736) (h : P (a ++ b)) : Ok (cat? a b) P := ⟨_, if_pos hl, h⟩
theorem Ok.quo {a b : Int} {P : Int → Prop} (hb : b ≠ 0) (h : P (wr (a.tdiv b))) : Ok (quo? a b) P := ⟨_, if_pos hb, h⟩
theorem Ok.rem {a b : Int} {P : Int → Prop} (hb : b ≠ 0) (h : P (a.tmod b)) : Ok (rem? a b) P := ⟨_, if_pos hb, h⟩
theorem Ok.sub {l : List α} {a b : Int} {P : List α → Prop} (x y : Nat) (ha : a = (x : Int)) (hb : b = (y : Int)) (hxy : x ≤ y) (hl : y ≤ l.length) (h : P ((l.drop x).take (y - x))) : Ok (sub? l a b) P := by
 subst ha; subst hb
 exact ⟨_, if_pos ⟨by omega, by omega, by omega⟩, by simpa using h⟩
theorem Ok.forS_from {f : Nat → α → S → Option S} (I : Nat → S → Prop) (l : List α) : ∀ (m : List α) (k : Nat), l.drop k = m → ∀ st, I k st →
  (∀ k x st, l[k]? = some x → I k st → Ok (f k x st) (I (k + 1))) → k ≤ l.length → Ok (forS f k m st) (I l.length)
 | [], k, hm, st, hi, _, hk => by
  have : l.length - k = 0 := by simpa using congrArg List.length hm
  have : k = l.length := by omega
  subst this; exact .pure hi
 | x :: m, k, hm, st, hi, hf, hk => by
  have hx : l[k]? = some x := by have := congrArg (fun z => z[0]?) hm; simpa using this
  have hm' : l.drop (k + 1) = m := by have := congrArg (List.drop 1) hm; simpa [Nat.add_comm] using this
  obtain ⟨s', h1, h2⟩ := hf k x st hx hi
  simp only [forS, h1]
  exact Ok.forS_from I l m (k + 1) hm' s' h2 hf (by have := (gs hx).1; omega)
theorem Ok.forS {f : Nat → α → S → Option S} {l : List α} {st : S} {P : S → Prop} (I : Nat → S → Prop) (h0 : I 0 st)
  (hf : ∀ k x st, l[k]? = some x → I k st → Ok (f k x st) (I (k + 1))) (hP : ∀ st, I l.length st → P st) : Ok (forS f 0 l st) P :=
 (Ok.forS_from I l l 0 rfl st h0 hf (Nat.zero_le _)).mono hP
theorem Ok.forL_from {f : Nat → α → S → Option (S ⊕ B)} (I : Nat → S → Prop) (R : B → Prop) (l : List α) : ∀ (m : List α) (k : Nat), l.drop k = m → ∀ st, I k st →
  (∀ k x st, l[k]? = some x → I k st → Ok (f k x st) (Sum.elim (fun s => I (k + 1) s) R)) → k ≤ l.length → Ok (forL f k m st) (Sum.elim (fun s => I l.length s) R)
 | [], k, hm, st, hi, _, hk => by
  have : l.length - k = 0 := by simpa using congrArg List.length hm
  have : k = l.length := by omega
  subst this; exact .pure hi
 | x :: m, k, hm, st, hi, hf, hk => by
  have hx : l[k]? = some x := by have := congrArg (fun z => z[0]?) hm; simpa using this
  have hm' : l.drop (k + 1) = m := by have := congrArg (List.drop 1) hm; simpa [Nat.add_comm] using this
  obtain ⟨s', h1, h2⟩ := hf k x st hx hi
  cases s' with
  | inl s' =>
   simp only [forL, h1]
   exact Ok.forL_from I R l m (k + 1) hm' s' h2 hf (by have := (gs hx).1; omega)
  | inr b => simp only [forL, h1]; exact .pure h2
theorem Ok.forL {f : Nat → α → S → Option (S ⊕ B)} {l : List α} {st : S} {P : S ⊕ B → Prop} (I : Nat → S → Prop) (R : B → Prop) (h0 : I 0 st)
  (hf : ∀ k x st, l[k]? = some x → I k st → Ok (f k x st) (Sum.elim (fun s => I (k + 1) s) R)) (hP : ∀ st, I l.length st → P (.inl st)) (hR : ∀ b, R b → P (.inr b)) : Ok (forL f 0 l st) P :=
 (Ok.forL_from I R l l 0 rfl st h0 hf (Nat.zero_le _)).mono fun x h => by cases x with | inl s => exact hP s h | inr b => exact hR b h
theorem Ok.forJ_from {f : Nat → S → Option S} (I : Nat → S → Prop) (n : Nat) : ∀ (m k : Nat), k + m = n → ∀ st, I k st →
  (∀ k st, k < n → I k st → Ok (f k st) (I (k + 1))) → Ok (forJ f k m st) (I n)
 | 0, k, hm, st, hi, _ => by have : k = n := (by omega); subst this; exact .pure hi
 | m + 1, k, hm, st, hi, hf => by
  obtain ⟨s', h1, h2⟩ := hf k st (by omega) hi
  simp only [forJ, h1]
  exact Ok.forJ_from I n m (k + 1) (by omega) s' h2 hf
theorem Ok.forJ {f : Nat → S → Option S} {n : Nat} {st : S} {P : S → Prop} (I : Nat → S → Prop) (h0 : I 0 st)
  (hf : ∀ k st, k < n → I k st → Ok (f k st) (I (k + 1))) (hP : ∀ st, I n st → P st) : Ok (forJ f 0 n st) P :=
 (Ok.forJ_from I n n 0 (by omega) st h0 hf).mono hP
theorem Ok.forI_from {f : Nat → S → Option (S ⊕ B)} (I : Nat → S → Prop) (R : B → Prop) (n : Nat) : ∀ (m k : Nat), k + m = n → ∀ st, I k st →
  (∀ k st, k < n → I k st → Ok (f k st) (Sum.elim (fun s => I (k + 1) s) R)) → Ok (forI f k m st) (Sum.elim (fun s => I n s) R)
 | 0, k, hm, st, hi, _ => by have : k = n := (by omega); subst this; exact .pure hi
 | m + 1, k, hm, st, hi, hf => by
  obtain ⟨s', h1, h2⟩ := hf k st (by omega) hi
  cases s' with
  | inl s' =>
   simp only [forI, h1]
   exact Ok.forI_from I R n m (k + 1) (by omega) s' h2 hf
  | inr b => simp only [forI, h1]; exact .pure h2
theorem Ok.forI {f : Nat → S → Option (S ⊕ B)} {n : Nat} {st : S} {P : S ⊕ B → Prop} (I : Nat → S → Prop) (R : B → Prop) (h0 : I 0 st)
  (hf : ∀ k st, k < n → I k st → Ok (f k st) (Sum.elim (fun s => I (k + 1) s) R)) (hP : ∀ st, I n st → P (.inl st)) (hR : ∀ b, R b → P (.inr b)) : Ok (forI f 0 n st) P :=
 (Ok.forI_from I R n n 0 (by omega) st h0 hf).mono fun x h => by cases x with | inl s => exact hP s h | inr b => exact hR b h
theorem Ok.loop_from {f : S → Option (S ⊕ B)} {P : B → Prop} (I : S → Prop) (μ : S → Nat) (hf : ∀ st, I st → Ok (f st) (Sum.elim (fun s => I s ∧ μ s < μ st) P)) :
  ∀ (n : Nat) (st : S), I st → μ st < n → Ok (loopN f n st) P
 | 0, st, _, h => absurd h (Nat.not_lt_zero _)
 | n + 1, st, hi, h => by
  obtain ⟨r, h1, h2⟩ := hf st hi
  cases r with
  | inl s =>
   simp only [loopN, h1]
   exact Ok.loop_from I μ hf n s h2.1 (by have := h2.2; omega)
  | inr b => simp only [loopN, h1]; exact .pure h2
theorem Ok.loop {f : S → Option (S ⊕ B)} {P : B → Prop} {st : S} (I : S → Prop) (μ : S → Nat) (h0 : I st) (hm : μ st < 18446744073709551616)
  (hf : ∀ st, I st → Ok (f st) (Sum.elim (fun s => I s ∧ μ s < μ st) P)) : Ok (loopN f lots st) P :=
 Ok.loop_from I μ hf _ st h0 hm
end
def dot : List Int → List Int → Int
 | w :: ws, x :: xs => w * x + dot ws xs
 | _, _ => 0
theorem dot_nil (w : List Int) : dot w [] = 0 := by cases w <;> rfl
theorem dot_zero (w : List Int) (n : Nat) : dot w (List.replicate n 0) = 0 := by
 induction n generalizing w with
 | zero => exact dot_nil w
 | succ n ih => cases w with
  | nil => rfl
  | cons a w => simp [List.replicate_succ, dot, ih]
theorem dot_take_succ {w l : List Int} {k : Nat} {a x : Int} (hw : w[k]? = some a) (hl : l[k]? = some x) : dot w (l.take (k + 1)) = dot w (l.take k) + a * x := by
 induction w generalizing l k with
 | nil => simp at hw
 | cons b w ih =>
  cases l with
  | nil => simp at hl
  | cons z l =>
   cases k with
   | zero => simp at hw hl; subst hw; subst hl; simp [dot, dot_nil]
   | succ k =>
    simp at hw hl
    simp only [List.take_succ_cons, dot, ih hw hl]; omega
theorem get_set {α : Type} {l : List α} {k i : Nat} {x : α} : (l.set k x)[i]? = if k = i ∧ i < l.length then some x else l[i]? := by
 rw [List.getElem?_set]
 by_cases h : k = i
 ·subst h
  by_cases h2 : k < l.length
  ·simp [h2]
  ·simp [h2]
 ·simp [h]
theorem inj_some {a b : Nat} (h : some (a : Int) = some (b : Int)) : a = b := Int.ofNat.inj (Option.some.inj h)
inductive Rep (u : List Int) : Nat → Nat → Nat → Prop
 | root {k : Nat} : u[k]? = some (k : Int) → Rep u 0 k k
 | step {k j m r : Nat} : u[k]? = some (j : Int) → k ≠ j → Rep u m j r → Rep u (m + 1) k r
theorem Rep.det {u : List Int} {m k r : Nat} (h : Rep u m k r) : ∀ {m' r' : Nat}, Rep u m' k r' → m = m' ∧ r = r' := by
 induction h with
 | root h =>
  intro m' r' h'
  cases h' with
  | root _ => exact ⟨rfl, rfl⟩
  | step h1 h2 _ => rw [h] at h1; have := inj_some h1; omega
 | step h1 h2 h3 ih =>
  intro m' r' h'
  cases h' with
  | root h => rw [h] at h1; have := inj_some h1; omega
  | step h4 h5 h6 =>
   rw [h1] at h4; have h4 := inj_some h4
   subst h4
   obtain ⟨rfl, rfl⟩ := ih h6
   exact ⟨rfl, rfl⟩
theorem Rep.halve {u : List Int} {k j i : Nat} (hk : u[k]? = some (j : Int)) (hne : k ≠ j) (hj : u[j]? = some (i : Int)) :
  ∀ (m x r : Nat), Rep u m x r → ∃ m', m' ≤ m ∧ Rep (u.set k (i : Int)) m' x r := by
 intro m
 induction m using Nat.strongRecOn with
 | ind m ih =>
  intro x r h
  have hkl : k < u.length := (gs hk).1
  cases h with
  | root h =>
   refine ⟨0, Nat.le_refl _, .root ?_⟩
   rw [List.getElem?_set]
   by_cases hx : k = x
   ·subst hx; rw [h] at hk; have := inj_some hk; omega
   ·simp [hx, h]
  | @step _ y m' _ h1 h2 h3 =>
   by_cases hx : k = x
   ·subst hx
    rw [hk] at h1; have h1 := inj_some h1
    subst h1
    cases h3 with
    | root h4 =>
     rw [hj] at h4; have h4 := inj_some h4
     subst h4
     obtain ⟨m2, hm2, hr2⟩ := ih 0 (by omega) i i (.root hj)
     have : m2 = 0 := by omega
     subst this
     exact ⟨1, by omega, .step (by simp [hkl]) h2 hr2⟩
    | @step _ z m'' _ h4 h5 h6 =>
     rw [hj] at h4; have h4 := inj_some h4
     subst h4
     have hki : k ≠ i := by
      rintro rfl
      have := (Rep.det h6 (.step hk hne (.step hj h5 h6))).1
      omega
     obtain ⟨m2, hm2, hr2⟩ := ih m'' (by omega) i r h6
     exact ⟨m2 + 1, by omega, .step (by simp [hkl]) hki hr2⟩
   ·obtain ⟨m2, hm2, hr2⟩ := ih m' (by omega) y r h3
    exact ⟨m2 + 1, by omega, .step (by rw [List.getElem?_set]; simp [hx, h1]) h2 hr2⟩
structure Uni (n : Nat) (u : List Int) (d : Nat) (ρ : Nat → Nat) : Prop where
 len : u.length = n
 lt : ∀ k, k < n → ρ k < n
 rep : ∀ k, k < n → ∃ m, m ≤ d ∧ Rep u m k (ρ k)
theorem Uni.at_ {n d : Nat} {u : List Int} {ρ : Nat → Nat} (h : Uni n u d ρ) {k : Nat} (hk : k < n) : ∃ j : Nat, u[k]? = some (j : Int) ∧ j < n ∧ ρ j = ρ k := by
 obtain ⟨m, _, hr⟩ := h.rep k hk
 generalize he : ρ k = r at hr
 cases hr with
 | root h1 => exact ⟨k, h1, hk, he⟩
 | @step _ j _ _ h1 h2 h3 =>
  have hj : j < n := by
   rw [← h.len]
   cases h3 with
   | root h => exact (gs h).1
   | step h _ _ => exact (gs h).1
  refine ⟨j, h1, hj, ?_⟩
  obtain ⟨m', _, hr'⟩ := h.rep j hj
  exact (hr'.det h3).2
theorem Uni.halve {n d : Nat} {u : List Int} {ρ : Nat → Nat} (h : Uni n u d ρ) {k j i : Nat} (hk : u[k]? = some (j : Int)) (hne : k ≠ j) (hj : u[j]? = some (i : Int)) :
  Uni n (u.set k (i : Int)) d ρ :=
 ⟨by simp [h.len], h.lt, fun x hx => let ⟨m, h1, h2⟩ := h.rep x hx; let ⟨m', h3, h4⟩ := Rep.halve hk hne hj m x _ h2; ⟨m', by omega, h4⟩⟩
theorem Uni.step {n d : Nat} {u : List Int} {ρ : Nat → Nat} (h : Uni n u d ρ) {k j i m : Nat} (hk : u[k]? = some (j : Int)) (hne : k ≠ j) (hj : u[j]? = some (i : Int)) (hr : Rep u m k (ρ k)) :
  ∃ m', m' < m ∧ Rep (u.set k (i : Int)) m' i (ρ i) ∧ ρ i = ρ k := by
 have hj' : j < n := by rw [← h.len]; exact (gs hj).1
 have hk' : k < n := by rw [← h.len]; exact (gs hk).1
 obtain ⟨y, e1, hy, e2⟩ := h.at_ hj'
 obtain ⟨y2, e3, hy2, e4⟩ := h.at_ hk'
 rw [hj] at e1; have e1 := inj_some e1; subst e1
 rw [hk] at e3; have e3 := inj_some e3; subst e3
 have hik : ρ i = ρ k := by rw [e2, e4]
 generalize ρ k = r at hr hik
 cases hr with
 | root h1 => rw [h1] at hk; have := inj_some hk; omega
 | @step _ y m1 _ h1 h2 h3 =>
  rw [hk] at h1; have h1 := inj_some h1
  subst h1
  have : ∃ m2, m2 ≤ m1 ∧ Rep u m2 i r := by
   cases h3 with
   | root h4 => rw [hj] at h4; have h4 := inj_some h4; exact ⟨0, by omega, by rw [h4]; rw [h4] at hj; exact .root hj⟩
   | step h4 h5 h6 => rw [hj] at h4; have h4 := inj_some h4; subst h4; exact ⟨_, by omega, h6⟩
  obtain ⟨m2, h4, h5⟩ := this
  obtain ⟨m3, h6, h7⟩ := Rep.halve hk hne hj m2 i _ h5
  exact ⟨m3, by omega, by rw [hik]; exact h7, hik⟩
inductive Conn (R : Nat → Nat → Prop) : Nat → Nat → Prop
 | refl (x : Nat) : Conn R x x
 | edge {x y : Nat} : R x y → Conn R x y
 | symm {x y : Nat} : Conn R x y → Conn R y x
 | trans {x y z : Nat} : Conn R x y → Conn R y z → Conn R x z
theorem Conn.mono {R R' : Nat → Nat → Prop} (h : ∀ x y, R x y → Conn R' x y) {x y : Nat} (c : Conn R x y) : Conn R' x y := by
 induction c with
 | refl x => exact .refl x
 | edge e => exact h _ _ e
 | symm _ ih => exact ih.symm
 | trans _ _ i1 i2 => exact i1.trans i2
end Go.Aw
namespace Go.Proofs.YtaliejncdnegeaaGreat
set_option linter.unusedVariables false
set_option linter.unusedSimpArgs false
open Go.Aw
abbrev Src := KS
structure SrcOk (s : Src) : Prop where
 at0 : 0 ≤ s.At
 at1 : s.At ≤ (s.L_.length : Int)
 len : s.L_.length ≤ 2000
theorem Ok.iteD {α : Type} {c : Prop} [Decidable c] {a b : Option α} {P : α → Prop} (h1 : c → Ok a P) (h2 : ¬ c → Ok b P) : Ok (if decide c = true then a else b) P := by
 by_cases hc : c
 ·rw [if_pos (by simp [hc])]; exact h1 hc
 ·rw [if_neg (by simp [hc])]; exact h2 hc
theorem Ok.iteB {α : Type} {c : Bool} {a b : Option α} {P : α → Prop} (h1 : c = true → Ok a P) (h2 : c = false → Ok b P) : Ok (if c = true then a else b) P := by
 cases c
 ·rw [if_neg (by simp)]; exact h2 rfl
 ·rw [if_pos rfl]; exact h1 rfl
theorem Ok.iteN {α : Type} {c : Bool} {a b : Option α} {P : α → Prop} (h1 : c = false → Ok a P) (h2 : c = true → Ok b P) : Ok (if (!c) = true then a else b) P := by
 cases c
 ·exact h1 rfl
 ·exact h2 rfl
theorem Ok.iteE {α : Type} {x y : Int} {a b : Option α} {P : α → Prop} (h1 : x = y → Ok a P) (h2 : x ≠ y → Ok b P) : Ok (if (x == y) = true then a else b) P := by
 by_cases h : x = y
 ·rw [if_pos (by simp [h])]; exact h1 h
 ·rw [if_neg (by simp [h])]; exact h2 h
theorem Ok.iteU {α : Type} {x y : Int} {a b : Option α} {P : α → Prop} (h1 : x ≠ y → Ok a P) (h2 : x = y → Ok b P) : Ok (if (x != y) = true then a else b) P := by
 by_cases h : x = y
 ·rw [if_neg (by simp [h])]; exact h2 h
 ·rw [if_pos (by simp [h])]; exact h1 h
theorem mod_ok (x : Int) {n : Int} (h1 : 1 ≤ n) (h2 : n ≤ 9223372036854775807) : Ok (L.zbjp x n) fun r => 0 ≤ r ∧ r < n := by
 unfold L.zbjp L.zbjp.J1
 have ha := Int.tmod_lt_of_pos x (show 0 < n by omega)
 have hb : -n < x.tmod n := by
  have := Int.tmod_lt_of_pos (-x) (show 0 < n by omega)
  rw [Int.neg_tmod] at this; omega
 refine Ok.iteD (fun h => by omega) fun _ => .bind' (.rem (by omega) ?_)
 refine Ok.iteD (fun h => .pure ?_) (fun h => .pure ?_)
 ·rw [wr_id (by omega)]; omega
 ·omega
theorem new_ok (l : List Int) : Ok (L.ziti l) SrcOk := by
 unfold L.ziti
 refine .bind' (.sub 0 (min l.length 2000) rfl (by omega) (by omega) (by omega) (.pure ?_))
 exact ⟨Int.le_refl _, by simp, by simp; omega⟩
theorem raw_ok {s : Src} (h : SrcOk s) : Ok (L.zxpl s) fun r => SrcOk r.2 := by
 obtain ⟨h1, h2, h3⟩ := h
 unfold L.zxpl
 refine Ok.iteD (fun _ => .pure ⟨h1, h2, h3⟩) fun h => ?_
 simp (disch := omega) only [wr_id]
 refine .bind' (.ix' (by omega) (by omega) fun k x _ _ => .pure ⟨by dsimp only; omega, by dsimp only; omega, h3⟩)
theorem n_ok {s : Src} (h : SrcOk s) {n : Int} (h1 : 1 ≤ n) (h2 : n ≤ 9223372036854775807) : Ok (L.zdjb s n) fun r => SrcOk r.2 ∧ 0 ≤ r.1 ∧ r.1 < n := by
 unfold L.zdjb
 exact .bind (raw_ok h) fun x hx => .bind (mod_ok _ h1 h2) fun y hy => .pure ⟨hx, hy⟩
theorem range_ok {s : Src} (h : SrcOk s) {lo hi : Int} (h1 : lo ≤ hi) (h2 : -1000000000 ≤ lo) (h3 : hi ≤ 1000000000) : Ok (L.ziuk s lo hi) fun r => SrcOk r.2 ∧ lo ≤ r.1 ∧ r.1 ≤ hi := by
 unfold L.ziuk
 simp (disch := omega) only [wr_id]
 refine .bind (n_ok h (by omega) (by omega)) fun x hx => .pure ⟨hx.1, ?_⟩
 dsimp only
 rw [wr_id (by omega)]; omega
def nm (c : UInt8) (k : Nat) : ByteArray := ⟨#[c, 97 + UInt8.ofNat k]⟩
structure PointsOk (cap : Int) (l : List Point) : Prop where
 len : 2 ≤ l.length ∧ l.length ≤ 8
 first : ∀ p, l[0]? = some p → p.At = 0
 last : ∀ p, l[l.length - 1]? = some p → p.At = cap
 up : ∀ i p q, l[i]? = some p → l[i + 1]? = some q → p.At < q.At
 height : ∀ p, p ∈ l → -500 ≤ p.Height ∧ p.Height ≤ 5000
 limit : ∀ p, p ∈ l → 0 ≤ p.Limit ∧ p.Limit ≤ 100000000
structure SegOk (nodes k : Nat) (s : Segment) : Prop where
 name : s.Name = nm 103 k
 ends : 0 ≤ s.From ∧ s.From < (nodes : Int) ∧ 0 ≤ s.To ∧ s.To < (nodes : Int) ∧ s.From ≠ s.To
 cap : 1 ≤ s.Capacity ∧ s.Capacity ≤ 1000
 resist : 0 ≤ s.Resist ∧ s.Resist ≤ 1000
 wave : 0 ≤ s.Wave ∧ s.Wave ≤ 100000
 points : PointsOk s.Capacity s.Points
structure PortOk (nodes k : Nat) (p : Port) : Prop where
 name : p.Name = nm 113 k
 node : 0 ≤ p.Node ∧ p.Node < (nodes : Int)
 pressure : 0 ≤ p.Pressure ∧ p.Pressure ≤ 100000000
structure StOk (nodes k : Nat) (p : Station) : Prop where
 name : p.Name = nm 115 k
 node : 0 ≤ p.Node ∧ p.Node < (nodes : Int)
 head : 0 ≤ p.Head ∧ p.Head ≤ 2000000
 fall : 0 ≤ p.Fall ∧ p.Fall ≤ 100000
 suction : 0 ≤ p.Suction ∧ p.Suction ≤ 400000
structure NetOk (n : Network) : Prop where
 nodes : 2 ≤ n.Nodes.length ∧ n.Nodes.length ≤ 6
 names : ∀ k x, n.Nodes[k]? = some x → x = nm 110 k
 segs1 : n.Nodes.length - 1 ≤ n.Segments.length ∧ n.Segments.length ≤ 8
 segs : ∀ k s, n.Segments[k]? = some s → SegOk n.Nodes.length k s
 ports1 : 2 ≤ n.Ports.length ∧ n.Ports.length ≤ 6
 ports : ∀ k s, n.Ports[k]? = some s → PortOk n.Nodes.length k s
 portsUp : ∀ (i j : Nat) (p q : Port), i < j → n.Ports[i]? = some p → n.Ports[j]? = some q → p.Node < q.Node
 sts1 : n.Stations.length ≤ 6
 sts : ∀ k s, n.Stations[k]? = some s → StOk n.Nodes.length k s
 stsUp : ∀ (i j : Nat) (p q : Station), i < j → n.Stations[i]? = some p → n.Stations[j]? = some q → p.Node < q.Node
 vapour : -100000 ≤ n.Vapour ∧ n.Vapour ≤ 50000
 settle : 0 ≤ n.Settle ∧ n.Settle ≤ 100
def lit (f : List Piece) : List Int := f.flatMap fun p => List.replicate p.Volume.toNat p.Batch
def psh (l : List Piece) (p : Piece) : List Piece :=
 match l.getLast? with
 | some q => if q.Batch = p.Batch then l.dropLast ++ [⟨q.Batch, q.Volume + p.Volume⟩] else l ++ [p]
 | none => [p]
def rle (L : List Int) : List Piece := L.foldl (fun a b => psh a ⟨b, 1⟩) []
theorem lit_nil : lit [] = [] := rfl
theorem lit_cons (p : Piece) (f : List Piece) : lit (p :: f) = List.replicate p.Volume.toNat p.Batch ++ lit f := rfl
theorem lit_app (f g : List Piece) : lit (f ++ g) = lit f ++ lit g := by simp [lit]
theorem lit_one (p : Piece) : lit [p] = List.replicate p.Volume.toNat p.Batch := by simp [lit]
theorem psh_nil (p : Piece) : psh [] p = [p] := rfl
theorem psh_snoc (l : List Piece) (q p : Piece) : psh (l ++ [q]) p = if q.Batch = p.Batch then l ++ [⟨q.Batch, q.Volume + p.Volume⟩] else l ++ [q] ++ [p] := by
 simp [psh]
theorem snoc_of {α : Type} {l : List α} (h : l ≠ []) : ∃ a x, l = a ++ [x] := ⟨l.dropLast, l.getLast h, (List.dropLast_concat_getLast h).symm⟩
theorem snoc_cases {α : Type} (l : List α) : l = [] ∨ ∃ a x, l = a ++ [x] := by
 by_cases h : l = []
 ·exact .inl h
 ·exact .inr (snoc_of h)
theorem psh_psh (l : List Piece) (b v w : Int) : psh (psh l ⟨b, v⟩) ⟨b, w⟩ = psh l ⟨b, v + w⟩ := by
 rcases snoc_cases l with rfl | ⟨a, q, rfl⟩
 ·have := psh_snoc [] ⟨b, v⟩ ⟨b, w⟩
  simpa [psh_nil] using this
 ·rw [psh_snoc, psh_snoc]
  by_cases h : q.Batch = b
  ·simp only [h, if_pos]; rw [psh_snoc]; simp [Int.add_assoc]
  ·simp only [h, if_false]; rw [psh_snoc]; simp
theorem rle_nil : rle [] = [] := rfl
theorem rle_snoc (L : List Int) (b : Int) : rle (L ++ [b]) = psh (rle L) ⟨b, 1⟩ := by simp [rle, List.foldl_append]
theorem rle_rep (L : List Int) (b : Int) : ∀ v : Nat, 1 ≤ v → rle (L ++ List.replicate v b) = psh (rle L) ⟨b, (v : Int)⟩
 | 0, h => absurd h (by omega)
 | 1, _ => by rw [show List.replicate 1 b = [b] from rfl]; exact rle_snoc L b
 | v + 2, _ => by
  rw [List.replicate_succ', ← List.append_assoc, rle_snoc, rle_rep L b (v + 1) (by omega), psh_psh]
  congr 2
theorem psh_lit {l : List Piece} {p : Piece} (hl : ∀ q, q ∈ l → 0 ≤ q.Volume) (hp : 0 ≤ p.Volume) : lit (psh l p) = lit l ++ List.replicate p.Volume.toNat p.Batch := by
 rcases snoc_cases l with rfl | ⟨a, q, rfl⟩
 ·simp [psh_nil, lit]
 ·have hq := hl q (by simp)
  rw [psh_snoc]
  split
  ·rename_i h
   rw [lit_app, lit_app, lit_one, lit_one, List.append_assoc]
   congr 1
   dsimp only
   rw [← h, Int.toNat_add hq hp, List.replicate_append_replicate]
  ·rw [lit_app, lit_one]
structure Can (f : List Piece) : Prop where
 pos : ∀ p, p ∈ f → 1 ≤ p.Volume
 ne : ∀ (i : Nat) (p q : Piece), f[i]? = some p → f[i + 1]? = some q → p.Batch ≠ q.Batch
theorem Can.nil : Can [] := ⟨by simp, by simp⟩
theorem Can.snoc {a : List Piece} {x : Piece} (h : Can a) (hx : 1 ≤ x.Volume) (hn : ∀ q, a.getLast? = some q → q.Batch ≠ x.Batch) : Can (a ++ [x]) := by
 refine ⟨fun p hp => ?_, fun i p q hp hq => ?_⟩
 ·rcases List.mem_append.1 hp with hp | hp
  ·exact h.pos p hp
  ·simp at hp; subst hp; exact hx
 ·rw [List.getElem?_append] at hp hq
  split at hq
  ·rw [if_pos (by omega)] at hp; exact h.ne i p q hp hq
  ·rename_i hi
   have hb := (gs hq).1
   simp at hb
   have e : i + 1 = a.length := by omega
   rw [if_pos (by omega)] at hp
   simp [e] at hq
   subst hq
   refine hn p ?_
   rw [List.getLast?_eq_getElem?, show a.length - 1 = i by omega]; exact hp
theorem Can.init {a : List Piece} {x : Piece} (h : Can (a ++ [x])) : Can a :=
 ⟨fun p hp => h.pos p (by simp [hp]), fun i p q hp hq => by
  have h1 := (gs hp).1
  have h2 := (gs hq).1
  exact h.ne i p q (by rw [List.getElem?_append_left h1]; exact hp) (by rw [List.getElem?_append_left h2]; exact hq)⟩
theorem Can.last {a : List Piece} {q x : Piece} (h : Can (a ++ [q] ++ [x])) : q.Batch ≠ x.Batch :=
 h.ne a.length q x (by simp) (by simp)
theorem psh_can {l : List Piece} {p : Piece} (h : Can l) (hp : 1 ≤ p.Volume) : Can (psh l p) := by
 rcases snoc_cases l with rfl | ⟨a, q, rfl⟩
 ·rw [psh_nil]; exact Can.snoc (a := []) .nil hp (by simp)
 ·rw [psh_snoc]
  have hq := h.pos q (by simp)
  split
  ·refine h.init.snoc (by dsimp only; omega) fun z hz => ?_
   rcases snoc_cases a with rfl | ⟨c, y, rfl⟩
   ·simp at hz
   ·simp at hz; subst hz; exact h.last
  ·rename_i hb
   refine h.snoc hp fun z hz => ?_
   simp at hz; subst hz; exact hb
theorem rle_can (L : List Int) : Can (rle L) := by
 have : ∀ n (L : List Int), L.length = n → Can (rle L) := by
  intro n
  induction n with
  | zero => intro L h; rw [List.length_eq_zero_iff.1 h]; exact .nil
  | succ n ih =>
   intro L h
   rcases snoc_cases L with rfl | ⟨a, x, rfl⟩
   ·simp at h
   ·rw [rle_snoc]; exact psh_can (ih a (by simpa using h)) (by simp)
 exact this _ L rfl
theorem snoc_ind {α : Type} {P : List α → Prop} (h0 : P []) (h1 : ∀ a x, P a → P (a ++ [x])) : ∀ l, P l := by
 have : ∀ n (l : List α), l.length = n → P l := by
  intro n
  induction n with
  | zero => intro l h; rw [List.length_eq_zero_iff.1 h]; exact h0
  | succ n ih =>
   intro l h
   rcases snoc_cases l with rfl | ⟨a, x, rfl⟩
   ·exact h0
   ·exact h1 a x (ih a (by simpa using h))
 exact fun l => this _ l rfl
theorem lit_rle (L : List Int) : lit (rle L) = L := by
 induction L using snoc_ind with
 | h0 => rfl
 | h1 a x ih => rw [rle_snoc, psh_lit (fun q hq => by have := (rle_can a).pos q hq; omega) (by simp), ih]; rfl
theorem rle_inj {L M : List Int} (h : rle L = rle M) : L = M := by rw [← lit_rle L, h, lit_rle]
theorem fold_psh (f : List Piece) : ∀ (L : List Int), (∀ p, p ∈ f → 1 ≤ p.Volume) → f.foldl psh (rle L) = rle (L ++ lit f) := by
 induction f with
 | nil => intro L _; simp [lit_nil]
 | cons p f ih =>
  intro L h
  have hp := h p (by simp)
  rw [List.foldl_cons, lit_cons, ← List.append_assoc, ← ih _ fun q hq => h q (by simp [hq])]
  congr 1
  rw [rle_rep _ _ _ (by omega)]
  congr 1
  obtain ⟨b, v⟩ := p
  dsimp only at hp ⊢
  simp; omega
theorem fold_can (f : List Piece) : ∀ (a : List Piece), Can (a ++ f) → f.foldl psh a = a ++ f := by
 induction f with
 | nil => intro a _; simp
 | cons p f ih =>
  intro a h
  have e : psh a p = a ++ [p] := by
   rcases snoc_cases a with rfl | ⟨c, q, rfl⟩
   ·rfl
   ·rw [psh_snoc, if_neg]
    exact h.ne c.length q p (by simp) (by simp)
  rw [List.foldl_cons, e, ih _ (by simpa using h)]; simp
theorem rle_lit {f : List Piece} (h : Can f) : rle (lit f) = f := by
 have h1 := fold_psh f [] h.pos
 rw [rle_nil, List.nil_append] at h1
 rw [← h1]; exact fold_can f [] (by simpa using h)
theorem Can.eq {f : List Piece} {L : List Int} (h : Can f) (hl : lit f = L) : f = rle L := by rw [← hl, rle_lit h]
theorem lit_rev (f : List Piece) : lit f.reverse = (lit f).reverse := by
 induction f with
 | nil => rfl
 | cons p f ih => rw [List.reverse_cons, lit_app, ih, lit_one, lit_cons, List.reverse_append, List.reverse_replicate]
theorem Can.rev {f : List Piece} (h : Can f) : Can f.reverse := by
 refine ⟨fun p hp => h.pos p (by simpa using hp), fun i p q hp hq => ?_⟩
 have h1 := (gs hq).1
 rw [List.length_reverse] at h1
 rw [List.getElem?_reverse (by omega)] at hp hq
 exact (h.ne (f.length - 1 - (i + 1)) q p hq (by rw [show f.length - 1 - (i + 1) + 1 = f.length - 1 - i by omega]; exact hp)).symm
theorem rle_rev (L : List Int) : (rle L).reverse = rle L.reverse := (rle_can L).rev.eq (by rw [lit_rev, lit_rle])
def vol (f : List Piece) : Int := (f.map (·.Volume)).sum
theorem vol_nil : vol [] = 0 := rfl
theorem vol_app (f g : List Piece) : vol (f ++ g) = vol f + vol g := by simp [vol]
theorem vol_cons (p : Piece) (f : List Piece) : vol (p :: f) = p.Volume + vol f := by simp [vol]
theorem lit_len {f : List Piece} (h : ∀ p, p ∈ f → 0 ≤ p.Volume) : ((lit f).length : Int) = vol f := by
 induction f with
 | nil => rfl
 | cons p f ih =>
  have := h p (by simp)
  rw [lit_cons, vol_cons, List.length_append, List.length_replicate, ← ih fun q hq => h q (by simp [hq])]; omega
theorem vol_pos {f : List Piece} (h : ∀ p, p ∈ f → 0 ≤ p.Volume) : 0 ≤ vol f := by rw [← lit_len h]; omega
theorem vol_rle (L : List Int) : vol (rle L) = (L.length : Int) := by
 rw [← lit_len fun p hp => by have := (rle_can L).pos p hp; omega, lit_rle]
theorem vol_mem {f : List Piece} (h : ∀ p, p ∈ f → 0 ≤ p.Volume) {p : Piece} (hp : p ∈ f) : p.Volume ≤ vol f := by
 obtain ⟨a, b, rfl⟩ := List.append_of_mem hp
 have h1 := vol_pos (f := a) fun q hq => h q (by simp [hq])
 have h2 := vol_pos (f := b) fun q hq => h q (by simp [hq])
 rw [vol_app, vol_cons]; omega
theorem lit_mem {f : List Piece} (h : ∀ p, p ∈ f → 1 ≤ p.Volume) {p : Piece} (hp : p ∈ f) : p.Batch ∈ lit f := by
 have := h p hp
 exact List.mem_flatMap.2 ⟨p, hp, by simp; omega⟩
theorem rle_batch {L : List Int} {p : Piece} (hp : p ∈ rle L) : p.Batch ∈ L := by
 have := lit_mem (rle_can L).pos hp
 rwa [lit_rle] at this
theorem len_vol {f : List Piece} (h : ∀ p, p ∈ f → 1 ≤ p.Volume) : (f.length : Int) ≤ vol f := by
 induction f with
 | nil => simp [vol_nil]
 | cons p f ih =>
  have := h p (by simp)
  have := ih fun q hq => h q (by simp [hq])
  rw [vol_cons, List.length_cons]; omega
theorem rle_len (L : List Int) : (rle L).length ≤ L.length := by
 have := len_vol (rle_can L).pos
 rw [vol_rle] at this; omega
theorem rle_eq_nil {L : List Int} : rle L = [] ↔ L = [] := ⟨fun h => by rw [← lit_rle L, h]; rfl, fun h => by rw [h]; rfl⟩
theorem vol_take_succ {f : List Piece} {k : Nat} {p : Piece} (h : f[k]? = some p) : vol (f.take (k + 1)) = vol (f.take k) + p.Volume := by
 rw [List.take_add_one, h, vol_app]; simp [vol]
def Bat (L : List Int) : Prop := ∀ b, b ∈ L → 0 ≤ b ∧ b < 1000
structure Vd (f : List Piece) : Prop where
 len : f.length ≤ 200
 can : Can f
 bat : Bat (lit f)
 vol : vol f ≤ 1000000
theorem Vd.nn {f : List Piece} (h : Vd f) : ∀ p, p ∈ f → 0 ≤ p.Volume := fun p hp => by have := h.can.pos p hp; omega
theorem Vd.of {L : List Int} (h1 : (rle L).length ≤ 200) (h2 : Bat L) (h3 : L.length ≤ 1000000) : Vd (rle L) :=
 ⟨h1, rle_can L, by rw [lit_rle]; exact h2, by rw [vol_rle]; omega⟩
theorem Vd.rev {f : List Piece} (h : Vd f) : Vd f.reverse :=
 ⟨by simpa using h.len, h.can.rev, by rw [lit_rev]; exact fun b hb => h.bat b (by simpa using hb), by have := h.vol; simpa [Go.Proofs.YtaliejncdnegeaaGreat.vol] using this⟩
structure PInv (l : List Point) (at_ : Int) : Prop where
 len : 1 ≤ l.length
 first : ∀ p, l[0]? = some p → p.At = 0
 last : ∀ p, l[l.length - 1]? = some p → p.At = at_
 up : ∀ i p q, l[i]? = some p → l[i + 1]? = some q → p.At < q.At
 height : ∀ p, p ∈ l → -500 ≤ p.Height ∧ p.Height ≤ 5000
 limit : ∀ p, p ∈ l → 0 ≤ p.Limit ∧ p.Limit ≤ 100000000
theorem PInv.append {l : List Point} {at_ : Int} (h : PInv l at_) {p : Point} (h1 : at_ < p.At) (h2 : -500 ≤ p.Height ∧ p.Height ≤ 5000) (h3 : 0 ≤ p.Limit ∧ p.Limit ≤ 100000000) : PInv (l ++ [p]) p.At := by
 have hl := h.len
 refine ⟨by simp, fun q hq => h.first q ?_, fun q hq => ?_, fun i a b ha hb => ?_, fun q hq => ?_, fun q hq => ?_⟩
 ·rw [List.getElem?_append_left (by omega)] at hq; exact hq
 ·rw [List.getElem?_append_right (by simp)] at hq; simp at hq; rw [hq]
 ·rw [List.getElem?_append] at ha hb
  split at hb
  ·rw [if_pos (by omega)] at ha; exact h.up i a b ha hb
  ·rename_i hi
   have hb' := (gs hb).1
   simp at hb'
   have : i + 1 = l.length := by omega
   rw [if_pos (by omega)] at ha
   have h4 := h.last a (by rw [show l.length - 1 = i by omega]; exact ha)
   simp [this] at hb
   rw [← hb]; omega
 ·rcases List.mem_append.1 hq with hq | hq
  ·exact h.height q hq
  ·simp at hq; subst hq; exact h2
 ·rcases List.mem_append.1 hq with hq | hq
  ·exact h.limit q hq
  ·simp at hq; subst hq; exact h3
theorem PInv.done {l : List Point} {at_ : Int} (h : PInv l at_) (h1 : 2 ≤ l.length ∧ l.length ≤ 8) : PointsOk at_ l := ⟨h1, h.first, h.last, h.up, h.height, h.limit⟩
theorem nat_of {n : Int} (h : 0 ≤ n) : ∃ k : Nat, n = (k : Int) := ⟨n.toNat, by omega⟩
theorem indexFunc_int_int {s : List Int} {g : Int → Option Bool} {P : Int → Bool} (hg : ∀ (k : Nat) (x : Int), s[k]? = some x → g x = some (P x)) :
  Ok (L.zapw s g) fun r => (r = -1 ∧ ∀ (j : Nat) (y : Int), s[j]? = some y → P y = false) ∨ ∃ (k : Nat) (x : Int), r = (k : Int) ∧ s[k]? = some x ∧ P x = true ∧ ∀ (j : Nat) (y : Int), j < k → s[j]? = some y → P y = false := by
 unfold L.zapw
 refine .bind' (.forL (fun k _ => ∀ (j : Nat) (y : Int), j < k → s[j]? = some y → P y = false) (fun r => ∃ (k : Nat) (x : Int), r = (k : Int) ∧ s[k]? = some x ∧ P x = true ∧ ∀ (j : Nat) (y : Int), j < k → s[j]? = some y → P y = false) (fun j y h => absurd h (Nat.not_lt_zero _)) ?_ ?_ ?_)
 ·intro k x _ hx hi
  unfold L.zapw.B2
  refine .bind' (.eq (hg k x hx) (Ok.iteB (fun hp => .pure ⟨k, x, rfl, hx, hp, hi⟩) fun hp => .pure fun j y hj hy => ?_))
  by_cases h : j < k
  ·exact hi j y h hy
  ·have : j = k := by omega
   subst this
   rw [hx] at hy; simp at hy; subst hy; exact hp
 ·intro _ hi
  simp only [Sum.elim_inl]
  unfold L.zapw.J1
  exact .pure (.inl ⟨rfl, fun j y hy => hi j y (gs hy).1 hy⟩)
 ·intro b hb
  exact .pure (.inr hb)
theorem containsFunc_int_int {s : List Int} {g : Int → Option Bool} {P : Int → Bool} (hg : ∀ (k : Nat) (x : Int), s[k]? = some x → g x = some (P x)) :
  L.zvoj s g = some (s.any P) := by
 have : Ok (L.zvoj s g) fun r => r = s.any P := by
  unfold L.zvoj
  refine .bind (indexFunc_int_int hg) fun r hr => .pure ?_
  rcases hr with ⟨rfl, h⟩ | ⟨k, x, rfl, hx, hp, _⟩
  ·have : s.any P = false := by
    rw [List.any_eq_false]
    intro x hx
    obtain ⟨j, hj⟩ := List.getElem?_of_mem hx
    rw [h j x hj]; simp
   rw [this]; rfl
  ·have : s.any P = true := List.any_eq_true.2 ⟨x, mg hx, hp⟩
   rw [this]; simp
 obtain ⟨r, h, rfl⟩ := this
 exact h
theorem indexFunc_string_string {s : List ByteArray} {g : ByteArray → Option Bool} {P : ByteArray → Bool} (hg : ∀ (k : Nat) (x : ByteArray), s[k]? = some x → g x = some (P x)) :
  Ok (L.zqyu s g) fun r => (r = -1 ∧ ∀ (j : Nat) (y : ByteArray), s[j]? = some y → P y = false) ∨ ∃ (k : Nat) (x : ByteArray), r = (k : Int) ∧ s[k]? = some x ∧ P x = true ∧ ∀ (j : Nat) (y : ByteArray), j < k → s[j]? = some y → P y = false := by
 unfold L.zqyu
 refine .bind' (.forL (fun k _ => ∀ (j : Nat) (y : ByteArray), j < k → s[j]? = some y → P y = false) (fun r => ∃ (k : Nat) (x : ByteArray), r = (k : Int) ∧ s[k]? = some x ∧ P x = true ∧ ∀ (j : Nat) (y : ByteArray), j < k → s[j]? = some y → P y = false) (fun j y h => absurd h (Nat.not_lt_zero _)) ?_ ?_ ?_)
 ·intro k x _ hx hi
  unfold L.zqyu.B2
  refine .bind' (.eq (hg k x hx) (Ok.iteB (fun hp => .pure ⟨k, x, rfl, hx, hp, hi⟩) fun hp => .pure fun j y hj hy => ?_))
  by_cases h : j < k
  ·exact hi j y h hy
  ·have : j = k := by omega
   subst this
   rw [hx] at hy; simp at hy; subst hy; exact hp
 ·intro _ hi
  simp only [Sum.elim_inl]
  unfold L.zqyu.J1
  exact .pure (.inl ⟨rfl, fun j y hy => hi j y (gs hy).1 hy⟩)
 ·intro b hb
  exact .pure (.inr hb)
theorem containsFunc_string_string {s : List ByteArray} {g : ByteArray → Option Bool} {P : ByteArray → Bool} (hg : ∀ (k : Nat) (x : ByteArray), s[k]? = some x → g x = some (P x)) :
  L.zmkj s g = some (s.any P) := by
 have : Ok (L.zmkj s g) fun r => r = s.any P := by
  unfold L.zmkj
  refine .bind (indexFunc_string_string hg) fun r hr => .pure ?_
  rcases hr with ⟨rfl, h⟩ | ⟨k, x, rfl, hx, hp, _⟩
  ·have : s.any P = false := by
    rw [List.any_eq_false]
    intro x hx
    obtain ⟨j, hj⟩ := List.getElem?_of_mem hx
    rw [h j x hj]; simp
   rw [this]; rfl
  ·have : s.any P = true := List.any_eq_true.2 ⟨x, mg hx, hp⟩
   rw [this]; simp
 obtain ⟨r, h, rfl⟩ := this
 exact h
theorem indexFunc_api_Segment_api_Segment {s : List Segment} {g : Segment → Option Bool} {P : Segment → Bool} (hg : ∀ (k : Nat) (x : Segment), s[k]? = some x → g x = some (P x)) :
  Ok (L.zbuy s g) fun r => (r = -1 ∧ ∀ (j : Nat) (y : Segment), s[j]? = some y → P y = false) ∨ ∃ (k : Nat) (x : Segment), r = (k : Int) ∧ s[k]? = some x ∧ P x = true ∧ ∀ (j : Nat) (y : Segment), j < k → s[j]? = some y → P y = false := by
 unfold L.zbuy
 refine .bind' (.forL (fun k _ => ∀ (j : Nat) (y : Segment), j < k → s[j]? = some y → P y = false) (fun r => ∃ (k : Nat) (x : Segment), r = (k : Int) ∧ s[k]? = some x ∧ P x = true ∧ ∀ (j : Nat) (y : Segment), j < k → s[j]? = some y → P y = false) (fun j y h => absurd h (Nat.not_lt_zero _)) ?_ ?_ ?_)
 ·intro k x _ hx hi
  unfold L.zbuy.B2
  refine .bind' (.eq (hg k x hx) (Ok.iteB (fun hp => .pure ⟨k, x, rfl, hx, hp, hi⟩) fun hp => .pure fun j y hj hy => ?_))
  by_cases h : j < k
  ·exact hi j y h hy
  ·have : j = k := by omega
   subst this
   rw [hx] at hy; simp at hy; subst hy; exact hp
 ·intro _ hi
  simp only [Sum.elim_inl]
  unfold L.zbuy.J1
  exact .pure (.inl ⟨rfl, fun j y hy => hi j y (gs hy).1 hy⟩)
 ·intro b hb
  exact .pure (.inr hb)
theorem containsFunc_api_Segment_api_Segment {s : List Segment} {g : Segment → Option Bool} {P : Segment → Bool} (hg : ∀ (k : Nat) (x : Segment), s[k]? = some x → g x = some (P x)) :
  L.zwuu s g = some (s.any P) := by
 have : Ok (L.zwuu s g) fun r => r = s.any P := by
  unfold L.zwuu
  refine .bind (indexFunc_api_Segment_api_Segment hg) fun r hr => .pure ?_
  rcases hr with ⟨rfl, h⟩ | ⟨k, x, rfl, hx, hp, _⟩
  ·have : s.any P = false := by
    rw [List.any_eq_false]
    intro x hx
    obtain ⟨j, hj⟩ := List.getElem?_of_mem hx
    rw [h j x hj]; simp
   rw [this]; rfl
  ·have : s.any P = true := List.any_eq_true.2 ⟨x, mg hx, hp⟩
   rw [this]; simp
 obtain ⟨r, h, rfl⟩ := this
 exact h
theorem indexFunc_api_Port_api_Port {s : List Port} {g : Port → Option Bool} {P : Port → Bool} (hg : ∀ (k : Nat) (x : Port), s[k]? = some x → g x = some (P x)) :
  Ok (L.zobp s g) fun r => (r = -1 ∧ ∀ (j : Nat) (y : Port), s[j]? = some y → P y = false) ∨ ∃ (k : Nat) (x : Port), r = (k : Int) ∧ s[k]? = some x ∧ P x = true ∧ ∀ (j : Nat) (y : Port), j < k → s[j]? = some y → P y = false := by
 unfold L.zobp
 refine .bind' (.forL (fun k _ => ∀ (j : Nat) (y : Port), j < k → s[j]? = some y → P y = false) (fun r => ∃ (k : Nat) (x : Port), r = (k : Int) ∧ s[k]? = some x ∧ P x = true ∧ ∀ (j : Nat) (y : Port), j < k → s[j]? = some y → P y = false) (fun j y h => absurd h (Nat.not_lt_zero _)) ?_ ?_ ?_)
 ·intro k x _ hx hi
  unfold L.zobp.B2
  refine .bind' (.eq (hg k x hx) (Ok.iteB (fun hp => .pure ⟨k, x, rfl, hx, hp, hi⟩) fun hp => .pure fun j y hj hy => ?_))
  by_cases h : j < k
  ·exact hi j y h hy
  ·have : j = k := by omega
   subst this
   rw [hx] at hy; simp at hy; subst hy; exact hp
 ·intro _ hi
  simp only [Sum.elim_inl]
  unfold L.zobp.J1
  exact .pure (.inl ⟨rfl, fun j y hy => hi j y (gs hy).1 hy⟩)
 ·intro b hb
  exact .pure (.inr hb)
theorem containsFunc_api_Port_api_Port {s : List Port} {g : Port → Option Bool} {P : Port → Bool} (hg : ∀ (k : Nat) (x : Port), s[k]? = some x → g x = some (P x)) :
  L.zdru s g = some (s.any P) := by
 have : Ok (L.zdru s g) fun r => r = s.any P := by
  unfold L.zdru
  refine .bind (indexFunc_api_Port_api_Port hg) fun r hr => .pure ?_
  rcases hr with ⟨rfl, h⟩ | ⟨k, x, rfl, hx, hp, _⟩
  ·have : s.any P = false := by
    rw [List.any_eq_false]
    intro x hx
    obtain ⟨j, hj⟩ := List.getElem?_of_mem hx
    rw [h j x hj]; simp
   rw [this]; rfl
  ·have : s.any P = true := List.any_eq_true.2 ⟨x, mg hx, hp⟩
   rw [this]; simp
 obtain ⟨r, h, rfl⟩ := this
 exact h
theorem indexFunc_api_Station_api_Station {s : List Station} {g : Station → Option Bool} {P : Station → Bool} (hg : ∀ (k : Nat) (x : Station), s[k]? = some x → g x = some (P x)) :
  Ok (L.zywf s g) fun r => (r = -1 ∧ ∀ (j : Nat) (y : Station), s[j]? = some y → P y = false) ∨ ∃ (k : Nat) (x : Station), r = (k : Int) ∧ s[k]? = some x ∧ P x = true ∧ ∀ (j : Nat) (y : Station), j < k → s[j]? = some y → P y = false := by
 unfold L.zywf
 refine .bind' (.forL (fun k _ => ∀ (j : Nat) (y : Station), j < k → s[j]? = some y → P y = false) (fun r => ∃ (k : Nat) (x : Station), r = (k : Int) ∧ s[k]? = some x ∧ P x = true ∧ ∀ (j : Nat) (y : Station), j < k → s[j]? = some y → P y = false) (fun j y h => absurd h (Nat.not_lt_zero _)) ?_ ?_ ?_)
 ·intro k x _ hx hi
  unfold L.zywf.B2
  refine .bind' (.eq (hg k x hx) (Ok.iteB (fun hp => .pure ⟨k, x, rfl, hx, hp, hi⟩) fun hp => .pure fun j y hj hy => ?_))
  by_cases h : j < k
  ·exact hi j y h hy
  ·have : j = k := by omega
   subst this
   rw [hx] at hy; simp at hy; subst hy; exact hp
 ·intro _ hi
  simp only [Sum.elim_inl]
  unfold L.zywf.J1
  exact .pure (.inl ⟨rfl, fun j y hy => hi j y (gs hy).1 hy⟩)
 ·intro b hb
  exact .pure (.inr hb)
theorem containsFunc_api_Station_api_Station {s : List Station} {g : Station → Option Bool} {P : Station → Bool} (hg : ∀ (k : Nat) (x : Station), s[k]? = some x → g x = some (P x)) :
  L.ztlc s g = some (s.any P) := by
 have : Ok (L.ztlc s g) fun r => r = s.any P := by
  unfold L.ztlc
  refine .bind (indexFunc_api_Station_api_Station hg) fun r hr => .pure ?_
  rcases hr with ⟨rfl, h⟩ | ⟨k, x, rfl, hx, hp, _⟩
  ·have : s.any P = false := by
    rw [List.any_eq_false]
    intro x hx
    obtain ⟨j, hj⟩ := List.getElem?_of_mem hx
    rw [h j x hj]; simp
   rw [this]; rfl
  ·have : s.any P = true := List.any_eq_true.2 ⟨x, mg hx, hp⟩
   rw [this]; simp
 obtain ⟨r, h, rfl⟩ := this
 exact h
theorem index_string_string {s : List ByteArray} {v : ByteArray} :
  Ok (L.zsbv s v) fun r => (r = -1 ∧ ∀ (j : Nat) (y : ByteArray), s[j]? = some y → (sEq v y) = false) ∨ ∃ (k : Nat) (y : ByteArray), r = (k : Int) ∧ s[k]? = some y ∧ (sEq v y) = true ∧ ∀ (j : Nat) (y : ByteArray), j < k → s[j]? = some y → (sEq v y) = false := by
 unfold L.zsbv
 refine .bind' (.forL (fun k _ => ∀ (j : Nat) (y : ByteArray), j < k → s[j]? = some y → (sEq v y) = false) (fun r => ∃ (k : Nat) (y : ByteArray), r = (k : Int) ∧ s[k]? = some y ∧ (sEq v y) = true ∧ ∀ (j : Nat) (y : ByteArray), j < k → s[j]? = some y → (sEq v y) = false) (fun j y h => absurd h (Nat.not_lt_zero _)) ?_ ?_ ?_)
 ·intro k x _ hx hi
  unfold L.zsbv.B2
  refine Ok.iteB (fun hp => .pure ⟨k, x, rfl, hx, hp, hi⟩) fun hp => .pure fun j y hj hy => ?_
  by_cases h : j < k
  ·exact hi j y h hy
  ·have : j = k := by omega
   subst this
   rw [hx] at hy; simp at hy; subst hy; exact hp
 ·intro _ hi
  simp only [Sum.elim_inl]
  unfold L.zsbv.J1
  exact .pure (.inl ⟨rfl, fun j y hy => hi j y (gs hy).1 hy⟩)
 ·intro b hb
  exact .pure (.inr hb)
theorem maps_ok {α β : Type} {l : List α} {g : α → β} {f : Nat → α → List β → Option (List β)} (hf : ∀ k x st, f k x st = (app? st [g x]).bind fun y => some y) (hl : l.length ≤ 1000) :
  Ok (forS f 0 l []) fun r => r = l.map g := by
 refine .forS (fun k st => st = (l.take k).map g) (by simp) ?_ fun st h => by rw [h]; simp
 rintro k x st hx rfl
 rw [hf]
 have hk := (gs hx).1
 refine .bind' (.app (by simp; omega) (.pure ?_))
 rw [List.take_add_one, hx]
 simp
theorem names_ok {n : Network} (h1 : n.Segments.length ≤ 1000) (h2 : n.Ports.length ≤ 1000) (h3 : n.Stations.length ≤ 1000) :
  Ok (L.zalp n) fun r => r.l = [n.Nodes, n.Segments.map (·.Name), n.Ports.map (·.Name), n.Stations.map (·.Name)] := by
 unfold L.zalp
 refine .bind (maps_ok (g := (·.Name)) (fun _ _ _ => rfl) h1) ?_
 rintro _ rfl
 unfold L.zalp.J1
 refine .bind (maps_ok (g := (·.Name)) (fun _ _ _ => rfl) h2) ?_
 rintro _ rfl
 unfold L.zalp.J2
 refine .bind (maps_ok (g := (·.Name)) (fun _ _ _ => rfl) h3) ?_
 rintro _ rfl
 unfold L.zalp.J3
 exact .pure rfl
def Named (c : UInt8) (l : List ByteArray) : Prop := l.length ≤ 26 ∧ ∀ (k : Nat) (x : ByteArray), l[k]? = some x → x = nm c k
theorem NetOk.named {n : Network} (h : NetOk n) : ∀ l, l ∈ [n.Nodes, n.Segments.map (·.Name), n.Ports.map (·.Name), n.Stations.map (·.Name)] → ∃ c, (c = 110 ∨ c = 103 ∨ c = 113 ∨ c = 115) ∧ Named c l := by
 have h1 := h.nodes; have h2 := h.segs1; have h3 := h.ports1; have h4 := h.sts1
 intro l hl
 simp only [List.mem_cons, List.not_mem_nil, or_false] at hl
 rcases hl with rfl | rfl | rfl | rfl
 ·exact ⟨110, by simp, by omega, h.names⟩
 ·refine ⟨103, by simp, by simp; omega, fun k x hx => ?_⟩
  rw [List.getElem?_map] at hx
  obtain ⟨s, hs, rfl⟩ := Option.map_eq_some_iff.1 hx
  exact (h.segs k s hs).name
 ·refine ⟨113, by simp, by simp; omega, fun k x hx => ?_⟩
  rw [List.getElem?_map] at hx
  obtain ⟨s, hs, rfl⟩ := Option.map_eq_some_iff.1 hx
  exact (h.ports k s hs).name
 ·refine ⟨115, by simp, by simp; omega, fun k x hx => ?_⟩
  rw [List.getElem?_map] at hx
  obtain ⟨s, hs, rfl⟩ := Option.map_eq_some_iff.1 hx
  exact (h.sts k s hs).name
theorem lt26 {k : Nat} (h : k < 26) : k = 0 ∨ k = 1 ∨ k = 2 ∨ k = 3 ∨ k = 4 ∨ k = 5 ∨ k = 6 ∨ k = 7 ∨ k = 8 ∨ k = 9 ∨ k = 10 ∨ k = 11 ∨ k = 12 ∨ k = 13 ∨ k = 14 ∨ k = 15 ∨ k = 16 ∨ k = 17 ∨ k = 18 ∨ k = 19 ∨ k = 20 ∨ k = 21 ∨ k = 22 ∨ k = 23 ∨ k = 24 ∨ k = 25 := by omega
theorem nameOk {c : UInt8} (hc : c = 110 ∨ c = 103 ∨ c = 113 ∨ c = 115) {k : Nat} (hk : k < 26) : L.zcvq (nm c k) = some true := by
 rcases hc with rfl | rfl | rfl | rfl <;>
  rcases lt26 hk with rfl | rfl | rfl | rfl | rfl | rfl | rfl | rfl | rfl | rfl | rfl | rfl | rfl | rfl | rfl | rfl | rfl | rfl | rfl | rfl | rfl | rfl | rfl | rfl | rfl | rfl <;> rfl
theorem nm_inj {c : UInt8} {i j : Nat} (hi : i < 26) (hj : j < 26) (h : sEq (nm c i) (nm c j) = true) : i = j := by
 have h1 : (nm c i).toList = (nm c j).toList := by simpa [sEq] using h
 have h2 : [c, 97 + UInt8.ofNat i] = [c, 97 + UInt8.ofNat j] := by simpa [nm, ByteArray.toList, ByteArray.toList.loop, ByteArray.size, ByteArray.get!] using h1
 simp only [List.cons.injEq, and_true, true_and] at h2
 have h3 := congrArg UInt8.toNat h2
 simp only [UInt8.toNat_add, UInt8.toNat_ofNat'] at h3
 have : (97 : UInt8).toNat = 97 := rfl
 rw [this] at h3
 omega
theorem sEq_refl (a : ByteArray) : sEq a a = true := by simp [sEq]
def Nmd (l : List ByteArray) : Prop := l.length ≤ 26 ∧ (∀ (k : Nat) (x : ByteArray), l[k]? = some x → L.zcvq x = some true) ∧ ∀ (i j : Nat) (x y : ByteArray), l[i]? = some x → l[j]? = some y → sEq x y = true → i = j
theorem Named.nmd {c : UInt8} (hc : c = 110 ∨ c = 103 ∨ c = 113 ∨ c = 115) {l : List ByteArray} (h : Named c l) : Nmd l := by
 obtain ⟨h1, h2⟩ := h
 refine ⟨h1, fun k x hk => ?_, fun i j x y hi hj he => ?_⟩
 ·have := (gs hk).1
  rw [h2 k x hk]; exact nameOk hc (by omega)
 ·have hi' := (gs hi).1
  have hj' := (gs hj).1
  have hx := h2 i x hi; have hy := h2 j y hj
  subst hx; subst hy
  exact nm_inj (by omega) (by omega) he
theorem twice_names {l : List ByteArray} (h : Nmd l) {k : Nat} {x : ByteArray} (hk : l[k]? = some x) : Ok (L.zsbv l x) fun r => r = (k : Int) := by
 obtain ⟨h1, _, h2⟩ := h
 refine index_string_string.mono ?_
 rintro r (⟨rfl, h⟩ | ⟨j, y, rfl, hj, he, hlt⟩)
 ·have := h k x hk
  rw [sEq_refl] at this; cases this
 ·have := h2 k j x y hk hj he
  omega
structure SegB (nodes : Nat) (s : Segment) : Prop where
 ends : 0 ≤ s.From ∧ s.From < (nodes : Int) ∧ 0 ≤ s.To ∧ s.To < (nodes : Int) ∧ s.From ≠ s.To
 cap : 1 ≤ s.Capacity ∧ s.Capacity ≤ 1000
 resist : 0 ≤ s.Resist ∧ s.Resist ≤ 1000
 wave : 0 ≤ s.Wave ∧ s.Wave ≤ 100000
 points : PointsOk s.Capacity s.Points
theorem SegOk.b {nodes k : Nat} {s : Segment} (h : SegOk nodes k s) : SegB nodes s := ⟨h.ends, h.cap, h.resist, h.wave, h.points⟩
theorem pipe_ok {nodes : Nat} {s : Segment} (h : SegB nodes s) : L.zcxq s = some true := by
 have : Ok (L.zcxq s) fun r => r = true := by
  have hp := h.points
  have h1 := h.ends; have h2 := h.cap; have h3 := h.resist; have h4 := h.wave; have h5 := hp.len
  unfold L.zcxq
  refine Ok.iteB (fun hb => ?_) fun _ => ?_
  ·simp [L.zvhs] at hb
   omega
  refine .bind' (.forL (fun _ _ => True) (fun _ => False) trivial ?_ ?_ fun _ h => h.elim)
  ·intro i p _ hi _
   have hm := mg hi
   have g1 := hp.height p hm; have g2 := hp.limit p hm
   unfold L.zcxq.B3
   refine Ok.iteB (fun hb => ?_) fun _ => Ok.iteB (fun hb => ?_) fun _ => Ok.iteD (fun h0 => ?_) fun h0 => ?_
   ·simp [L.zvhs] at hb; omega
   ·simp [L.zvhs] at hb; omega
   ·rw [wr_id (by have := (gs hi).1; omega)]
    obtain ⟨j, rfl⟩ : ∃ j, i = j + 1 := ⟨i - 1, by omega⟩
    have hjl : j < s.Points.length := by have := (gs hi).1; omega
    have hj : s.Points[j]? = some s.Points[j] := gq hjl
    have hup := hp.up j _ p hj hi
    refine .bind' (.ix j (by omega) hjl ?_)
    unfold L.zcxq.J4
    refine Ok.iteD (fun h => ?_) fun _ => .pure trivial
    dsimp only at h; omega
   ·unfold L.zcxq.J4
    exact .pure trivial
  ·intro _ _
   simp only [Sum.elim_inl]
   unfold L.zcxq.J1 L.zcxq.J2
   have e0 : s.Points[0]? = some s.Points[0] := gq (by omega)
   have el : s.Points[s.Points.length - 1]? = some s.Points[s.Points.length - 1] := gq (by omega)
   refine .bind' (.ix 0 rfl (by omega) (Ok.iteB (fun _ => ?_) fun hb => ?_))
   ·rw [wr_id (by omega)]
    refine .bind' (.ix (s.Points.length - 1) (by omega) (by omega) (.pure ?_))
    have := hp.last _ el
    dsimp only
    rw [this]; simp
   ·have := hp.first _ e0
    dsimp only at hb
    rw [this] at hb
    cases hb
 obtain ⟨r, h, rfl⟩ := this
 exact h
theorem any_false {α : Type} {l : List α} {P : α → Bool} (h : ∀ (k : Nat) (x : α), l[k]? = some x → P x = false) : l.any P = false := by
 rw [List.any_eq_false]
 intro x hx
 obtain ⟨j, hj⟩ := List.getElem?_of_mem hx
 rw [h j x hj]; simp
structure NetV (n : Network) : Prop where
 nodes : 1 ≤ n.Nodes.length ∧ n.Nodes.length ≤ 6
 segs1 : n.Segments.length ≤ 8
 segs : ∀ (k : Nat) (s : Segment), n.Segments[k]? = some s → ∃ j, SegOk n.Nodes.length j s
 ports1 : n.Ports.length ≤ 6
 ports : ∀ k s, n.Ports[k]? = some s → PortOk n.Nodes.length k s
 sts1 : n.Stations.length ≤ 6
 sts : ∀ k s, n.Stations[k]? = some s → StOk n.Nodes.length k s
 stsUp : ∀ (i j : Nat) (p q : Station), i < j → n.Stations[i]? = some p → n.Stations[j]? = some q → p.Node < q.Node
 vapour : -100000 ≤ n.Vapour ∧ n.Vapour ≤ 50000
 settle : 0 ≤ n.Settle ∧ n.Settle ≤ 100
 named : ∀ l, l ∈ [n.Nodes, n.Segments.map (·.Name), n.Ports.map (·.Name), n.Stations.map (·.Name)] → Nmd l
theorem NetOk.v {n : Network} (h : NetOk n) : NetV n :=
 ⟨by have := h.nodes; omega, h.segs1.2, fun k s hs => ⟨k, h.segs k s hs⟩, h.ports1.2, h.ports, h.sts1, h.sts, h.stsUp, h.vapour, h.settle, fun l hl => let ⟨_, hc, hn⟩ := h.named l hl; hn.nmd hc⟩
structure NetW (n : Network) : Prop where
 nodes : 1 ≤ n.Nodes.length ∧ n.Nodes.length ≤ 6
 segs1 : n.Segments.length ≤ 8
 segs : ∀ (k : Nat) (s : Segment), n.Segments[k]? = some s → SegB n.Nodes.length s
 ports1 : n.Ports.length ≤ 6
 ports : ∀ (k : Nat) s, n.Ports[k]? = some s → (0 ≤ s.Node ∧ s.Node < (n.Nodes.length : Int)) ∧ 0 ≤ s.Pressure ∧ s.Pressure ≤ 100000000
 sts1 : n.Stations.length ≤ 6
 sts : ∀ k s, n.Stations[k]? = some s → StOk n.Nodes.length k s
 stsUp : ∀ (i j : Nat) (p q : Station), i < j → n.Stations[i]? = some p → n.Stations[j]? = some q → p.Node < q.Node
 vapour : -100000 ≤ n.Vapour ∧ n.Vapour ≤ 50000
 settle : 0 ≤ n.Settle ∧ n.Settle ≤ 100
 named : ∀ l, l ∈ [n.Nodes, n.Segments.map (·.Name), n.Ports.map (·.Name), n.Stations.map (·.Name)] → Nmd l
theorem NetV.w {n : Network} (h : NetV n) : NetW n :=
 ⟨h.nodes, h.segs1, fun k s hs => (h.segs k s hs).choose_spec.b, h.ports1, fun k s hs => ⟨(h.ports k s hs).node, (h.ports k s hs).pressure⟩, h.sts1, h.sts, h.stsUp, h.vapour, h.settle, h.named⟩
theorem netCheckW {n : Network} (h : NetW n) : L.zfta n = some 0 := by
 have : Ok (L.zfta n) fun r => r = 0 := by
  have h1 := h.nodes; have h2 := h.segs1; have h3 := h.ports1; have h4 := h.sts1; have h5 := h.vapour; have h6 := h.settle
  unfold L.zfta
  refine .bind (Q := fun r => r = true) ?_ ?_
  ·unfold L.znhd
   refine Ok.iteB (fun hb => ?_) fun _ => .bind' (.eq (containsFunc_api_Segment_api_Segment (P := fun x => L.zzec x) fun _ _ _ => rfl) (.pure ?_))
   ·simp at hb; omega
   ·rw [any_false]; rfl
    intro k x hx
    have := (h.segs k x hx).points.len
    simp [L.zzec]; omega
  rintro _ rfl
  refine Ok.iteN (fun hb => by cases hb) fun _ => ?_
  refine .bind (names_ok (by omega) (by omega) (by omega)) fun r45 hr => ?_
  refine .bind' (.forI (fun _ _ => True) (fun _ => False) trivial ?_ ?_ fun _ h => h.elim)
  ·intro k _ hk _
   unfold L.zfta.B2
   refine .bind' (.ix k rfl (by rw [hr]; exact hk) ?_)
   have hkl : k < r45.l.length := by rw [hr]; exact hk
   have hl := h.named r45.l[k] (by rw [← hr]; exact List.getElem_mem _)
   refine .bind' (.eq (containsFunc_string_string (P := fun _ => false) fun j x hx => ?_) ?_)
   ·unfold L.zqbg
    rw [hl.2.1 j x hx]; rfl
   ·rw [any_false fun _ _ _ => rfl]
    exact .pure trivial
  ·intro _ _
   simp only [Sum.elim_inl]
   unfold L.zfta.J1
   refine .bind (Q := fun r => r = false) ?_ ?_
   ·unfold L.zybm
    refine .bind (names_ok (by omega) (by omega) (by omega)) fun r45 hr => ?_
    refine .bind' (.forI (fun _ _ => True) (fun _ => False) trivial ?_ ?_ fun _ h => h.elim)
    ·intro k _ hk _
     unfold L.zybm.B4
     refine .bind' (.ix k rfl (by rw [hr]; exact hk) ?_)
     have hkl : k < r45.l.length := by rw [hr]; exact hk
     have hl := h.named r45.l[k] (by rw [← hr]; exact List.getElem_mem _)
     refine .bind' (.forL (fun _ _ => True) (fun _ => False) trivial ?_ ?_ fun _ h => h.elim)
     ·intro j x _ hj _
      unfold L.zybm.B6
      refine .bind (twice_names hl hj) ?_
      rintro _ rfl
      refine Ok.iteD (fun h => by omega) fun _ => .pure trivial
     ·intro _ _
      exact .pure trivial
    ·intro _ _
     simp only [Sum.elim_inl]
     unfold L.zybm.J1
     refine .bind' (.forL (fun _ _ => True) (fun _ => False) trivial ?_ ?_ fun _ h => h.elim)
     ·intro j x _ hj _
      unfold L.zybm.B3
      refine .bind (Q := fun r => r = (j : Int)) ((indexFunc_api_Station_api_Station (P := fun y => L.zsgv y x) fun _ _ _ => rfl).mono ?_) ?_
      ·rintro r (⟨rfl, hh⟩ | ⟨k, y, rfl, hk, he, hlt⟩)
       ·have := hh j x hj
        simp [L.zsgv] at this
       ·simp [L.zsgv] at he
        by_cases hkj : k = j
        ·omega
        ·rcases Nat.lt_or_gt_of_ne hkj with hlt2 | hlt2
         ·have := h.stsUp k j y x hlt2 hk hj; omega
         ·have := h.stsUp j k x y hlt2 hj hk; omega
      ·rintro _ rfl
       refine Ok.iteD (fun h => by omega) fun _ => .pure trivial
     ·intro _ _
      exact .pure rfl
   rintro _ rfl
   refine Ok.iteB (fun h => by cases h) fun _ => ?_
   refine .bind (Q := fun r => r = true) ?_ ?_
   ·unfold L.zctd
    let good : List Int → Prop := fun l => ∀ x, x ∈ l → 0 ≤ x ∧ x < (n.Nodes.length : Int)
    have app : ∀ {l m : List Int}, good l → good m → good (l ++ m) := fun h1 h2 x hx => by
     rcases List.mem_append.1 hx with hx | hx
     ·exact h1 x hx
     ·exact h2 x hx
    refine .bind (Q := fun l => l.length ≤ 100 ∧ good l) (.forS (fun k l => l.length ≤ 2 * k ∧ good l) ⟨by simp, by intro x hx; cases hx⟩ ?_ fun l hl => ⟨by omega, hl.2⟩) ?_
    ·rintro k s l hs ⟨l1, l2⟩
     have hkl := (gs hs).1
     have he := (h.segs k s hs).ends
     unfold L.zctd.B6
     refine .bind' (.app (by simp; omega) (.pure ⟨by simp; omega, app l2 ?_⟩))
     intro x hx
     simp at hx
     rcases hx with rfl | rfl <;> omega
    rintro l ⟨l1, l2⟩
    unfold L.zctd.J1
    refine .bind (Q := fun l => l.length ≤ 200 ∧ good l) (.forS (fun k l => l.length ≤ 100 + k ∧ good l) ⟨by omega, l2⟩ ?_ fun l hl => ⟨by omega, hl.2⟩) ?_
    ·rintro k s l hs ⟨l1, l2⟩
     have hkl := (gs hs).1
     have he := (h.ports k s hs).1
     unfold L.zctd.B5
     refine .bind' (.app (by simp; omega) (.pure ⟨by simp; omega, app l2 ?_⟩))
     intro x hx
     simp at hx; subst hx; omega
    rintro l ⟨l1, l2⟩
    unfold L.zctd.J2
    refine .bind (Q := fun l => l.length ≤ 300 ∧ good l) (.forS (fun k l => l.length ≤ 200 + k ∧ good l) ⟨by omega, l2⟩ ?_ fun l hl => ⟨by omega, hl.2⟩) ?_
    ·rintro k s l hs ⟨l1, l2⟩
     have hkl := (gs hs).1
     have he := (h.sts k s hs).node
     unfold L.zctd.B4
     refine .bind' (.app (by simp; omega) (.pure ⟨by simp; omega, app l2 ?_⟩))
     intro x hx
     simp at hx; subst hx; omega
    rintro l ⟨l1, l2⟩
    unfold L.zctd.J3
    refine .bind' (.eq (containsFunc_int_int (P := fun x => L.zxqi x n) fun _ _ _ => rfl) (.pure ?_))
    rw [any_false]; rfl
    intro k x hx
    have := l2 x (mg hx)
    simp [L.zxqi]; omega
   rintro _ rfl
   refine Ok.iteN (fun h => by cases h) fun _ => ?_
   refine .bind (Q := fun r => r = true) ?_ ?_
   ·unfold L.zdqn
    refine .bind' (.eq (containsFunc_api_Segment_api_Segment (P := fun _ => false) fun k x hx => by unfold L.zyto; rw [pipe_ok (h.segs k x hx)]; rfl) ?_)
    rw [any_false fun _ _ _ => rfl]
    refine Ok.iteB (fun h => by cases h) fun _ => ?_
    refine .bind' (.eq (containsFunc_api_Port_api_Port (P := fun x => L.zxcm x) fun _ _ _ => rfl) ?_)
    rw [any_false]
    ·refine Ok.iteB (fun h => by cases h) fun _ => ?_
     refine .bind' (.eq (containsFunc_api_Station_api_Station (P := fun x => L.zeku x) fun _ _ _ => rfl) ?_)
     rw [any_false]
     ·refine Ok.iteB (fun h => by cases h) fun _ => .pure ?_
      simp [L.zvhs]; omega
     ·intro k x hx
      have h1 := (h.sts k x hx).head; have h2 := (h.sts k x hx).fall; have h3 := (h.sts k x hx).suction
      simp [L.zeku, L.zvhs]; omega
    ·intro k x hx
     have h1 := (h.ports k x hx).2
     simp [L.zxcm, L.zvhs]; omega
   rintro _ rfl
   exact Ok.iteN (fun h => by cases h) fun _ => .pure rfl
 obtain ⟨r, h, rfl⟩ := this
 exact h
theorem netCheckV {n : Network} (h : NetV n) : L.zfta n = some 0 := netCheckW h.w
theorem netCheck {n : Network} (h : NetOk n) : L.zfta n = some 0 := netCheckV h.v
structure NetG (n : Network) : Prop where
 nodes : 1 ≤ n.Nodes.length ∧ n.Nodes.length ≤ 6
 segs1 : n.Nodes.length - 1 ≤ n.Segments.length ∧ n.Segments.length ≤ 8
 segs : ∀ (k : Nat) (s : Segment), n.Segments[k]? = some s → SegB n.Nodes.length s
 ports1 : 2 ≤ n.Ports.length ∧ n.Ports.length ≤ 6
 ports : ∀ (k : Nat) s, n.Ports[k]? = some s → 0 ≤ s.Node ∧ s.Node < (n.Nodes.length : Int)
 sts1 : n.Stations.length ≤ 6
 check : L.zfta n = some 0
theorem NetOk.g {n : Network} (h : NetOk n) : NetG n :=
 ⟨by have := h.nodes; omega, h.segs1, fun k s hs => (h.segs k s hs).b, h.ports1, fun k s hs => (h.ports k s hs).node, h.sts1, netCheck h⟩
theorem NetW.g {n : Network} (h : NetW n) (h1 : n.Nodes.length - 1 ≤ n.Segments.length) (h2 : 2 ≤ n.Ports.length) : NetG n :=
 ⟨h.nodes, ⟨h1, h.segs1⟩, h.segs, ⟨h2, h.ports1⟩, fun k s hs => (h.ports k s hs).1, h.sts1, netCheckW h⟩
theorem psh_step {st : List Piece} {x : Piece} {J : Bool → Option (List Piece)} (hJ : ∀ b, J b = if b = true then Option.bind (ix st (wr ((st.length : Int) - 1))) fun p => some (st.set p.1 (⟨p.2.Batch, wr (p.2.Volume + x.Volume)⟩ : Piece)) else Option.bind (app? st ([x] : List Piece)) fun l => some l)
  (hl : st.length ≤ 1000000000) (hv : ∀ q, q ∈ st → 0 ≤ q.Volume ∧ q.Volume ≤ 1000000000) (hx : 0 ≤ x.Volume ∧ x.Volume ≤ 1000000000) :
  (if decide ((st.length : Int) > 0) = true then Option.bind (ix st (wr ((st.length : Int) - 1))) fun p => J (p.2.Batch == x.Batch) else J false) = some (psh st x) := by
 rcases snoc_cases st with rfl | ⟨a, q, rfl⟩
 ·rw [if_neg (by simp), hJ, if_neg (by simp), app?_eq (by simp)]; rfl
 ·have hq := hv q (by simp)
  have e : wr (((a ++ [q]).length : Int) - 1) = (a.length : Int) := by
   simp at hl
   rw [List.length_append, List.length_singleton]; rw [wr_id (by omega)]; omega
  have hi : ix (a ++ [q]) (wr (((a ++ [q]).length : Int) - 1)) = some (a.length, q) := by
   rw [e]; exact ix_nat (by simp)
  rw [if_pos (by simp), hi, Option.bind_some, hJ, psh_snoc]
  by_cases hb : q.Batch = x.Batch
  ·rw [if_pos (by simp [hb]), hi, Option.bind_some, if_pos hb]
   dsimp only
   rw [wr_id (by omega)]; simp
  ·rw [if_neg (by simp [hb]), app?_eq (by simp at hl ⊢; omega), if_neg hb]; rfl
theorem rle_bound {M : List Int} (h : M.length ≤ 1000000000) : (rle M).length ≤ 1000000000 ∧ ∀ q, q ∈ rle M → 0 ≤ q.Volume ∧ q.Volume ≤ 1000000000 := by
 have := rle_len M
 refine ⟨by omega, fun q hq => ?_⟩
 have h1 := (rle_can M).pos q hq
 have h2 := vol_mem (fun p hp => by have := (rle_can M).pos p hp; omega) hq
 rw [vol_rle] at h2; omega
theorem rle_psh {M : List Int} {x : Piece} (hx : 1 ≤ x.Volume) : psh (rle M) x = rle (M ++ List.replicate x.Volume.toNat x.Batch) := by
 rw [rle_rep _ _ _ (by omega)]
 obtain ⟨b, v⟩ := x
 dsimp only at hx ⊢
 rw [show ((v.toNat : Nat) : Int) = v by omega]
theorem rle_loop {B : Nat → Piece → List Piece → Option (List Piece)} (c : Int) (hc : 0 ≤ c)
  (hB : ∀ k x M, M.length ≤ 1000000000 → c ≤ x.Volume → x.Volume ≤ 1000000000 → B k x (rle M) = some (rle (M ++ List.replicate x.Volume.toNat x.Batch))) {L : List Int} {f : List Piece}
  (hf : ∀ p, p ∈ f → c ≤ p.Volume) (hl : (L.length : Int) + vol f ≤ 1000000000) : forS B 0 f (rle L) = some (rle (L ++ lit f)) := by
 have h0 : ∀ p, p ∈ f → 0 ≤ p.Volume := fun p hp => by have := hf p hp; omega
 have : Ok (forS B 0 f (rle L)) fun r => r = rle (L ++ lit f) := by
  refine .forS (fun k st => st = rle (L ++ lit (f.take k))) (by simp [lit_nil]) ?_ fun st h => by rw [h, List.take_length]
  rintro k x _ hx rfl
  have hm := mg hx
  have h1 := vol_mem h0 hm
  have h2 := vol_pos (f := f.take k) fun p hp => h0 p (List.mem_of_mem_take hp)
  have h3 : vol f = vol (f.take k) + vol (f.drop k) := by rw [← vol_app, List.take_append_drop]
  have h4 := vol_pos (f := f.drop k) fun p hp => h0 p (List.mem_of_mem_drop hp)
  have h5 := lit_len (f := f.take k) fun p hp => h0 p (List.mem_of_mem_take hp)
  refine ⟨_, hB k x _ (by rw [List.length_append]; omega) (hf x hm) (by omega), ?_⟩
  rw [List.take_add_one, hx]
  simp [lit_app, lit_one, List.append_assoc]
 obtain ⟨r, h1, h2⟩ := this
 rw [h1, h2]
theorem join_rle {N : List Int} {f : List Piece} (hf : ∀ p, p ∈ f → 1 ≤ p.Volume) (hl : (N.length : Int) + vol f ≤ 1000000000) : L.zljn (rle N) f = some (rle (N ++ lit f)) := by
 unfold L.zljn
 rw [rle_loop (B := L.zljn.B2) 1 (by omega) (fun k x M hM h1 h2 => ?_) hf hl]; · rfl
 have hb := rle_bound hM
 unfold L.zljn.B2
 rw [psh_step (J := L.zljn.J4 x (rle M)) (fun b => rfl) hb.1 hb.2 (by omega), rle_psh h1]
theorem rep_zero {x : Piece} (h : x.Volume = 0) (M : List Int) : M ++ List.replicate x.Volume.toNat x.Batch = M := by simp [h]
theorem merged_rle {f : List Piece} (hf : ∀ p, p ∈ f → 0 ≤ p.Volume) (hl : vol f ≤ 1000000000) : L.zzum f = some (rle (lit f)) := by
 unfold L.zzum
 rw [show ([] : List Piece) = rle [] from rfl, rle_loop (B := L.zzum.B2) 0 (by omega) (fun k x M hM h1 h2 => ?_) hf (by simpa using hl)]; · rfl
 have hb := rle_bound hM
 unfold L.zzum.B2
 by_cases h0 : x.Volume = 0
 ·rw [if_pos (by simp [h0]), rep_zero h0]; rfl
 ·rw [if_neg (by simp [h0]), psh_step (J := L.zzum.J4 x (rle M)) (fun b => rfl) hb.1 hb.2 (by omega), rle_psh (by omega)]
theorem joined_rle {f : List Piece} (hf : ∀ p, p ∈ f → 0 ≤ p.Volume) (hl : vol f ≤ 1000000000) : L.zuyb f = some (rle (lit f)) := by
 unfold L.zuyb
 rw [show ([] : List Piece) = rle [] from rfl, rle_loop (B := L.zuyb.B2) 0 (by omega) (fun k x M hM h1 h2 => ?_) hf (by simpa using hl)]; · rfl
 have hb := rle_bound hM
 unfold L.zuyb.B2
 by_cases h0 : x.Volume = 0
 ·rw [if_pos (by simp [h0]), rep_zero h0]; rfl
 ·rw [if_neg (by simp [h0]), psh_step (J := L.zuyb.J4 x (rle M)) (fun b => rfl) hb.1 hb.2 (by omega), rle_psh (by omega)]
theorem psh_len (l : List Piece) (x : Piece) : (psh l x).length ≤ l.length + 1 := by
 rcases snoc_cases l with rfl | ⟨a, q, rfl⟩
 ·simp [psh_nil]
 ·rw [psh_snoc]; split <;> simp
theorem rle_lit_len {f : List Piece} (hf : ∀ p, p ∈ f → 0 ≤ p.Volume) : (rle (lit f)).length ≤ f.length := by
 induction f using snoc_ind with
 | h0 => simp [lit_nil, rle_nil]
 | h1 a x ih =>
  have h1 := ih fun p hp => hf p (by simp [hp])
  have hx := hf x (by simp)
  rw [lit_app, lit_one, List.length_append, List.length_singleton]
  by_cases h0 : x.Volume = 0
  ·rw [rep_zero h0]; omega
  ·rw [← rle_psh (by omega)]
   have := psh_len (rle (lit a)) x
   omega
theorem sum_loop {B : Nat → Piece → Int → Option Int} (hB : ∀ k x s, B k x s = some (wr (s + x.Volume))) {f : List Piece} (hf : ∀ p, p ∈ f → 0 ≤ p.Volume) (hl : vol f ≤ 1000000000) : forS B 0 f 0 = some (vol f) := by
 have : Ok (forS B 0 f 0) fun r => r = vol f := by
  refine .forS (fun k st => st = vol (f.take k)) rfl ?_ fun st h => by rw [h, List.take_length]
  rintro k x _ hx rfl
  rw [hB]
  have h3 : vol f = vol (f.take (k + 1)) + vol (f.drop (k + 1)) := by rw [← vol_app, List.take_append_drop]
  have h4 := vol_pos (f := f.drop (k + 1)) fun p hp => hf p (List.mem_of_mem_drop hp)
  have h5 := vol_pos (f := f.take (k + 1)) fun p hp => hf p (List.mem_of_mem_take hp)
  refine .pure ?_
  rw [vol_take_succ hx] at h3 h5 ⊢
  exact wr_id (by omega)
 obtain ⟨r, h1, h2⟩ := this
 rw [h1, h2]
theorem total_eq {f : List Piece} (hf : ∀ p, p ∈ f → 0 ≤ p.Volume) (hl : vol f ≤ 1000000000) : L.zmsl f = some (vol f) := by
 unfold L.zmsl; rw [sum_loop (B := L.zmsl.B2) (fun _ _ _ => rfl) hf hl]; rfl
theorem sum14_eq {f : List Piece} (hf : ∀ p, p ∈ f → 0 ≤ p.Volume) (hl : vol f ≤ 1000000000) : L.zwqi f = some (vol f) := by
 unfold L.zwqi; rw [sum_loop (B := L.zwqi.B2) (fun _ _ _ => rfl) hf hl]; rfl
theorem Vd.piece {f : List Piece} (h : Vd f) {p : Piece} (hp : p ∈ f) : 0 ≤ p.Batch ∧ p.Batch < 1000 ∧ 1 ≤ p.Volume ∧ p.Volume ≤ 1000000 := by
 have h1 := h.can.pos p hp
 have h2 := h.bat _ (lit_mem h.can.pos hp)
 have h3 := vol_mem h.nn hp
 have := h.vol
 omega
theorem Vd.litre {f : List Piece} (h : Vd f) {p : Piece} (hp : p ∈ f) : L.zojo p = true := by
 have := h.piece hp
 unfold L.zojo; simp; omega
theorem valid_ok {f : List Piece} (h : Vd f) : L.zqwg f = some true := by
 have h1 := h.len; have h2 := h.vol
 have : Ok (L.zqwg f) fun r => r = true := by
  unfold L.zqwg
  refine Ok.iteD (fun h => by omega) fun _ => .bind' (.forL (fun _ _ => True) (fun _ => False) trivial ?_ ?_ (fun _ h => h.elim))
  ·intro k x _ hx _
   have hp := h.piece (mg hx)
   have e : ∀ b, b = false → Ok (L.zqwg.J3 b) (Sum.elim (fun _ : Unit => True) fun _ : Bool => False) := by rintro _ rfl; exact .pure trivial
   unfold L.zqwg.B2
   rw [h.litre (mg hx)]
   rw [if_neg (by simp), if_neg (by simp; omega)]
   refine Ok.iteD (fun hk => ?_) fun _ => e _ rfl
   have hkl := (gs hx).1
   rw [wr_id (by omega)]
   refine .bind' (.ix' (by omega) (by omega) fun j y hj hy => e _ ?_)
   have hn := h.can.ne j y x hy (by rw [show j + 1 = k by omega]; exact hx)
   simpa using hn
  ·intro _ _
   unfold L.zqwg.J1
   exact .bind' (.eq (total_eq h.nn (by omega)) (.pure (by simp; omega)))
 obtain ⟨r, h1, rfl⟩ := this
 exact h1
theorem volume_ok {f : List Piece} (h : Vd f) : L.zryf f = some (vol f) := by
 have h2 := h.vol
 unfold L.zryf
 rw [valid_ok h, Option.bind_some, if_neg (by simp), total_eq h.nn (by omega)]; rfl
theorem clone_ok {f : List Piece} (h : f.length ≤ 100000) : L.zgxj f = some f := by
 unfold L.zgxj
 rw [app?_eq (by simp; omega)]; rfl
theorem merge_ok {f : List Piece} (h : Vd f) : L.zmbh f = some f := by
 have h1 := h.len; have h2 := h.vol
 have : Ok (L.zytx f (fun x => some (L.zjyd x))) fun r => r = false := by
  unfold L.zytx L.zkmq
  refine .bind (Q := fun r => r = -1) (.bind' (.forL (fun _ _ => True) (fun _ => False) trivial ?_ (fun _ _ => .pure rfl) (fun _ h => h.elim))) (by rintro _ rfl; exact .pure (by simp))
  intro k x _ hx _
  unfold L.zkmq.B2
  rw [Option.bind_some]
  unfold L.zjyd
  rw [h.litre (mg hx)]
  exact .pure trivial
 obtain ⟨r, h3, rfl⟩ := this
 unfold L.zmbh
 rw [if_neg (by simp; omega), h3, Option.bind_some]
 unfold L.zmbh.J1
 rw [if_neg (by simp), merged_rle h.nn (by omega), Option.bind_some, rle_lit h.can]
theorem cut_ok {f : List Piece} (hf : ∀ p, p ∈ f → 0 ≤ p.Volume) (hl : vol f ≤ 100000000) (hlen : f.length ≤ 100000) {m : Nat} (hm : m ≤ 100000000) : L.zbkm f (m : Int) = some (rle ((lit f).take m), rle ((lit f).drop m)) := by
 have : Ok (L.zbkm f (m : Int)) fun r => r = (rle ((lit f).take m), rle ((lit f).drop m)) := by
  unfold L.zbkm
  refine .bind' (.eq (clone_ok hlen) (.bind' (.eq (clone_ok hlen) ?_)))
  refine .bind (Q := fun st : Int × List Piece × List Piece => (lit st.2.1 = (lit f).take m ∧ (∀ p, p ∈ st.2.1 → 0 ≤ p.Volume)) ∧ (lit st.2.2 = (lit f).drop m ∧ ∀ p, p ∈ st.2.2 → 0 ≤ p.Volume))
   (.forS (fun k st => ∃ a b : List Piece, a.length = k ∧ b.length = k ∧ st = (((m - (lit (f.take k)).length : Nat) : Int), a ++ f.drop k, b ++ f.drop k) ∧ (lit a = (lit (f.take k)).take m ∧ (∀ p, p ∈ a → 0 ≤ p.Volume)) ∧ (lit b = (lit (f.take k)).drop m ∧ ∀ p, p ∈ b → 0 ≤ p.Volume))
    ⟨[], [], rfl, rfl, by simp [lit_nil], by simp [lit_nil], by simp [lit_nil]⟩ ?_ ?_) ?_
  ·rintro k x _ hx ⟨a, b, ha, hb, rfl, ⟨h1, h1'⟩, h2, h2'⟩
   have hx0 := hf x (mg hx)
   have hxv := vol_mem hf (mg hx)
   have hkl := (gs hx).1
   have hd : f.drop k = x :: f.drop (k + 1) := by
    rw [List.drop_eq_getElem_cons hkl]; congr 1
    exact (gs hx).2
   have ga : (a ++ f.drop k)[k]? = some x := by rw [hd, ← ha]; simp
   have gb : (b ++ f.drop k)[k]? = some x := by rw [hd, ← hb]; simp
   have sa : ∀ y, (a ++ f.drop k).set k y = a ++ [y] ++ f.drop (k + 1) := fun y => by rw [hd, ← ha]; simp
   have sb : ∀ y, (b ++ f.drop k).set k y = b ++ [y] ++ f.drop (k + 1) := fun y => by rw [hd, ← hb]; simp
   unfold L.zbkm.B2
   dsimp only
   refine .bind' (.eq (ix_nat ga) ?_)
   dsimp only
   rw [sa]
   have ga' : (a ++ [(⟨x.Batch, min x.Volume ((m - (lit (f.take k)).length : Nat) : Int)⟩ : Piece)] ++ f.drop (k + 1))[k]? = some (⟨x.Batch, min x.Volume ((m - (lit (f.take k)).length : Nat) : Int)⟩ : Piece) := by rw [← ha]; simp
   refine .bind' (.eq (ix_nat ga') (.bind' (.eq (ix_nat gb) (.pure ?_))))
   dsimp only
   rw [sb]
   have hlk : lit (f.take (k + 1)) = lit (f.take k) ++ List.replicate x.Volume.toNat x.Batch := by
    rw [List.take_add_one, hx]; simp [lit_app, lit_one]
   rw [wr_id (by omega), wr_id (by omega)]
   refine ⟨a ++ [(⟨x.Batch, min x.Volume ((m - (lit (f.take k)).length : Nat) : Int)⟩ : Piece)], b ++ [(⟨x.Batch, x.Volume - min x.Volume ((m - (lit (f.take k)).length : Nat) : Int)⟩ : Piece)], by simp [ha], by simp [hb], ?_, ⟨?_, ?_⟩, ?_, ?_⟩
   ·congr 1
    rw [hlk, List.length_append, List.length_replicate]; omega
   ·rw [lit_app, lit_one, h1, hlk, List.take_append]
    congr 1
    rw [List.take_replicate]; dsimp only; congr 1; omega
   ·intro p hp
    rcases List.mem_append.1 hp with hp | hp
    ·exact h1' p hp
    ·simp at hp; subst hp; dsimp only; omega
   ·rw [lit_app, lit_one, h2, hlk, List.drop_append]
    congr 1
    rw [List.drop_replicate]; dsimp only; congr 1; omega
   ·intro p hp
    rcases List.mem_append.1 hp with hp | hp
    ·exact h2' p hp
    ·simp at hp; subst hp; dsimp only; omega
  ·rintro _ ⟨a, b, _, _, rfl, ⟨h1, h1'⟩, h2, h2'⟩
   dsimp only
   rw [List.take_length] at h1 h2
   rw [List.drop_length, List.append_nil, List.append_nil]
   exact ⟨⟨h1, h1'⟩, h2, h2'⟩
  ·rintro ⟨_, a, b⟩ ⟨⟨h1, h1'⟩, h2, h2'⟩
   dsimp only at h1 h1' h2 h2'
   have hl' := lit_len hf
   have va := lit_len h1'
   have vb := lit_len h2'
   rw [h1, List.length_take] at va
   rw [h2, List.length_drop] at vb
   unfold L.zbkm.J1
   refine .bind' (.eq (merged_rle (f := a) h1' (by omega)) (.bind' (.eq (merged_rle (f := b) h2' (by omega)) (.pure ?_))))
   rw [h1, h2]
 obtain ⟨r, h1, rfl⟩ := this
 exact h1
theorem reverse_ok {f : List Piece} (hl : f.length ≤ 100000) : L.znde f = some f.reverse := by
 have : Ok (L.znde f) fun r => r = f.reverse := by
  unfold L.znde
  rw [wr_id (by omega)]
  refine .bind (Q := fun r => r = f.reverse) (.loop (fun st => ∃ i : Nat, st.2.1 = (i : Int) ∧ st.2.2 = (f.length : Int) - 1 - i ∧ 2 * (i : Int) ≤ f.length + 1 ∧ st.1.length = f.length ∧ ∀ j : Nat, j < f.length → st.1[j]? = if j < i ∨ f.length - 1 - j < i then f[f.length - 1 - j]? else f[j]?) (fun st => f.length + 1 - st.2.1.toNat)
   ⟨0, rfl, by simp, by omega, rfl, fun j hj => by rw [if_neg (by omega)]⟩ (by simp; omega) ?_) (by rintro _ rfl; exact .pure rfl)
  rintro ⟨l, a, b⟩ ⟨i, h1, h2, h3, h4, h5⟩
  dsimp only at h1 h2 h3 h4 h5
  subst h1; subst h2
  unfold L.znde.B1
  refine Ok.iteD (fun h => ?_) fun h => .pure ?_
  ·dsimp only at h ⊢
   obtain ⟨j, hj⟩ : ∃ j : Nat, (f.length : Int) - 1 - i = (j : Int) := ⟨f.length - 1 - i, by omega⟩
   rw [hj]
   have e1 : l[j]? = f[j]? := by rw [h5 j (by omega), if_neg (by omega)]
   have e2 : l[i]? = f[i]? := by rw [h5 i (by omega), if_neg (by omega)]
   have g1 : f[j]? = some f[j] := gq (by omega)
   have g2 : f[i]? = some f[i] := gq (by omega)
   rw [g1] at e1; rw [g2] at e2
   refine .bind' (.eq (ix_nat e1) (.bind' (.eq (ix_nat e2) ?_)))
   dsimp only
   refine .bind' (.eq (ix_nat (x := f[j]) ?_) ?_)
   ·rw [List.getElem?_set_ne (by omega)]; exact e1
   dsimp only
   unfold L.znde.J2
   refine .pure ⟨⟨i + 1, ?_, ?_, by omega, by simp [h4], fun k hk => ?_⟩, ?_⟩
   ·dsimp only; rw [wr_id (by omega)]; omega
   ·dsimp only; rw [wr_id (by omega)]; omega
   ·dsimp only
    rw [List.getElem?_set, List.length_set]
    by_cases hkj : j = k
    ·subst hkj
     rw [if_pos rfl, if_pos (by omega), if_pos (by omega), show f.length - 1 - j = i by omega, g2]
    ·rw [if_neg hkj, List.getElem?_set]
     by_cases hki : i = k
     ·subst hki
      rw [if_pos rfl, if_pos (by omega), if_pos (by omega), show f.length - 1 - i = j by omega, g1]
     ·rw [if_neg hki, h5 k hk]
      congr 1
      exact propext (by constructor <;> intro h <;> omega)
   ·dsimp only; rw [wr_id (by omega)]; omega
  ·dsimp only at h ⊢
   refine List.ext_getElem? fun k => ?_
   by_cases hk : k < f.length
   ·rw [h5 k hk, List.getElem?_reverse hk]
    split
    ·rfl
    ·rw [show f.length - 1 - k = k by omega]
   ·rw [List.getElem?_eq_none (by omega), List.getElem?_eq_none (by simp; omega)]
 obtain ⟨r, h1, rfl⟩ := this
 exact h1
theorem turned_ok {f : List Piece} (hl : f.length ≤ 100000) : L.zqks f = some f.reverse := by
 unfold L.zqks
 rw [clone_ok hl, Option.bind_some, reverse_ok hl]; rfl
theorem push_back {F I : List Int} (hF : Vd (rle F)) (hI : Vd (rle I)) : Ok (L.zbil (rle F) (rle I) true) fun r => r.2.2 = 4 ∧ (200 < (rle ((F ++ I).drop I.length)).length ∨ 200 < (rle ((F ++ I).take I.length)).length) ∨ r = (rle ((F ++ I).drop I.length), rle ((F ++ I).take I.length), 0) ∧ (rle ((F ++ I).drop I.length)).length ≤ 200 ∧ (rle ((F ++ I).take I.length)).length ≤ 200 := by
 have h1 := hF.vol; have h2 := hI.vol
 have l1 := hF.len; have l2 := hI.len
 rw [vol_rle] at h1 h2
 unfold L.zbil
 refine .bind' (.eq (valid_ok hF) ?_)
 rw [if_neg (by simp)]
 refine .bind' (.eq (valid_ok hI) ?_)
 unfold L.zbil.J1
 rw [if_neg (by simp), if_pos rfl]
 refine .bind' (.eq (clone_ok (by omega)) (.bind' (.app (by omega) (.bind' (.eq (total_eq hI.nn (by rw [vol_rle]; omega)) ?_)))))
 rw [vol_rle]
 refine .bind' (.eq (cut_ok (m := I.length) ?_ ?_ (by rw [List.length_append]; omega) (by omega)) ?_)
 ·intro p hp
  rcases List.mem_append.1 hp with hp | hp
  ·exact hF.nn p hp
  ·exact hI.nn p hp
 ·rw [vol_app, vol_rle, vol_rle]; omega
 rw [lit_app, lit_rle, lit_rle]
 unfold L.zbil.J2
 dsimp only
 refine Ok.iteB (fun h => .pure (.inl ⟨rfl, by simp at h; omega⟩)) fun h => .pure (.inr ⟨rfl, ?_⟩)
 simp at h; omega
theorem push_fore {F I : List Int} (hF : Vd (rle F)) (hI : Vd (rle I)) : Ok (L.zbil (rle F) (rle I) false) fun r => r.2.2 = 4 ∧ (200 < (rle ((I ++ F).take F.length)).length ∨ 200 < (rle ((I ++ F).drop F.length)).length) ∨ r = (rle ((I ++ F).take F.length), rle ((I ++ F).drop F.length), 0) ∧ (rle ((I ++ F).take F.length)).length ≤ 200 ∧ (rle ((I ++ F).drop F.length)).length ≤ 200 := by
 have h1 := hF.vol; have h2 := hI.vol
 have l1 := hF.len; have l2 := hI.len
 rw [vol_rle] at h1 h2
 unfold L.zbil
 refine .bind' (.eq (valid_ok hF) ?_)
 rw [if_neg (by simp)]
 refine .bind' (.eq (valid_ok hI) ?_)
 unfold L.zbil.J1
 rw [if_neg (by simp), if_neg (by simp)]
 refine .bind' (.eq (clone_ok (by omega)) (.bind' (.app (by omega) (.bind' (.eq (total_eq hF.nn (by rw [vol_rle]; omega)) ?_)))))
 rw [vol_rle]
 refine .bind' (.eq (cut_ok (m := F.length) ?_ ?_ (by rw [List.length_append]; omega) (by omega)) ?_)
 ·intro p hp
  rcases List.mem_append.1 hp with hp | hp
  ·exact hI.nn p hp
  ·exact hF.nn p hp
 ·rw [vol_app, vol_rle, vol_rle]; omega
 rw [lit_app, lit_rle, lit_rle]
 unfold L.zbil.J2
 dsimp only
 refine Ok.iteB (fun h => .pure (.inl ⟨rfl, by simp at h; omega⟩)) fun h => .pure (.inr ⟨rfl, ?_⟩)
 simp at h; omega
theorem app_all {α : Type} {P : Nat → α → Prop} {l : List α} {x : α} (h : ∀ k s, l[k]? = some s → P k s) (hx : P l.length x) : ∀ k s, (l ++ [x])[k]? = some s → P k s := by
 intro k s hs
 rw [List.getElem?_append] at hs
 split at hs
 ·exact h k s hs
 ·have h2 := (gs hs).1
  simp at h2
  have : k = l.length := by omega
  subst this
  simp at hs; subst hs; exact hx
def ind (a v : Int) : Int := if a = v then 1 else 0
def wt (n : Network) (v : Int) : List Int := n.Segments.map fun s => ind s.To v - ind s.From v
def wp (n : Network) (v : Int) : List Int := n.Ports.map fun p => ind p.Node v
structure Hop1 (n : Network) (rates : List Int) (rate a : Int) (i : Nat) (x : Segment) (r b : Int) : Prop where
 seg : n.Segments[i]? = some x
 old : rates[i]? = some r
 lt : a < b
 ends : x.From = a ∧ x.To = b ∨ x.To = a ∧ x.From = b
 rng : r + rate ≤ 1000 ∧ rate - r ≤ 1000 ∧ r + rate ≤ x.Capacity ∧ rate - r ≤ x.Capacity
def HopAt (n : Network) (rates : List Int) (rate a k b : Int) : Prop := ∃ (i : Nat) (x : Segment) (r : Int), k = (i : Int) ∧ Hop1 n rates rate a i x r b
def WayTo (n : Network) (rates : List Int) (rate s0 : Int) (way : List Int) (t : Int) : Prop :=
 ∃ nd : Nat → Int, nd 0 = s0 ∧ nd way.length = t ∧ ∀ (j : Nat) (k : Int), way[j]? = some k → HopAt n rates rate (nd j) k (nd (j + 1))
theorem WayTo.snoc {n : Network} {rates : List Int} {rate s0 : Int} {way : List Int} {m k t : Int} (h : WayTo n rates rate s0 way m) (hk : HopAt n rates rate m k t) : WayTo n rates rate s0 (way ++ [k]) t := by
 obtain ⟨nd, h1, h2, h3⟩ := h
 refine ⟨fun i => if i ≤ way.length then nd i else t, by simp [h1], by simp; omega, fun j k' hj => ?_⟩
 rw [List.getElem?_append] at hj
 split at hj
 ·rename_i hjl
  have := h3 j k' hj
  dsimp only
  rw [if_pos (by omega), if_pos (by omega)]; exact this
 ·have hb := (gs hj).1
  simp at hb
  have : j = way.length := by omega
  subst this
  simp at hj; subst hj
  dsimp only
  rw [if_pos (by omega), if_neg (by omega), h2]; exact hk
structure PlanOk (n : Network) (p : Plan) : Prop where
 rl : p.Rates.length = n.Segments.length
 pl : p.Ports.length = n.Ports.length
 ml : p.Pumps.length = n.Stations.length
 rng : ∀ (k : Nat) (r : Int) (s : Segment), p.Rates[k]? = some r → n.Segments[k]? = some s → -1000 ≤ r ∧ r ≤ 1000 ∧ -s.Capacity ≤ r ∧ r ≤ s.Capacity
 prt : ∀ (k : Nat) (x : Int), p.Ports[k]? = some x → -1000 ≤ x ∧ x ≤ 1000
 bal : ∀ v, dot (wt n v) p.Rates + dot (wp n v) p.Ports = 0
 dir : (∀ (k : Nat) (r : Int) (s : Segment), p.Rates[k]? = some r → n.Segments[k]? = some s → (0 < r → s.From < s.To) ∧ (r < 0 → s.To < s.From)) ∨
  (∀ (k : Nat) (r : Int) (s : Segment), p.Rates[k]? = some r → n.Segments[k]? = some s → (0 < r → s.To < s.From) ∧ (r < 0 → s.From < s.To))
def val {n : Nat} (a : Arr Int n) (v : Nat) : Int := a.l.getD v 0
theorem val_set {n : Nat} {a : Arr Int n} {i v : Nat} {x : Int} (hv : v < n) : val (a.set i x) v = if i = v then x else val a v := by
 unfold val Arr.set
 dsimp only
 rw [List.getD_eq_getElem?_getD, List.getD_eq_getElem?_getD, get_set]
 have := a.h
 by_cases h : i = v
 ·rw [if_pos ⟨h, by omega⟩, if_pos h]; rfl
 ·rw [if_neg (fun h' => h h'.1), if_neg h]
theorem val_get {n : Nat} {a : Arr Int n} {i : Nat} {x : Int} (h : a.l[i]? = some x) : val a i = x := by
 unfold val; rw [List.getD_eq_getElem?_getD, h]; rfl
theorem val_rep {n v : Nat} : val (Arr.rep n (0 : Int)) v = 0 := by
 unfold val Arr.rep
 dsimp only
 rw [List.getD_eq_getElem?_getD, List.getElem?_replicate]
 split <;> rfl
structure Strm (b : Int) (s : flow_streams) (f : Nat → Int) : Prop where
 come : ∀ v, v < 24 → 0 ≤ val s.come v ∧ val s.come v ≤ b
 leave : ∀ v, v < 24 → 0 ≤ val s.leave v ∧ val s.leave v ≤ b
 diff : ∀ v, v < 24 → val s.come v - val s.leave v = f v
theorem ind_self (v : Int) : ind v v = 1 := if_pos rfl
theorem ind_ne {a v : Int} (h : a ≠ v) : ind a v = 0 := if_neg h
theorem add_ok {s : flow_streams} {b : Int} {f : Nat → Int} (h : Strm b s f) (hb : 0 ≤ b ∧ b ≤ 1000000) {from_ to_ rate : Int} (hf : from_ < 24) (ht : to_ < 24) (hft : -1 ≤ from_ ∧ -1 ≤ to_)
  (hr : -1000 ≤ rate ∧ rate ≤ 1000) : Ok (L.zuui s from_ to_ rate) fun r => Strm (b + 1000) r fun v => f v + (ind to_ v - ind from_ v) * rate := by
 have main : ∀ (from_ to_ rate : Int), from_ < 24 → to_ < 24 → -1 ≤ from_ ∧ -1 ≤ to_ → 0 ≤ rate ∧ rate ≤ 1000 → Ok (L.zuui.J1 s (from_, to_, rate)) fun r => Strm (b + 1000) r fun v => f v + (ind to_ v - ind from_ v) * rate := by
  intro from_ to_ rate hf ht hft hr
  have j2 : ∀ (lv : Arr Int 24), (∀ v, v < 24 → 0 ≤ val lv v ∧ val lv v ≤ b + 1000 ∧ val lv v = val s.leave v + ind from_ v * rate) → Ok (L.zuui.J2 s (from_, to_, rate) lv) fun r => Strm (b + 1000) r fun v => f v + (ind to_ v - ind from_ v) * rate := by
   intro lv hlv
   unfold L.zuui.J2
   refine Ok.iteD (fun h0 => ?_) fun h0 => .pure ?_
   ·dsimp only at h0
    obtain ⟨t, rfl⟩ := nat_of h0
    have hl := s.come.h
    refine .bind' (.ix t rfl (by omega) ?_)
    have hx : s.come.l[t]? = some s.come.l[t] := gq (by omega)
    have hvx := val_get hx
    have hcx := h.come t (by omega)
    dsimp only
    rw [wr_id (by omega)]
    refine .pure ⟨fun v hv => ?_, fun v hv => ⟨(hlv v hv).1, (hlv v hv).2.1⟩, fun v hv => ?_⟩
    ·have := h.come v hv
     dsimp only
     rw [val_set hv]; split <;> omega
    ·have h1 := h.diff v hv
     have h2 := (hlv v hv).2.2
     dsimp only
     rw [val_set hv, h2, Int.sub_mul]
     by_cases htv : t = v
     ·subst htv; rw [if_pos rfl, ind_self]; omega
     ·rw [if_neg htv, ind_ne (a := (t : Int)) (by omega)]; omega
   ·dsimp only at h0
    refine ⟨fun v hv => ?_, fun v hv => ⟨(hlv v hv).1, (hlv v hv).2.1⟩, fun v hv => ?_⟩
    ·have := h.come v hv
     dsimp only; omega
    ·have h1 := h.diff v hv
     have h2 := (hlv v hv).2.2
     dsimp only
     rw [h2, Int.sub_mul, ind_ne (a := to_) (by omega)]; omega
  unfold L.zuui.J1
  refine Ok.iteD (fun h0 => ?_) fun h0 => ?_
  ·dsimp only at h0
   obtain ⟨t, rfl⟩ := nat_of h0
   have hl := s.leave.h
   refine .bind' (.ix t rfl (by omega) ?_)
   have hx : s.leave.l[t]? = some s.leave.l[t] := gq (by omega)
   have hvx := val_get hx
   have hcx := h.leave t (by omega)
   dsimp only
   rw [wr_id (by omega)]
   refine j2 _ fun v hv => ?_
   have := h.leave v hv
   rw [val_set hv]
   by_cases htv : t = v
   ·subst htv; rw [if_pos rfl, ind_self]; omega
   ·rw [if_neg htv, ind_ne (by omega)]; omega
  ·dsimp only at h0
   refine j2 _ fun v hv => ?_
   have := h.leave v hv
   rw [ind_ne (by omega)]; omega
 unfold L.zuui
 refine Ok.iteD (fun h0 => ?_) fun h0 => main _ _ _ hf ht hft (by omega)
 rw [wr_id (by omega)]
 refine (main to_ from_ (0 - rate) ht hf ⟨hft.2, hft.1⟩ (by omega)).mono fun r hr => ⟨hr.come, hr.leave, fun v hv => ?_⟩
 rw [hr.diff v hv]
 have : ∀ a b r : Int, (a - b) * (0 - r) = (b - a) * r := fun a b r => by rw [Int.zero_sub, Int.mul_neg, ← Int.neg_mul]; congr 1; omega
 rw [this]
def Blocked (n : Network) (p : Plan) (there : List Bool) (j : Nat) : Prop :=
 ∃ (i : Nat) (s : Segment) (r : Int) (f : Nat), n.Segments[i]? = some s ∧ p.Rates[i]? = some r ∧ r ≠ 0 ∧ (L.ztzg s r).2 = (j : Int) ∧ (L.ztzg s r).1 = (f : Int) ∧ there[f]? = some false
def Acyc (n : Network) (p : Plan) : Prop := ∀ there : List Bool, there.length = n.Nodes.length → (∀ j : Nat, there[j]? = some false → Blocked n p there j) → ∀ k : Nat, there[k]? ≠ some false
structure FlowOk (n : Network) (p : Plan) : Prop where
 rl : p.Rates.length = n.Segments.length
 pl : p.Ports.length = n.Ports.length
 ml : p.Pumps.length = n.Stations.length
 rng : ∀ (k : Nat) (r : Int) (s : Segment), p.Rates[k]? = some r → n.Segments[k]? = some s → -1000 ≤ r ∧ r ≤ 1000 ∧ -s.Capacity ≤ r ∧ r ≤ s.Capacity
 prt : ∀ (k : Nat) (x : Int), p.Ports[k]? = some x → -1000 ≤ x ∧ x ≤ 1000
 bal : ∀ v : Nat, v < 24 → dot (wt n v) p.Rates + dot (wp n v) p.Ports = 0
 acyc : Acyc n p
theorem endsOf {s : Segment} {r : Int} (hr0 : r ≠ 0) : L.ztzg s r = (s.To, s.From) ∧ r < 0 ∨ L.ztzg s r = (s.From, s.To) ∧ 0 < r := by
 unfold L.ztzg
 by_cases hn : r < 0
 ·exact .inl ⟨by rw [if_pos (by simp [hn])], hn⟩
 ·exact .inr ⟨by rw [if_neg (by simp [hn])], by omega⟩
theorem PlanOk.flow {n : Network} {p : Plan} (h : PlanOk n p) : FlowOk n p := by
 refine ⟨h.rl, h.pl, h.ml, h.rng, h.prt, fun v _ => h.bal v, fun there hl i5 => ?_⟩
 rcases h.dir with hd | hd
 ·intro k
  induction k using Nat.strongRecOn with
  | ind k ih =>
   intro hk
   have hkl := (gs hk).1
   obtain ⟨i, s, r, f, hs, hr, hr0, hto, hfr, hf⟩ := i5 k hk
   have := hd i r s hr hs
   refine ih f ?_ hf
   rcases endsOf (s := s) hr0 with ⟨he, hr1⟩ | ⟨he, hr1⟩ <;> rw [he] at hto hfr <;> dsimp only at hto hfr <;> omega
 ·have : ∀ m k : Nat, there.length - k = m → there[k]? ≠ some false := by
   intro m
   induction m using Nat.strongRecOn with
   | ind m ih =>
    intro k hm hk
    have hkl := (gs hk).1
    obtain ⟨i, s, r, f, hs, hr, hr0, hto, hfr, hf⟩ := i5 k hk
    have hfl := (gs hf).1
    have := hd i r s hr hs
    refine ih (there.length - f) ?_ f rfl hf
    rcases endsOf (s := s) hr0 with ⟨he, hr1⟩ | ⟨he, hr1⟩ <;> rw [he] at hto hfr <;> dsimp only at hto hfr <;> omega
  exact fun k => this _ k rfl
theorem sums_okG {n : Network} (hn : NetG n) {p : Plan} (h : FlowOk n p) : Ok (L.zzkf n p) fun r => Strm 14000 r fun _ => 0 := by
 have h1 := hn.nodes; have h2 := hn.segs1; have h3 := hn.ports1; have h4 := h.rl; have h5 := h.pl
 unfold L.zzkf
 refine .bind (.forS (fun k st => Strm (1000 * k) ⟨st.1, st.2⟩ fun v => dot (wt n v) (p.Rates.take k)) ⟨fun v hv => ?_, fun v hv => ?_, fun v hv => ?_⟩ ?_ fun st h => h) ?_
 ·dsimp only; rw [val_rep]; omega
 ·dsimp only; rw [val_rep]; omega
 ·dsimp only; rw [val_rep]; simp [dot_nil]
 ·intro k s st hs hi
  have hkl := (gs hs).1
  have hr : p.Rates[k]? = some p.Rates[k] := gq (by omega)
  have hrr := h.rng k _ s hr hs
  have he := (hn.segs k s hs).ends
  unfold L.zzkf.B4
  refine .bind' (.ix k rfl (by omega) (.bind (add_ok hi (by omega) (by omega) (by omega) (by omega) (by dsimp only; omega)) fun r hr2 => .pure ?_))
  refine ⟨fun v hv => ?_, fun v hv => ?_, fun v hv => ?_⟩
  ·have := hr2.come v hv; dsimp only; omega
  ·have := hr2.leave v hv; dsimp only; omega
  ·have := hr2.diff v hv
   dsimp only at this ⊢
   rw [this, dot_take_succ (w := wt n v) (a := ind s.To v - ind s.From v) (by unfold wt; rw [List.getElem?_map, hs]; rfl) hr]
 ·intro st hi
  rw [List.take_of_length_le (by omega)] at hi
  unfold L.zzkf.J1
  refine .bind (.forS (fun k st => Strm (8000 + 1000 * k) ⟨st.1, st.2⟩ fun v => dot (wt n v) p.Rates + dot (wp n v) (p.Ports.take k)) ⟨fun v hv => ?_, fun v hv => ?_, fun v hv => ?_⟩ ?_ fun st h => h) ?_
  ·have := hi.come v hv; dsimp only at this ⊢; omega
  ·have := hi.leave v hv; dsimp only at this ⊢; omega
  ·have := hi.diff v hv; dsimp only at this ⊢; rw [this]; simp [dot_nil]
  ·intro k s st hs hi
   have hkl := (gs hs).1
   have hr : p.Ports[k]? = some p.Ports[k] := gq (by omega)
   have hrr := h.prt k _ hr
   have he := (hn.ports k s hs)
   unfold L.zzkf.B3
   refine .bind' (.ix k rfl (by omega) (.bind (add_ok hi (by omega) (by omega) (by omega) (by omega) (by dsimp only; omega)) fun r hr2 => .pure ?_))
   refine ⟨fun v hv => ?_, fun v hv => ?_, fun v hv => ?_⟩
   ·have := hr2.come v hv; dsimp only; omega
   ·have := hr2.leave v hv; dsimp only; omega
   ·have := hr2.diff v hv
    dsimp only at this ⊢
    rw [this, dot_take_succ (w := wp n v) (a := ind s.Node v) (by unfold wp; rw [List.getElem?_map, hs]; rfl) hr, ind_ne (a := -1) (by omega), Int.sub_zero]; omega
  ·intro st hi
   rw [List.take_of_length_le (by omega)] at hi
   unfold L.zzkf.J2
   refine .pure ⟨fun v hv => ?_, fun v hv => ?_, fun v hv => ?_⟩
   ·have := hi.come v hv; dsimp only at this ⊢; omega
   ·have := hi.leave v hv; dsimp only at this ⊢; omega
   ·have := hi.diff v hv; rw [h.bal v hv] at this; exact this
def cnt : List Bool → Nat
 | [] => 0
 | b :: l => (if b = true then 1 else 0) + cnt l
theorem cnt_le : ∀ l : List Bool, cnt l ≤ l.length
 | [] => Nat.le_refl _
 | b :: l => by have := cnt_le l; cases b <;> simp [cnt] <;> omega
theorem cnt_rep (n : Nat) : cnt (List.replicate n false) = 0 := by induction n with | zero => rfl | succ n ih => simp [List.replicate_succ, cnt, ih]
theorem cnt_set : ∀ {l : List Bool} {k : Nat}, l[k]? = some false → cnt (l.set k true) = cnt l + 1
 | [], k, h => by simp at h
 | b :: l, 0, h => by simp at h; subst h; simp [cnt]; omega
 | b :: l, k + 1, h => by simp at h; simp [cnt, cnt_set h]; omega
theorem cnt_all : ∀ {l : List Bool}, (∀ k : Nat, l[k]? ≠ some false) → cnt l = l.length
 | [], _ => rfl
 | b :: l, h => by
  have h0 := h 0
  have := cnt_all (l := l) fun k => by have := h (k + 1); simpa using this
  cases b <;> simp [cnt, this] at h0 ⊢; omega
theorem order_okG {n : Network} (hn : NetG n) {p : Plan} (h : FlowOk n p) : Ok (L.zsgw n p) fun r => r.length = n.Nodes.length := by
 have h1 := hn.nodes; have h2 := hn.segs1; have h4 := h.rl
 unfold L.zsgw
 refine .bind' (.mk n.Nodes.length rfl (by omega) ?_)
 refine .bind (Q := fun r : List Int => r.length = n.Nodes.length) ?_ fun r hr => .pure hr
 refine .loop (fun st : List Int × List Bool × Int => st.2.1.length = n.Nodes.length ∧ st.1.length = cnt st.2.1 ∧ 0 ≤ st.2.2 ∧ st.2.2 ≤ (n.Nodes.length : Int) ∧ ∀ j : Nat, (j : Int) < st.2.2 → st.2.1[j]? = some false → Blocked n p st.2.1 j)
  (fun st => (n.Nodes.length - cnt st.2.1) * 10 + (n.Nodes.length - st.2.2.toNat)) ⟨by simp, by simp [cnt_rep], by simp, by simp, fun j hj => by dsimp only at hj; omega⟩ (by dsimp only; rw [cnt_rep]; omega) ?_
 rintro ⟨out, there, k⟩ ⟨i1, i2, i3, i4, i5⟩
 dsimp only at i1 i2 i3 i4 i5
 have hc := cnt_le there
 unfold L.zsgw.B2
 refine Ok.iteD (fun h0 => ?_) fun h0 => ?_
 ·dsimp only at h0
  obtain ⟨kk, rfl⟩ := nat_of i3
  have hkl : kk < there.length := by omega
  have hx : there[kk]? = some there[kk] := gq hkl
  have next : Blocked n p there kk ∨ there[kk] = true → Ok (L.zsgw.J3 (out, there, (kk : Int))) (Sum.elim (fun st => (st.2.1.length = n.Nodes.length ∧ st.1.length = cnt st.2.1 ∧ 0 ≤ st.2.2 ∧ st.2.2 ≤ (n.Nodes.length : Int) ∧ ∀ j : Nat, (j : Int) < st.2.2 → st.2.1[j]? = some false → Blocked n p st.2.1 j) ∧
    (n.Nodes.length - cnt st.2.1) * 10 + (n.Nodes.length - st.2.2.toNat) < (n.Nodes.length - cnt there) * 10 + (n.Nodes.length - (kk : Int).toNat)) fun r : List Int => r.length = n.Nodes.length) := by
   intro hb
   unfold L.zsgw.J3
   dsimp only
   rw [wr_id (by omega)]
   refine .pure ⟨⟨i1, i2, by dsimp only; omega, by dsimp only; omega, fun j hj hf => ?_⟩, by dsimp only; omega⟩
   dsimp only at hj hf
   by_cases hjk : j = kk
   ·subst hjk
    rcases hb with hb | hb
    ·exact hb
    ·rw [hx, hb] at hf; cases hf
   ·exact i5 j (by omega) hf
  refine .bind' (.eq (ix_nat hx) (Ok.iteB (fun ht => next (.inr ht)) fun ht => ?_))
  dsimp only at ht
  refine .bind' (.forL (fun _ _ => True) (fun d => d = (out, there, (kk : Int)) ∧ Blocked n p there kk) trivial ?_ ?_ ?_)
  ·intro i s _ hs _
   have hil := (gs hs).1
   have hr : p.Rates[i]? = some p.Rates[i] := gq (by omega)
   have he := (hn.segs i s hs).ends
   have no : Ok (L.zsgw.J6 (out, there, (kk : Int)) false) (Sum.elim (fun _ : Unit => True) fun d => d = (out, there, (kk : Int)) ∧ Blocked n p there kk) := by
    unfold L.zsgw.J6
    exact .pure trivial
   unfold L.zsgw.B5
   refine .bind' (.eq (ix_nat hr) (Ok.iteU (fun hr0 => Ok.iteE (fun hto => ?_) fun _ => no) fun _ => no))
   dsimp only at hr0 hto ⊢
   have hfr : 0 ≤ (L.ztzg s p.Rates[i]).1 ∧ (L.ztzg s p.Rates[i]).1 < (n.Nodes.length : Int) := by
    unfold L.ztzg
    split <;> dsimp only <;> omega
   refine .bind' (.ix' hfr.1 (by omega) fun f x hf hfx => ?_)
   unfold L.zsgw.J6
   refine Ok.iteN (fun hx0 => .pure ⟨rfl, i, s, p.Rates[i], f, hs, hr, hr0, hto, hf, by dsimp only at hx0 hfx; rw [hfx, hx0]⟩) fun _ => .pure trivial
  ·intro _ _
   simp only [Sum.elim_inl]
   unfold L.zsgw.J4
   refine .bind' (.app (by simp; omega) ?_)
   unfold L.zsgw.J3
   dsimp only
   rw [wr_id (by omega)]
   have hx' : there[kk]? = some false := by rw [hx, ht]
   have hcs := cnt_set hx'
   have hcl := cnt_le (there.set kk true)
   simp at hcl
   refine .pure ⟨⟨by simp [i1], by simp [hcs, i2], by simp, by dsimp only; omega, fun j hj => by dsimp only at hj; omega⟩, ?_⟩
   dsimp only
   rw [hcs]; omega
  ·rintro _ ⟨rfl, hb⟩
   exact next (.inl hb)
 ·dsimp only at h0
  have hk : k = (n.Nodes.length : Int) := by omega
  subst hk
  have all := h.acyc there i1 fun j hj => i5 j (by have := (gs hj).1; omega) hj
  exact .pure (by simp only [Sum.elim_inr]; rw [i2, cnt_all all, i1])
theorem flowCheckG {n : Network} (hn : NetG n) {p : Plan} (h : FlowOk n p) : L.zmqu n p = some 0 := by
 have h1 := hn.nodes; have h2 := hn.segs1; have h3 := hn.ports1; have h4 := h.rl; have h5 := h.pl; have h6 := h.ml; have h7 := hn.sts1
 have : Ok (L.zmqu n p) fun r => r = 0 := by
  unfold L.zmqu
  refine .bind' (.eq (hn.check) (Ok.iteU (fun h => absurd rfl h) fun _ => Ok.iteB (fun hb => ?_) fun _ => ?_))
  ·simp [h4, h5, h6] at hb
  refine .bind' (.forL (fun _ _ => True) (fun _ => False) trivial ?_ ?_ fun _ h => h.elim)
  ·intro k s _ hs _
   have hkl := (gs hs).1
   have hr : p.Rates[k]? = some p.Rates[k] := gq (by omega)
   have hrr := h.rng k _ s hr hs
   have hc := (hn.segs k s hs).cap
   unfold L.zmqu.B2
   refine .bind' (.eq (ix_nat hr) (Ok.iteN (fun hb => ?_) fun _ => .pure trivial))
   unfold L.zqkj at hb
   rw [wr_id (by omega)] at hb
   simp at hb
   omega
  ·intro _ _
   simp only [Sum.elim_inl]
   unfold L.zmqu.J1
   refine .bind' (.eq (containsFunc_int_int (P := fun x => L.zfct x) fun _ _ _ => rfl) ?_)
   rw [any_false]
   ·refine Ok.iteB (fun h => by cases h) fun _ => .bind (sums_okG hn h) fun r hr => ?_
    have he : r.come = r.leave := by
     refine Arr.ext' (List.ext_getElem (by rw [r.come.h, r.leave.h]) fun i a b => ?_)
     have := hr.diff i (by rw [← r.come.h]; exact a)
     rw [val_get (gq a), val_get (gq b)] at this
     omega
    refine Ok.iteN (fun hb => ?_) fun _ => .bind (order_okG hn h) fun r hr => Ok.iteD (fun hb => ?_) fun _ => .pure rfl
    ·simp [he] at hb
    ·omega
   ·intro k x hx
    have := h.prt k x hx
    unfold L.zfct L.zqkj
    rw [wr_id (by omega)]
    simp; omega
 obtain ⟨r, h, rfl⟩ := this
 exact h
def sumN : Nat → (Nat → Int) → Int
 | 0, _ => 0
 | n + 1, f => sumN n f + f n
theorem sumN_congr {f g : Nat → Int} : ∀ {n : Nat}, (∀ i, i < n → f i = g i) → sumN n f = sumN n g
 | 0, _ => rfl
 | n + 1, h => by simp only [sumN]; rw [sumN_congr fun i hi => h i (by omega), h n (by omega)]
theorem sumN_upd {f g : Nat → Int} {k : Nat} (h : ∀ i, i ≠ k → g i = f i) : ∀ {n : Nat}, k < n → sumN n g = sumN n f + (g k - f k)
 | 0, hk => absurd hk (by omega)
 | n + 1, hk => by
  simp only [sumN]
  by_cases e : k = n
  ·subst e; rw [sumN_congr (f := g) (g := f) fun i hi => h i (by omega)]; omega
  ·rw [sumN_upd h (by omega : k < n), h n (by omega)]; omega
theorem sumN_le {f g : Nat → Int} : ∀ {n : Nat}, (∀ i, i < n → f i ≤ g i) → sumN n f ≤ sumN n g
 | 0, _ => Int.le_refl _
 | n + 1, h => by have := sumN_le (n := n) fun i hi => h i (by omega); have := h n (by omega); simp only [sumN]; omega
theorem sumN_eq {f g : Nat → Int} : ∀ {n : Nat}, (∀ i, i < n → f i ≤ g i) → sumN n f = sumN n g → ∀ i, i < n → f i = g i
 | 0, _, _, i, hi => absurd hi (by omega)
 | n + 1, h, e, i, hi => by
  have h1 := sumN_le (n := n) fun i hi => h i (by omega)
  have h2 := h n (by omega)
  simp only [sumN] at e
  by_cases hin : i = n
  ·subst hin; omega
  ·exact sumN_eq (n := n) (fun i hi => h i (by omega)) (by omega) i (by omega)
theorem sumN_zero {f : Nat → Int} {n : Nat} (h : ∀ i, i < n → f i = 0) : sumN n f = 0 := by
 induction n with
 | zero => rfl
 | succ n ih => simp only [sumN]; rw [ih fun i hi => h i (by omega), h n (by omega)]; rfl
theorem sumN_add (f g : Nat → Int) : ∀ n, sumN n (fun i => f i + g i) = sumN n f + sumN n g
 | 0 => rfl
 | n + 1 => by simp only [sumN]; rw [sumN_add f g n]; omega
theorem sumN_list (l : List Int) : l.sum = sumN l.length fun i => l.getD i 0 := by
 induction l using snoc_ind with
 | h0 => rfl
 | h1 a x ih =>
  rw [List.sum_append, List.length_append, List.length_singleton]
  simp only [sumN]
  rw [ih, sumN_congr (n := a.length) (f := fun i => (a ++ [x]).getD i 0) (g := fun i => a.getD i 0) fun i hi => by
   rw [List.getD_eq_getElem?_getD, List.getD_eq_getElem?_getD, List.getElem?_append_left hi]]
  congr 1
  simp
theorem sumN_shift (f : Nat → Int) : ∀ n, sumN (n + 1) f = f 0 + sumN n fun i => f (i + 1)
 | 0 => by simp [sumN]
 | n + 1 => by rw [sumN, sumN_shift f n]; simp only [sumN]; omega
def sel (i : Nat) : List Nat → List Int → List Int
 | c :: cs, x :: xs => if c = i then x :: sel i cs xs else sel i cs xs
 | _, _ => []
theorem sel_app (i : Nat) : ∀ (c d : List Nat) (X Y : List Int), c.length = X.length → sel i (c ++ d) (X ++ Y) = sel i c X ++ sel i d Y
 | [], d, [], Y, _ => by simp [sel]
 | [], _, _ :: _, _, h => by simp at h
 | _ :: _, _, [], _, h => by simp at h
 | c :: cs, d, x :: xs, Y, h => by
  simp only [List.cons_append, sel]
  rw [sel_app i cs d xs Y (by simpa using h)]
  split <;> simp
theorem sel_rep (i : Nat) (b : Int) : ∀ (d : List Nat), sel i d (List.replicate d.length b) = List.replicate (d.count i) b
 | [] => rfl
 | c :: cs => by
  rw [List.length_cons, List.replicate_succ]
  simp only [sel]
  rw [sel_rep i b cs, List.count_cons]
  by_cases h : c = i
  ·rw [if_pos h]; simp [h, List.replicate_succ]
  ·rw [if_neg h]; simp [h]
theorem sel_len (i : Nat) : ∀ (c : List Nat) (X : List Int), c.length = X.length → (sel i c X).length = c.count i
 | [], [], _ => rfl
 | [], _ :: _, h => by simp at h
 | _ :: _, [], h => by simp at h
 | c :: cs, x :: xs, h => by
  simp only [sel]
  have := sel_len i cs xs (by simpa using h)
  rw [List.count_cons]
  by_cases h : c = i
  ·rw [if_pos h]; simp [h, this]
  ·rw [if_neg h]; simp [h, this]
theorem sel_all (i : Nat) : ∀ (c : List Nat) (X : List Int), c.length = X.length → (∀ x, x ∈ c → x = i) → sel i c X = X
 | [], [], _, _ => rfl
 | [], _ :: _, h, _ => by simp at h
 | _ :: _, [], h, _ => by simp at h
 | c :: cs, x :: xs, h, hc => by
  simp only [sel]
  rw [if_pos (hc c (by simp)), sel_all i cs xs (by simpa using h) fun y hy => hc y (by simp [hy])]
theorem sel_mem {i : Nat} : ∀ {c : List Nat} {X : List Int} {b : Int}, b ∈ sel i c X → b ∈ X
 | [], _, _, h => by simp [sel] at h
 | _ :: _, [], _, h => by simp [sel] at h
 | c :: cs, x :: xs, b, h => by
  simp only [sel] at h
  split at h
  ·rcases List.mem_cons.1 h with rfl | h
   ·simp
   ·simp [sel_mem h]
  ·simp [sel_mem h]
theorem sel_sum (b : Int) (m : Nat) : ∀ (c : List Nat) (X : List Int), c.length = X.length → (∀ x, x ∈ c → x < m) → sumN m (fun i => ((sel i c X).count b : Int)) = (X.count b : Int)
 | [], [], _, _ => by rw [sumN_zero fun i _ => by simp [sel]]; simp
 | [], _ :: _, h, _ => by simp at h
 | _ :: _, [], h, _ => by simp at h
 | c :: cs, x :: xs, h, hc => by
  have ih := sel_sum b m cs xs (by simpa using h) fun y hy => hc y (by simp [hy])
  rw [sumN_upd (f := fun i => ((sel i cs xs).count b : Int)) (k := c) (fun i hi => by simp only [sel]; rw [if_neg (Ne.symm hi)]) (hc c (by simp)), ih]
  simp only [sel, if_pos]
  rw [List.count_cons, List.count_cons]
  omega
theorem count_sum (m : Nat) : ∀ (c : List Nat), (∀ x, x ∈ c → x < m) → sumN m (fun i => (c.count i : Int)) = (c.length : Int)
 | [], _ => by rw [sumN_zero fun i _ => by simp]; rfl
 | c :: cs, hc => by
  have ih := count_sum m cs fun y hy => hc y (by simp [hy])
  rw [sumN_upd (f := fun i => (cs.count i : Int)) (k := c) (fun i hi => by rw [List.count_cons]; simp [Ne.symm hi]) (hc c (by simp)), ih]
  rw [List.count_cons]; simp; omega
theorem dcheck_ok {R : List Int} {s : Int} (hl : R.length ≤ 64) (hr : ∀ (k : Nat) (x : Int), R[k]? = some x → 1 ≤ x ∧ x ≤ 1000) (hs : R.sum = s) (h1 : 1 ≤ s) : L.zaio R s = some 0 := by
 have : Ok (L.zaio R s) fun r => r = 0 := by
  unfold L.zaio
  refine Ok.iteD (fun h => by omega) fun _ => .bind' (.forL (fun k st => st = sumN k fun i => R.getD i 0) (fun _ => False) rfl ?_ ?_ (fun _ h => h.elim))
  ·rintro k x _ hx rfl
   have := hr k x hx
   unfold L.zaio.B2
   rw [if_neg (by simp; omega)]
   have hk := (gs hx).1
   have hb : ∀ k, k ≤ R.length → 0 ≤ (sumN k fun i => R.getD i 0) ∧ (sumN k fun i => R.getD i 0) ≤ 1000 * k := by
    intro k
    induction k with
    | zero => intro _; simp [sumN]
    | succ k ih =>
     intro h
     have h2 := ih (by omega)
     have h3 := hr k _ (gq (by omega))
     simp only [sumN]
     rw [List.getD_eq_getElem?_getD, gq (by omega : k < R.length)]
     dsimp only [Option.getD]
     omega
   have h2 := hb k (by omega)
   refine .pure ?_
   dsimp only [Sum.elim]
   rw [wr_id (by omega)]
   simp only [sumN]
   rw [List.getD_eq_getElem?_getD, hx]; rfl
  ·rintro _ rfl
   rw [← sumN_list, hs]
   unfold L.zaio.J1
   dsimp only [Sum.elim]
   rw [if_neg (by simp; omega), if_neg (by simp; omega)]
   exact .pure rfl
 obtain ⟨r, h1, rfl⟩ := this
 exact h1
structure Tb (R : List Int) (rt : Arr Int 64) (C : Nat → Int) (ct : Arr Int 64) : Prop where
 rate : ∀ (i : Nat) (x : Int), R[i]? = some x → rt.l[i]? = some x
 cnt : ∀ i, i < 64 → ct.l[i]? = some (C i)
theorem next_ok {R : List Int} {rt ct : Arr Int 64} {C : Nat → Int} (h : Tb R rt C ct) (hl : R.length ≤ 64) (hr : ∀ (k : Nat) (x : Int), R[k]? = some x → 1 ≤ x ∧ x ≤ 1000) (hC : ∀ i, i < R.length → 0 ≤ C i ∧ C i ≤ 1000)
  (hex : ∃ (i : Nat) (x : Int), R[i]? = some x ∧ C i < x) : Ok (L.zfrq ⟨(R.length : Int), rt, ct⟩) fun r => r.2 = ⟨(R.length : Int), rt, ct⟩ ∧ ∃ (b : Nat) (x : Int), r.1 = (b : Int) ∧ R[b]? = some x ∧ C b < x := by
 unfold L.zfrq
 refine .bind' (.chk (by dsimp only; omega) ?_)
 rw [show ((R.length : Int).toNat) = R.length by omega]
 refine .bind' (.forJ (fun k st => (k = 0 ∧ st = -1) ∨ ∃ (b : Nat) (rb : Int), st = (b : Int) ∧ R[b]? = some rb ∧ ∀ (j : Nat) (rj : Int), j < k → R[j]? = some rj → (C b + 1) * rj ≤ (C j + 1) * rb) (.inl ⟨rfl, rfl⟩) ?_ ?_)
 ·intro k st hk hI
  have hx : R[k]? = some R[k] := gq hk
  generalize R[k] = x at hx
  have hx1 := hr k x hx
  have hCk := hC k hk
  have yes : ∀ v, v = true → (∀ (j : Nat) (rj : Int), j < k → R[j]? = some rj → (C k + 1) * rj ≤ (C j + 1) * x) → Ok (L.zfrq.J4 k st v) fun st => (k + 1 = 0 ∧ st = -1) ∨ ∃ (b : Nat) (rb : Int), st = (b : Int) ∧ R[b]? = some rb ∧ ∀ (j : Nat) (rj : Int), j < k + 1 → R[j]? = some rj → (C b + 1) * rj ≤ (C j + 1) * rb := by
   rintro _ rfl hj
   refine .pure (.inr ⟨k, x, rfl, hx, fun j rj hj' hrj => ?_⟩)
   by_cases e : j = k
   ·subst e; rw [hx] at hrj; cases hrj; exact Int.le_refl _
   ·exact hj j rj (by omega) hrj
  unfold L.zfrq.B2
  refine .bind' (.eq (ix_nat (h.rate k x hx)) (Ok.iteD (fun _ => ?_) fun h => by dsimp only at h; omega))
  rcases hI with ⟨rfl, rfl⟩ | ⟨b, rb, rfl, hb, hm⟩
  ·exact Ok.iteD (fun _ => yes _ rfl fun j _ hj => absurd hj (by omega)) fun h => absurd (by omega) h
  ·refine Ok.iteD (fun h => by omega) fun _ => ?_
   have hbl := (gs hb).1
   have hrb := hr b rb hb
   have hCb := hC b hbl
   refine .bind' (.eq (ix_nat (h.cnt k (by omega))) (.bind' (.eq (ix_nat (h.rate b rb hb)) (.bind' (.eq (ix_nat (h.cnt b (by omega))) ?_)))))
   dsimp only
   have m1 : 0 ≤ (C k + 1) * rb ∧ (C k + 1) * rb ≤ 1001 * 1000 := ⟨Int.mul_nonneg (by omega) (by omega), Int.mul_le_mul (by omega) (by omega) (by omega) (by omega)⟩
   have m2 : 0 ≤ (C b + 1) * x ∧ (C b + 1) * x ≤ 1001 * 1000 := ⟨Int.mul_nonneg (by omega) (by omega), Int.mul_le_mul (by omega) (by omega) (by omega) (by omega)⟩
   rw [wr_id (by omega : _ ≤ C k + 1 ∧ _), wr_id (by omega : _ ≤ C b + 1 ∧ _), wr_id (by omega), wr_id (by omega)]
   by_cases hlt : (C k + 1) * rb < (C b + 1) * x
   ·refine yes _ (by simp [hlt]) fun j rj hj hrj => ?_
    have h1 := hm j rj hj hrj
    have hrj1 := hr j rj hrj
    have hCj := hC j (by omega)
    have h2 : (C k + 1) * rb * rj ≤ (C b + 1) * x * rj := Int.mul_le_mul_of_nonneg_right (by omega) (by omega)
    have h3 : (C b + 1) * rj * x ≤ (C j + 1) * rb * x := Int.mul_le_mul_of_nonneg_right h1 (by omega)
    have h4 : (C k + 1) * rj * rb ≤ (C j + 1) * x * rb := by
     rw [Int.mul_right_comm (C k + 1), Int.mul_right_comm (C j + 1)]
     rw [Int.mul_right_comm (C b + 1) rj] at h3
     omega
    exact Int.le_of_mul_le_mul_right h4 (by omega)
   ·unfold L.zfrq.J4
    rw [if_neg (by simp [hlt])]
    refine .pure (.inr ⟨b, rb, rfl, hb, fun j rj hj hrj => ?_⟩)
    by_cases e : j = k
    ·subst e; rw [hx] at hrj; cases hrj; omega
    ·exact hm j rj (by omega) hrj
 ·intro st hI
  obtain ⟨i, x, hi, hlt⟩ := hex
  have hil := (gs hi).1
  rcases hI with ⟨h0, _⟩ | ⟨b, rb, rfl, hb, hm⟩
  ·omega
  ·refine .pure ⟨rfl, b, rb, rfl, hb, ?_⟩
   have h1 := hm i x hil hi
   have hx := hr i x hi
   have hrb := hr b rb hb
   have h2 : (C i + 1) * rb ≤ x * rb := Int.mul_le_mul_of_nonneg_right (by omega) (by omega)
   have h3 : (C b + 1) * x ≤ rb * x := by rw [Int.mul_comm rb]; omega
   have := Int.le_of_mul_le_mul_right h3 (by omega)
   omega
end Go.Proofs.YtaliejncdnegeaaGreat
