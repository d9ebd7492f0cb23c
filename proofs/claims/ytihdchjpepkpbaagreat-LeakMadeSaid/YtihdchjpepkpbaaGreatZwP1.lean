/- Plain proofs. No condition. -/
import Derived.Test.YtihdchjpepkpbaaGreatZwP0
import Derived.Test.YtihdchjpepkpbaaGreatZwD
import Derived.Test.YtihdchjpepkpbaaGreatZwL3
import Derived.KernelRfl
import Derived.Test.YtihdchjpepkpbaaGreatZwB1
import Derived.ProofKit
import Derived.SizedLaws
import Derived.Carry
set_option maxRecDepth 100000
namespace Go.Proofs.YtihdchjpepkpbaaGreat
set_option linter.unusedVariables false
set_option linter.unusedSimpArgs false
open Go.Aw
def InAll (s : List Li) (a : List Bool) (k : Nat) (x : Int) : Prop := ∀ (j : Nat) (l : Li), j < k → a[j]? = some true → s[j]? = some l → x ∈ l
def NoAl (a : List Bool) (k : Nat) : Prop := ∀ j, j < k → a[j]? ≠ some true
theorem Gh {s : List Li} {a : List Bool} {k : Nat} {x : Int} {l : Li} (hl : s[k]? = some l) : InAll s a (k + 1) x ↔ InAll s a k x ∧ (a[k]? = some true → x ∈ l) := by
 refine ⟨fun h => ⟨fun j l O => h j l (by omega), fun M => h k l (by omega) M hl⟩, fun h j W O M G => ?_⟩
 by_cases e : j = k
 ·subst e; rw [hl] at G; cases G; exact h.2 M
 ·exact h.1 j W (by omega) M G
theorem F6 {a : List Bool} {k : Nat} : NoAl a (k + 1) ↔ NoAl a k ∧ a[k]? ≠ some true := by
 refine ⟨fun h => ⟨fun j G => h j (by omega), h k (by omega)⟩, fun h j G => ?_⟩
 by_cases e : j = k
 ·subst e; exact h.2
 ·exact h.1 j (by omega)
theorem eK (x : Int) (l : Li) : Mv x l = some (!decide (x ∈ l)) := by
 unfold Mv
 rw [Ri]; rfl
theorem Vx {s : List Li} {a : List Bool} (hal : a.length = s.length) (hs : s.length ≤ 64) (hl : ∀ l, l ∈ s → l.length ≤ 32) : Ok (Gz s a) fun r => r.2 = 0 ∧ r.1.Pairwise (· < ·) ∧ r.1.length ≤ 32 ∧ ∀ x, x ∈ r.1 ↔ ¬ NoAl a s.length ∧ InAll s a s.length x := by
 unfold Gz
 refine C3 (fun h => absurd (by omega) h) fun _ => Au (fun h => by omega) fun _ => .bind' (.eq Gq ?_)
 have : s.any G1 = false := by
  rw [List.any_eq_false]
  intro l hm
  have := hl l hm
  unfold G1; simp; omega
 rw [show (s.any fun x => G1 x) = false from this]
 unfold Gz.J1
 refine Av (fun h => by cases h) fun _ => .bind (.forS (fun k (st : Li × Bool) => st.1.length ≤ 32 ∧ (st.2 = true ↔ NoAl a k) ∧ ∀ x, x ∈ st.1 ↔ ¬ NoAl a k ∧ InAll s a k x)
  ⟨by simp, ⟨fun _ j h => absurd h (Nat.not_lt_zero _), fun _ => rfl⟩, fun x => ⟨fun h => by simp at h, fun h => absurd (fun j h => absurd h (Nat.not_lt_zero _)) h.1⟩⟩ ?_ fun st h => h) ?_
 ·rintro k l ⟨G, first⟩ hk ⟨Z, h2, W⟩
  dsimp only at Z h2 W
  have hkl := (gs hk).1
  have hll := hl l (mg hk)
  have M : a[k]? = some (a[k]'(by omega)) := gq _
  unfold Gz.B3
  refine .bind' (.eq (Bb M) (Fm (fun hp => ?_) fun hp => ?_))
  ·dsimp only at hp
   rw [hp] at M
   unfold Gz.J4
   have hn : a[k]? ≠ some true := by rw [M]; simp
   refine .pure ⟨Z, h2.trans ⟨fun h => F6.2 ⟨h, hn⟩, fun h => (F6.1 h).1⟩, fun x => ?_⟩
   dsimp only
   rw [W, Gh hk, F6]
   exact ⟨fun h => ⟨fun Y => h.1 Y.1, h.2, fun Y => absurd Y hn⟩, fun h => ⟨fun Y => h.1 ⟨Y, hn⟩, h.2.1⟩⟩
  ·dsimp only at hp
   rw [hp] at M
   have nn : ¬ NoAl a (k + 1) := fun h => (F6.1 h).2 M
   refine Av (fun X => ?_) fun X => ?_
   ·dsimp only at X
    unfold P8
    refine .bind' (.app (by simp; omega) ?_)
    unfold Gz.J4
    have O := h2.1 X
    refine .pure ⟨by simpa using hll, ⟨fun h => (by cases h), fun h => absurd h nn⟩, fun x => ?_⟩
    dsimp only
    rw [List.nil_append, Gh hk]
    exact ⟨fun h => ⟨nn, fun j l hj ha' => absurd ha' (O j hj), fun _ => h⟩, fun h => h.2.2 M⟩
   ·dsimp only at X
    refine .bind' (.eq (cS (P := fun x => !decide (x ∈ l)) (by dsimp only; omega) fun x => eK x l) ?_)
    unfold Gz.J4
    have O : ¬ NoAl a k := fun h => by have := h2.2 h; rw [X] at this; cases this
    refine .pure ⟨Nat.le_trans (List.length_filter_le _ _) Z, ⟨fun h => (by dsimp only at h; rw [X] at h; cases h), fun h => absurd h nn⟩, fun x => ?_⟩
    dsimp only
    rw [List.mem_filter, W, Gh hk]
    simp only [Bool.not_not, decide_eq_true_eq]
    exact ⟨fun h => ⟨nn, h.1.2, fun _ => h.2⟩, fun h => ⟨⟨O, h.2.1⟩, h.2.2 M⟩⟩
 ·rintro ⟨G, first⟩ ⟨Z, _, W⟩
  dsimp only at Z W
  unfold Gz.J2 Ql Qp
  refine .pure ⟨rfl, T4 (Jk G), ?_, fun x => ?_⟩
  ·dsimp only
   have := Le (Lt G)
   rw [(Gd G).length_eq] at this
   omega
  ·dsimp only
   rw [S5 (Jk G), (Gd G).mem_iff, W]
theorem Zn {s : List Li} {a : List Bool} (hal : a.length = s.length) (hs : s.length ≤ 64) : Ok (H9 s a) fun r => ((∃ l, l ∈ s ∧ 32 < l.length) ∧ r = ([], 4)) ∨ ((∀ l, l ∈ s → l.length ≤ 32) ∧ r.2 = 0 ∧ r.1.Pairwise (· < ·) ∧ ∀ x, x ∈ r.1 ↔ ¬ NoAl a s.length ∧ InAll s a s.length x) := by
 unfold H9
 refine C3 (fun h => absurd (by omega) h) fun _ => Au (fun h => by omega) fun _ => ?_
 refine .bind (Q := fun o : (Li × Int) ⊕ Int => ((∃ l, l ∈ s ∧ 32 < l.length) ∧ o = .inl ([], 4)) ∨ ((∀ l, l ∈ s → l.length ≤ 32) ∧ ((o = .inr (-1) ∧ NoAl a s.length) ∨ ∃ f : Nat, o = .inr (f : Int) ∧ f < s.length ∧ a[f]? = some true)))
  (.loop (fun G : Int × Int => ∃ k : Nat, G.2 = (k : Int) ∧ k ≤ s.length ∧ (∀ (j : Nat) (l : Li), j < k → s[j]? = some l → l.length ≤ 32) ∧ ((G.1 = -1 ∧ NoAl a k) ∨ ∃ f : Nat, G.1 = (f : Int) ∧ f < k ∧ a[f]? = some true)) (fun G => s.length + 1 - G.2.toNat)
   ⟨0, rfl, Nat.zero_le _, fun j l h => absurd h (Nat.not_lt_zero _), .inl ⟨rfl, fun j h => absurd h (Nat.not_lt_zero _)⟩⟩ (by dsimp only; omega) ?_) ?_
 ·rintro ⟨first, _⟩ ⟨k, rfl, hk, hb, hf⟩
  dsimp only at hf
  unfold H9.B9
  dsimp only
  refine Au (fun hc => ?_) fun hc => .pure ?_
  ·have hx : s[k]? = some (s[k]'(by omega)) := gq _
   have O : a[k]? = some (a[k]'(by omega)) := gq _
   refine .bind' (.eq (Bb hx) (Au (fun W => .pure (.inl ⟨⟨_, mg hx, by dsimp only at W; omega⟩, rfl⟩)) fun W => .bind' (.eq (Bb O) ?_)))
   dsimp only at W ⊢
   have hb' : ∀ (j : Nat) (l : Li), j < k + 1 → s[j]? = some l → l.length ≤ 32 := fun j l hj hl => by
    by_cases e : j = k
    ·subst e; rw [hx] at hl; cases hl; omega
    ·exact hb j l (by omega) hl
   have fin : ∀ z : Int, ((z = -1 ∧ NoAl a (k + 1)) ∨ ∃ f : Nat, z = (f : Int) ∧ f < k + 1 ∧ a[f]? = some true) → Ok (H9.J10 (first, (k : Int)) z) (Sum.elim (fun G : Int × Int => (∃ k : Nat, G.2 = (k : Int) ∧ k ≤ s.length ∧ (∀ (j : Nat) (l : Li), j < k → s[j]? = some l → l.length ≤ 32) ∧ ((G.1 = -1 ∧ NoAl a k) ∨ ∃ f : Nat, G.1 = (f : Int) ∧ f < k ∧ a[f]? = some true)) ∧ s.length + 1 - G.2.toNat < s.length + 1 - (k : Int).toNat)
     fun o : (Li × Int) ⊕ Int => ((∃ l, l ∈ s ∧ 32 < l.length) ∧ o = .inl ([], 4)) ∨ ((∀ l, l ∈ s → l.length ≤ 32) ∧ ((o = .inr (-1) ∧ NoAl a s.length) ∨ ∃ f : Nat, o = .inr (f : Int) ∧ f < s.length ∧ a[f]? = some true))) := by
    intro z hz
    unfold H9.J10
    refine .pure ⟨⟨k + 1, ?_, by omega, hb', hz⟩, ?_⟩
    ·dsimp only; rw [As (by omega)]; rfl
    ·dsimp only; rw [As (by omega)]; omega
   refine Av (fun hp => ?_) fun hp => ?_
   ·rw [hp] at O
    unfold H9.J11
    refine Au (fun hn => fin _ (.inr ⟨k, rfl, by omega, O⟩)) fun hn => fin _ ?_
    rcases hf with ⟨e, _⟩ | ⟨f, e, h1, h2⟩
    ·omega
    ·exact .inr ⟨f, e, by omega, h2⟩
   ·rw [hp] at O
    unfold H9.J11
    refine Av (fun h => by cases h) fun _ => fin _ ?_
    rcases hf with ⟨e, h⟩ | ⟨f, e, h1, h2⟩
    ·exact .inl ⟨e, F6.2 ⟨h, by rw [O]; simp⟩⟩
    ·exact .inr ⟨f, e, by omega, h2⟩
  ·have hkn : k = s.length := by omega
   subst hkn
   refine .inr ⟨fun l hl => ?_, ?_⟩
   ·obtain ⟨j, hj⟩ := List.getElem?_of_mem hl
    exact hb j l (gs hj).1 hj
   ·rcases hf with ⟨e, h⟩ | ⟨f, e, h1, h2⟩
    ·exact .inl ⟨by rw [e], h⟩
    ·exact .inr ⟨f, by rw [e], h1, h2⟩
 rintro _ (⟨hb, rfl⟩ | ⟨hb, ⟨rfl, hno⟩ | ⟨f, rfl, hf, hfa⟩⟩)
 ·exact .pure (.inl ⟨hb, rfl⟩)
 ·simp only [Sum.elim_inr]
  unfold H9.J1
  refine Au (fun _ => .pure (.inr ⟨hb, rfl, by simp, fun x => ⟨fun h => by simp at h, fun h => absurd hno h.1⟩⟩)) fun h => by omega
 ·simp only [Sum.elim_inr]
  have hno : ¬ NoAl a s.length := fun h => h f hf hfa
  unfold H9.J1
  refine Au (fun h => by omega) fun _ => ?_
  obtain ⟨sf, hsf⟩ : ∃ sf, s[f]? = some sf := ⟨_, gq hf⟩
  have hsl := hb sf (mg hsf)
  refine .bind (Q := fun d : Li => d.Pairwise (· < ·) ∧ ∀ x, x ∈ d ↔ x ∈ sf ∧ InAll s a s.length x) (.loop (fun G : Li × Int => ∃ i : Nat, G.2 = (i : Int) ∧ i ≤ sf.length ∧ G.1.length ≤ i ∧ G.1.Pairwise (· < ·) ∧ ∀ x, x ∈ G.1 ↔ x ∈ sf.take i ∧ InAll s a s.length x) (fun G => sf.length + 1 - G.2.toNat)
   ⟨0, rfl, Nat.zero_le _, by simp, by simp, by simp⟩ (by dsimp only; omega) ?_) ?_
  ·rintro ⟨Z, _⟩ ⟨i, rfl, hi, ho, hp, hm⟩
   dsimp only at ho hp hm
   unfold H9.B3
   refine .bind' (.eq (Bb hsf) (Au (fun hc => ?_) fun hc => .pure ⟨hp, fun x => ?_⟩))
   ·dsimp only at hc ⊢
    obtain ⟨x, hx⟩ : ∃ x, sf[i]? = some x := ⟨_, gq (by omega)⟩
    have htk : sf.take (i + 1) = sf.take i ++ [x] := by rw [List.take_add_one, hx]; rfl
    refine .bind' (.eq (Bb hx) (.bind (Q := fun b : Bool => b = true ↔ InAll s a s.length x) (.loop (fun G : Bool × Int => ∃ k : Nat, G.2 = (k : Int) ∧ k ≤ s.length ∧ (G.1 = true ↔ InAll s a k x)) (fun G => s.length + 1 - G.2.toNat) ⟨0, rfl, Nat.zero_le _, fun _ j l h => absurd h (Nat.not_lt_zero _), fun _ => rfl⟩ (by dsimp only; omega) ?_) ?_))
    ·rintro ⟨b, _⟩ ⟨k, rfl, hk, X⟩
     dsimp only at X
     unfold H9.B7
     dsimp only
     refine Au (fun hc => ?_) fun hc => .pure (by have : k = s.length := (by omega); subst this; exact X)
     have hl : s[k]? = some (s[k]'(by omega)) := gq _
     have O : a[k]? = some (a[k]'(by omega)) := gq _
     have j8 : ∀ c : Bool, (c = true ↔ InAll s a (k + 1) x) → Ok (H9.J8 (b, (k : Int)) c) (Sum.elim (fun G : Bool × Int => (∃ k : Nat, G.2 = (k : Int) ∧ k ≤ s.length ∧ (G.1 = true ↔ InAll s a k x)) ∧ s.length + 1 - G.2.toNat < s.length + 1 - (k : Int).toNat) fun b : Bool => b = true ↔ InAll s a s.length x) := by
      intro c hcc
      unfold H9.J8
      refine .pure ⟨⟨k + 1, ?_, by omega, hcc⟩, ?_⟩
      ·dsimp only; rw [As (by omega)]; rfl
      ·dsimp only; rw [As (by omega)]; omega
     rw [Gh hl] at j8
     refine Av (fun M => .bind' (.eq (Bb O) (Fm (fun Y => ?_) fun Y => .bind' (.eq (Bb hl) (.bind' (.eq (dV (by have := hb _ (mg hl); dsimp only; omega)) ?_)))))) fun M => ?_
     ·dsimp only at Y
      rw [Y] at O
      exact j8 _ ⟨fun _ => ⟨X.1 M, fun h => by rw [O] at h; cases h⟩, fun _ => rfl⟩
     ·dsimp only at Y
      rw [Y] at O
      refine j8 _ ?_
      rw [decide_eq_true_eq]
      exact ⟨fun h => ⟨X.1 M, fun _ => h⟩, fun h => h.2 O⟩
     ·exact j8 _ ⟨fun h => (by cases h), fun h => by have := X.2 h.1; rw [M] at this; cases this⟩
    ·intro b hbb
     have j4 : ∀ o : Li, o.length ≤ i + 1 → o.Pairwise (· < ·) → (∀ z, z ∈ o ↔ z ∈ sf.take (i + 1) ∧ InAll s a s.length z) → Ok (H9.J4 (Z, (i : Int)) o) (Sum.elim (fun G : Li × Int => (∃ i : Nat, G.2 = (i : Int) ∧ i ≤ sf.length ∧ G.1.length ≤ i ∧ G.1.Pairwise (· < ·) ∧ ∀ x, x ∈ G.1 ↔ x ∈ sf.take i ∧ InAll s a s.length x) ∧ sf.length + 1 - G.2.toNat < sf.length + 1 - (i : Int).toNat) fun d : Li => d.Pairwise (· < ·) ∧ ∀ x, x ∈ d ↔ x ∈ sf ∧ InAll s a s.length x) := by
      intro o g1 g2 g3
      unfold H9.J4
      refine .pure ⟨⟨i + 1, ?_, by omega, g1, g2, g3⟩, ?_⟩
      ·dsimp only; rw [As (by omega)]; rfl
      ·dsimp only; rw [As (by omega)]; omega
     have stay : (InAll s a s.length x → x ∈ Z) → Ok (H9.J6 (Z, (i : Int)) (i, x) false) (Sum.elim (fun G : Li × Int => (∃ i : Nat, G.2 = (i : Int) ∧ i ≤ sf.length ∧ G.1.length ≤ i ∧ G.1.Pairwise (· < ·) ∧ ∀ x, x ∈ G.1 ↔ x ∈ sf.take i ∧ InAll s a s.length x) ∧ sf.length + 1 - G.2.toNat < sf.length + 1 - (i : Int).toNat) fun d : Li => d.Pairwise (· < ·) ∧ ∀ x, x ∈ d ↔ x ∈ sf ∧ InAll s a s.length x) := by
      intro hin
      unfold H9.J6
      refine Av (fun h => by cases h) fun _ => j4 Z (by omega) hp fun z => ?_
      rw [hm, htk, List.mem_append, List.mem_singleton]
      exact ⟨fun h => ⟨.inl h.1, h.2⟩, fun h => h.1.elim (fun h' => ⟨h', h.2⟩) fun e => by subst e; exact (hm _).1 (hin h.2)⟩
     unfold H9.J5
     refine Av (fun M => .bind' (.eq (dV (by dsimp only; omega)) ?_)) fun M => stay fun h => by have := hbb.2 h; rw [M] at this; cases this
     dsimp only
     by_cases hxo : x ∈ Z
     ·simp only [hxo, decide_true, Bool.not_true]
      exact stay fun _ => hxo
     ·simp only [hxo, decide_false, Bool.not_false]
      unfold H9.J6
      refine Av (fun _ => .bind (fR (by dsimp only; omega) hp hxo) fun o ho' => j4 o (by have := ho'.2.2; dsimp only at this; omega) ho'.1 fun z => ?_) fun h => by cases h
      rw [ho'.2.1, hm, htk, List.mem_append, List.mem_singleton]
      have hxi := hbb.1 M
      exact ⟨fun h => h.elim (fun e => ⟨.inr e, e ▸ hxi⟩) fun h => ⟨.inl h.1, h.2⟩, fun h => h.1.elim (fun h' => .inr ⟨h', h.2⟩) .inl⟩
   ·dsimp only at hc ⊢
    have : i = sf.length := by omega
    subst this
    rw [hm, List.take_length]
  ·rintro d ⟨h1, h2⟩
   unfold H9.J2
   refine .pure (.inr ⟨hb, rfl, h1, fun x => ?_⟩)
   dsimp only
   rw [h2]
   exact ⟨fun h => ⟨hno, h.2⟩, fun h => ⟨h.2 f sf hf hfa hsf, h.2⟩⟩
theorem Zo {s : List Li} {a : List Bool} : ∃ r, Gz s a = some r ∧ H9 s a = some r ∧ r.1.length ≤ 32 := by
 by_cases M : a.length = s.length
 case neg =>
  have G : ((a.length : Int) != (s.length : Int)) = true := by simpa using fun h => M (by omega)
  refine ⟨([], 9), ?_, ?_, by simp⟩
  ·unfold Gz; rw [if_pos G]
  ·unfold H9; rw [if_pos G]
 have G : ¬ ((a.length : Int) != (s.length : Int)) = true := by simp [M]
 by_cases hs : s.length ≤ 64
 case neg =>
  have O : decide ((s.length : Int) > 64) = true := by simp; omega
  refine ⟨([], 4), ?_, ?_, by simp⟩
  ·unfold Gz Gz.J1; rw [if_neg G, if_pos O]; rfl
  ·unfold H9; rw [if_neg G, if_pos O]
 have O : ¬ decide ((s.length : Int) > 64) = true := by simp; omega
 obtain ⟨r, h1, h2⟩ := Zn M hs
 rcases h2 with ⟨⟨l, hl, hb⟩, rfl⟩ | ⟨hb, W, X, Y⟩
 ·refine ⟨([], 4), ?_, h1, by simp⟩
  unfold Gz Gz.J1
  rw [if_neg G, if_neg O, Gq, Option.bind_some, if_pos]
  exact List.any_eq_true.2 ⟨l, hl, by unfold G1; simp; omega⟩
 ·obtain ⟨⟨b, y⟩, g1, Z, g3, g4, g5⟩ := Vx M hs hb
  obtain ⟨c, z⟩ := r
  dsimp only at W X Y Z g3 g4 g5
  subst W; subst Z
  have : b = c := Vf g3 X fun x => (g5 x).trans (Y x).symm
  subst this
  exact ⟨_, g1, h1, g4⟩
theorem Jd {α : Type} {P : Nat → α → Prop} {l : List α} {x : α} (h : ∀ k s, l[k]? = some s → P k s) (O : P l.length x) : ∀ k s, (l ++ [x])[k]? = some s → P k s := by
 intro k s G
 rw [List.getElem?_append] at G
 split at G
 ·exact h k s G
 ·have M := (gs G).1
  simp at M
  have : k = l.length := by omega
  subst this
  simp at G; subst G; exact O
theorem Zh {α : Type} {f : α → Int} {l : List α} {x : α} (h : ∀ (i j : Nat) (p q : α), i < j → l[i]? = some p → l[j]? = some q → f p < f q) (X : ∀ (k : Nat) (p : α), l[k]? = some p → f p < f x) :
  ∀ (i j : Nat) (p q : α), i < j → (l ++ [x])[i]? = some p → (l ++ [x])[j]? = some q → f p < f q := by
 intro i j p q M O G
 have W := (gs G).1
 simp at W
 rw [List.getElem?_append_left (by omega)] at O
 rw [List.getElem?_append] at G
 split at G
 ·exact h i j p q M O G
 ·have : j = l.length := by omega
  subst this
  simp at G; subst G; exact X i p O
structure PortsInv (nodes : Nat) (i : Int) (ports : List Port) (sts : List Station) : Prop where
 i0 : 0 ≤ i ∧ i ≤ (nodes : Int)
 pl : (ports.length : Int) ≤ i
 p1 : 0 < i → 1 ≤ ports.length
 p2 : i = (nodes : Int) → 2 ≤ ports.length
 po : ∀ k s, ports[k]? = some s → PortOk nodes k s ∧ s.Node < i
 pu : ∀ (i j : Nat) (p q : Port), i < j → ports[i]? = some p → ports[j]? = some q → p.Node < q.Node
 sl : (sts.length : Int) ≤ i
 so : ∀ k s, sts[k]? = some s → StOk nodes k s ∧ s.Node < i
 su : ∀ (i j : Nat) (p q : Sn), i < j → sts[i]? = some p → sts[j]? = some q → p.Node < q.Node
theorem eQ {s : Uk} (Z : SrcOk s) : Ok (Qm s) fun r => NetOk r.1 ∧ SrcOk r.2 := by
 unfold Qm
 refine .bind (Br Z (by decide) (by decide)) fun r5 h5 => ?_
 refine .bind (Br h5.1 (by decide) (by decide)) fun r8 h8 => ?_
 refine .bind (Fb h8.1 (by decide) (by decide) (by decide)) fun r650 h650 => ?_
 have c5 := h5.2; have c8 := h8.2
 simp only [List.mem_cons, List.not_mem_nil, or_false] at c5 c8
 refine .bind (Q := fun d : Li × Int × List Bt => SrcOk ⟨d.1, d.2.1⟩ ∧ (2 ≤ d.2.2.length ∧ d.2.2.length ≤ 6) ∧ ∀ k x, d.2.2[k]? = some x → x = nm 110 k) ?_ ?_
 ·refine .loop (fun G : List Bt × Int => 0 ≤ G.2 ∧ (G.1.length : Int) + G.2 = r650.1 ∧ ∀ k x, G.1[k]? = some x → x = nm 110 k) (fun G => G.2.toNat) ⟨by dsimp only; omega, by simp, by simp⟩ (by dsimp only; omega) ?_
  rintro ⟨nodes, c⟩ ⟨Y, i2, i3⟩
  dsimp only at Y i2 i3
  unfold Qm.B12
  refine Au (fun h => ?_) fun h => .pure ⟨h650.1, by dsimp only at h ⊢; omega, i3⟩
  dsimp only at h ⊢
  refine .bind' (.eq (Lq (by omega)) (.bind' (.app (by simp; omega) (.pure ?_))))
  rw [As (by omega)]
  exact ⟨⟨by dsimp only; omega, by simp; omega, Jd i3 rfl⟩, by dsimp only; omega⟩
 rintro ⟨L_, At, nodes⟩ ⟨Z, hn, hnm⟩
 dsimp only at Z hn hnm
 unfold Qm.J1
 refine .bind (Q := fun d : Li × Int × List Sg => SrcOk ⟨d.1, d.2.1⟩ ∧ d.2.2.length = nodes.length - 1 ∧ ∀ k x, d.2.2[k]? = some x → SegOk nodes.length k x) ?_ ?_
 ·refine .loop (fun G : Li × Int × List Sg × Int => SrcOk ⟨G.1, G.2.1⟩ ∧ (G.2.2.1.length : Int) = G.2.2.2 ∧ G.2.2.1.length ≤ nodes.length - 1 ∧ ∀ k x, G.2.2.1[k]? = some x → SegOk nodes.length k x) (fun G => nodes.length - G.2.2.1.length) ⟨Z, by simp, by simp, by simp⟩ (by dsimp only; omega) ?_
  rintro ⟨L_, At, ab, i⟩ ⟨Y, i2, i3, i4⟩
  dsimp only at Y i2 i3 i4
  unfold Qm.B11
  dsimp only
  simp (disch := omega) only [As]
  refine Au (fun h => ?_) fun h => .pure ⟨Y, by dsimp only; omega, i4⟩
  refine .bind (Y6 Y (nodes := nodes.length) (by omega) (by omega) (by omega) (by omega)) fun r641 h641 => ?_
  refine .bind' (.app (by simp; omega) (.pure ⟨⟨h641.2, by simp; omega, by simp; omega, Jd i4 h641.1⟩, by simp; omega⟩))
 rintro ⟨L_, At, ab⟩ ⟨Z, hsl, aa⟩
 dsimp only at Z hsl aa
 unfold Qm.J2
 refine .bind (Ee Z (by decide) (by decide)) fun r531 h531 => ?_
 refine .bind (Q := fun d : Li × Int × List Sg => SrcOk ⟨d.1, d.2.1⟩ ∧ (nodes.length - 1 ≤ d.2.2.length ∧ d.2.2.length ≤ 8) ∧ ∀ k x, d.2.2[k]? = some x → SegOk nodes.length k x) ?_ ?_
 ·refine .loop (fun G : Li × Int × List Sg × Int => SrcOk ⟨G.1, G.2.1⟩ ∧ 0 ≤ G.2.2.2 ∧ (G.2.2.1.length : Int) + G.2.2.2 ≤ 8 ∧ nodes.length - 1 ≤ G.2.2.1.length ∧ ∀ k x, G.2.2.1[k]? = some x → SegOk nodes.length k x) (fun G => G.2.2.2.toNat)
   ⟨h531.1, h531.2.1, by dsimp only; omega, by dsimp only; omega, aa⟩ (by dsimp only; omega) ?_
  rintro ⟨L_, At, ab, i⟩ ⟨Y, i2, i3, i4, i5⟩
  dsimp only at Y i2 i3 i4 i5
  unfold Qm.B10
  dsimp only
  simp (disch := omega) only [As]
  refine Au (fun h => ?_) fun h => .pure ⟨Y, by dsimp only; omega, i5⟩
  refine .bind (Ee Y (by omega) (by omega)) fun r589 h589 => ?_
  simp (disch := omega) only [As]
  refine .bind (Fb h589.1 (by omega) (by omega) (by omega)) fun r591 h591 => ?_
  refine .bind (Y6 h591.1 (nodes := nodes.length) (by omega) (by omega) (by omega) (by omega)) fun r593 h593 => ?_
  refine .bind' (.app (by simp; omega) (.pure ⟨⟨h593.2, by dsimp only; omega, by simp; omega, by simp; omega, Jd i5 h593.1⟩, by dsimp only; omega⟩))
 rintro ⟨L_, At, ab⟩ ⟨Z, hsl, aa⟩
 dsimp only at Z hsl aa
 unfold Qm.J3
 refine .bind (Q := fun d : Li × Int × List Port × List Sn => SrcOk ⟨d.1, d.2.1⟩ ∧ PortsInv nodes.length (nodes.length : Int) d.2.2.1 d.2.2.2) ?_ ?_
 ·refine .loop (fun G : Li × Int × List Port × List Sn × Int => SrcOk ⟨G.1, G.2.1⟩ ∧ PortsInv nodes.length G.2.2.2.2 G.2.2.1 G.2.2.2.1) (fun G => nodes.length - G.2.2.2.2.toNat)
   ⟨Z, by dsimp only; omega, by simp, by simp, by dsimp only; omega, by simp, by simp, by simp, by simp, by simp⟩ (by dsimp only; omega) ?_
  rintro ⟨L_, At, X, ac, i⟩ ⟨Y, M⟩
  dsimp only at Y M
  have hi := M.i0
  have j6 : ∀ (j : Li × Int × List Port × List Sn), SrcOk ⟨j.1, j.2.1⟩ → PortsInv nodes.length (i + 1) j.2.2.1 j.2.2.2 → i < (nodes.length : Int) →
    Ok (Qm.J6 (L_, At, X, ac, i) j) (Sum.elim (fun G => (SrcOk ⟨G.1, G.2.1⟩ ∧ PortsInv nodes.length G.2.2.2.2 G.2.2.1 G.2.2.2.1) ∧ nodes.length - G.2.2.2.2.toNat < nodes.length - i.toNat) fun d => SrcOk ⟨d.1, d.2.1⟩ ∧ PortsInv nodes.length (nodes.length : Int) d.2.2.1 d.2.2.2) := by
   intro j h1 h2 h3
   unfold Qm.J6
   dsimp only
   rw [As (by omega)]
   exact .pure ⟨⟨h1, h2⟩, by dsimp only; omega⟩
  have j7 : ∀ (j : Li × Int × List Port), SrcOk ⟨j.1, j.2.1⟩ → ((∀ O, (O.length : Int) ≤ i + 1 → (∀ k s, O[k]? = some s → StOk nodes.length k s ∧ s.Node < i + 1) →
     (∀ (i j : Nat) (p q : Sn), i < j → O[i]? = some p → O[j]? = some q → p.Node < q.Node) → PortsInv nodes.length (i + 1) j.2.2 O)) → i < (nodes.length : Int) →
    Ok (Qm.J7 (L_, At, nodes) (L_, At, X, ac, i) j) (Sum.elim (fun G => (SrcOk ⟨G.1, G.2.1⟩ ∧ PortsInv nodes.length G.2.2.2.2 G.2.2.1 G.2.2.2.1) ∧ nodes.length - G.2.2.2.2.toNat < nodes.length - i.toNat) fun d => SrcOk ⟨d.1, d.2.1⟩ ∧ PortsInv nodes.length (nodes.length : Int) d.2.2.1 d.2.2.2) := by
   intro j h1 h2 h3
   have old := h2 ac (by have := M.sl; omega) (fun k s W => ⟨(M.so k s W).1, by have := (M.so k s W).2; omega⟩) M.su
   unfold Qm.J7
   refine Au (fun h => ?_) fun h => ?_
   ·refine .bind (Ee h1 (by decide) (by decide)) fun r507 h507 => ?_
    unfold Qm.J8
    refine Av (fun _ => ?_) fun _ => j6 (_, _, _, _) h507.1 old h3
    have hsl' := M.sl
    refine .bind' (.eq (Lq (by dsimp only; omega)) ?_)
    refine .bind (Br h507.1 (by decide) (by decide)) fun r493 h493 => ?_
    refine .bind (Br h493.1 (by decide) (by decide)) fun r496 h496 => ?_
    refine .bind (Br h496.1 (by decide) (by decide)) fun r499 h499 => ?_
    have c1 := h493.2; have c2 := h496.2; have c3 := h499.2
    simp only [List.mem_cons, List.not_mem_nil, or_false] at c1 c2 c3
    refine .bind' (.app (by simp; omega) (j6 (_, _, _, _) h499.1 (h2 _ (by simp; omega) ?_ ?_) h3))
    ·exact Jd (P := fun k s => StOk nodes.length k s ∧ s.Node < i + 1) (fun k s W => ⟨(M.so k s W).1, by have := (M.so k s W).2; omega⟩) ⟨⟨rfl, ⟨by dsimp only; omega, by dsimp only; omega⟩, by dsimp only; omega, by dsimp only; omega, by dsimp only; omega⟩, by dsimp only; omega⟩
    ·exact Zh (f := Station.Node) M.su fun k p W => (M.so k p W).2
   ·unfold Qm.J8
    refine Av (fun h => by cases h) fun _ => j6 (_, _, _, _) h1 old h3
  have j9 : ∀ (j : Li × Int × Bool), SrcOk ⟨j.1, j.2.1⟩ → (i = 0 ∨ i = (nodes.length : Int) - 1 → j.2.2 = true) → i < (nodes.length : Int) →
    Ok (Qm.J9 (L_, At, nodes) (L_, At, X, ac, i) j) (Sum.elim (fun G => (SrcOk ⟨G.1, G.2.1⟩ ∧ PortsInv nodes.length G.2.2.2.2 G.2.2.1 G.2.2.2.1) ∧ nodes.length - G.2.2.2.2.toNat < nodes.length - i.toNat) fun d => SrcOk ⟨d.1, d.2.1⟩ ∧ PortsInv nodes.length (nodes.length : Int) d.2.2.1 d.2.2.2) := by
   intro j h1 h2 h3
   have hpl := M.pl
   have hp1 := M.p1
   unfold Qm.J9
   refine Av (fun _ => ?_) fun hb => j7 (_, _, _) h1 (fun O q1 q2 q3 => ?_) h3
   ·refine .bind' (.eq (Lq (by dsimp only; omega)) ?_)
    refine .bind (Br h1 (by decide) (by decide)) fun r518 h518 => ?_
    have c1 := h518.2
    simp only [List.mem_cons, List.not_mem_nil, or_false] at c1
    refine .bind' (.app (by simp; omega) (j7 (_, _, _) h518.1 (fun O q1 q2 q3 => ⟨by omega, by simp; omega, by simp, fun _ => by simp; omega, ?_, ?_, q1, q2, q3⟩) h3))
    ·exact Jd (P := fun k s => PortOk nodes.length k s ∧ s.Node < i + 1) (fun k s W => ⟨(M.po k s W).1, by have := (M.po k s W).2; omega⟩) ⟨⟨rfl, ⟨by dsimp only; omega, by dsimp only; omega⟩, by dsimp only; omega⟩, by dsimp only; omega⟩
    ·exact Zh (f := Port.Node) M.pu fun k p W => (M.po k p W).2
   ·have hi0 : ¬ (i = 0 ∨ i = (nodes.length : Int) - 1) := fun h => by rw [h2 h] at hb; cases hb
    exact ⟨by omega, by dsimp only; omega, fun _ => by dsimp only; omega, fun _ => by omega, fun k s W => ⟨(M.po k s W).1, by have := (M.po k s W).2; omega⟩, M.pu, q1, q2, q3⟩
  unfold Qm.B5
  dsimp only
  rw [As (by omega)]
  refine Au (fun h => ?_) fun h => .pure ⟨Y, ?_⟩
  ·refine Ec (fun h0 => j9 (_, _, _) Y (fun _ => rfl) (by omega)) fun h0 => Ec (fun h1 => j9 (_, _, _) Y (fun _ => rfl) (by omega)) fun h1 => ?_
   refine .bind (Ee Y (by decide) (by decide)) fun r527 h527 => j9 (_, _, _) h527.1 (fun h => by omega) (by omega)
  ·have : i = (nodes.length : Int) := by omega
   rw [← this]; exact M
 rintro ⟨L_, At, X, ac⟩ ⟨Z, M⟩
 dsimp only at Z M
 unfold Qm.J4
 have := M.pl; have := M.sl
 exact .pure ⟨⟨hn, hnm, hsl, aa, ⟨M.p2 rfl, by dsimp only; omega⟩, fun k s W => (M.po k s W).1, M.pu, by dsimp only; omega, fun k s W => (M.so k s W).1, M.su, by dsimp only; omega, by dsimp only; omega⟩, Z⟩
theorem Sp : Qg = some true := by kernel_rfl
theorem H3 {l : Li} (hl : l.length ≤ 1000) : Kr l l = some true := by
 obtain ⟨b, O, rfl⟩ : Ok (Kr l l) fun b => b = true := by
  unfold Kr
  refine C3 (fun h => absurd rfl h) fun _ => .bind (Q := fun o : Bool ⊕ Unit => o = .inr ()) (.loop (fun G : Int => ∃ k : Nat, G = (k : Int) ∧ k ≤ l.length) (fun G => l.length + 1 - G.toNat) ⟨0, rfl, Nat.zero_le _⟩ (by omega) ?_) ?_
  ·rintro _ ⟨k, rfl, X⟩
   unfold Kr.B2
   refine Au (fun W => ?_) fun _ => .pure rfl
   have M : l[k]? = some (l[k]'(by omega)) := gq _
   refine .bind' (.eq (Bb M) (.bind' (.eq (Bb M) (C3 (fun h => absurd rfl h) fun _ => .pure ⟨⟨k + 1, ?_, by omega⟩, ?_⟩))))
   ·rw [As (by omega)]; rfl
   ·rw [As (by omega)]; omega
  ·rintro _ rfl
   exact .pure rfl
 exact O
theorem Ny {s : List Li} (hs : s.length ≤ 1000) (hl : ∀ l, l ∈ s → l.length ≤ 1000) : Mc s s = some true := by
 obtain ⟨b, W, rfl⟩ : Ok (Mc s s) fun b => b = true := by
  unfold Mc
  refine C3 (fun h => absurd rfl h) fun _ => .bind (Q := fun o : Bool ⊕ Unit => o = .inr ()) (.loop (fun G : Int => ∃ k : Nat, G = (k : Int) ∧ k ≤ s.length) (fun G => s.length + 1 - G.toNat) ⟨0, rfl, Nat.zero_le _⟩ (by omega) ?_) ?_
  ·rintro _ ⟨k, rfl, hk⟩
   unfold Mc.B2
   refine Au (fun X => ?_) fun _ => .pure rfl
   obtain ⟨l, M⟩ : ∃ l, s[k]? = some l := ⟨_, gq (by omega)⟩
   have Y := hl l (mg M)
   refine .bind' (.eq (Bb M) (.bind' (.eq (Bb M) (C3 (fun h => absurd rfl h) fun _ => .bind (Q := fun o : Bool ⊕ Unit => o = .inr ()) (.loop (fun G : Int => ∃ k : Nat, G = (k : Int) ∧ k ≤ l.length) (fun G => l.length + 1 - G.toNat) ⟨0, rfl, Nat.zero_le _⟩ (by omega) ?_) ?_))))
   ·rintro _ ⟨j, rfl, Z⟩
    unfold Mc.B4
    dsimp only
    refine Au (fun X => ?_) fun _ => .pure rfl
    have O : l[j]? = some (l[j]'(by omega)) := gq _
    refine .bind' (.eq (Bb O) (.bind' (.eq (Bb O) (C3 (fun h => absurd rfl h) fun _ => .pure ⟨⟨j + 1, ?_, by omega⟩, ?_⟩))))
    ·rw [As (by omega)]; rfl
    ·rw [As (by omega)]; omega
   ·rintro _ rfl
    simp only [Sum.elim_inr]
    unfold Mc.J3
    refine .pure ⟨⟨k + 1, ?_, by omega⟩, ?_⟩
    ·rw [As (by omega)]; rfl
    ·rw [As (by omega)]; omega
  ·rintro _ rfl
   exact .pure rfl
 exact W
theorem Qw {c : List Li} {G : List Bool} : Ok (P9.J6 (c, G)) fun x => x = true := by
 unfold P9.J6
 obtain ⟨r, M, O, W⟩ := Zo (s := c) (a := G)
 refine .bind' (.eq M (.bind' (.eq O (Av (fun _ => .bind' (.eq (H3 (by omega)) (Av (fun _ => .bind' (.eq Sp ?_)) fun h => by cases h))) fun h => by simp at h))))
 unfold P9.J7
 exact .pure rfl
theorem cM {M : Int} {a : Li} {b : Int} {no : List Bt} {Y : List Sg} {po : List Port} {Z : List Sn} {va X : Int} {ba : List Balance} {pk w t : Int} {W : List Bool} (hs : SrcOk ⟨a, b⟩) (hn : Sane ⟨no, Y, po, Z, va, X⟩) :
  Ok (P9.J3 M (a, b, no, Y, po, Z, va, X, ba, pk, w, t, W) false) fun x => x = true := by
 unfold P9.J3
 dsimp only
 obtain ⟨r, h1, h2, h3, h4⟩ := Sz hn W
 refine Av (fun h => by cases h) fun _ => .bind' (.eq h1 (.bind' (.eq h2 (C3 (fun h => absurd rfl h) fun _ => .bind' (.eq (Ny (by omega) fun l hl => by have := h4 l hl; omega) ?_)))))
 unfold P9.J4
 refine Av (fun h => by cases h) fun _ => .bind (Q := fun d : List Bool => d.length ≤ 32) (.loop (fun q : Li × Int × List Bool × Int => ∃ k : Nat, q.2.2.2 = (k : Int) ∧ k ≤ r.1.length ∧ SrcOk ⟨q.1, q.2.1⟩ ∧ q.2.2.1.length ≤ k) (fun q => r.1.length + 1 - q.2.2.2.toNat) ⟨0, rfl, Nat.zero_le _, hs, by simp⟩ (by dsimp only; omega) ?_) fun al hal => ?_
 ·rintro ⟨x, y, O, _⟩ ⟨k, rfl, hk, G, ho⟩
  dsimp only at G ho
  unfold P9.B8
  dsimp only
  refine Au (fun hc => .bind (Ee (s := ⟨x, y⟩) G (by decide) (by decide)) fun e he => .bind' (.app (by simp; omega) (.pure ⟨⟨k + 1, ?_, by omega, he.1, by simp; omega⟩, ?_⟩))) fun hc => .pure (show O.length ≤ 32 by omega)
  ·dsimp only; rw [As (by omega)]; rfl
  ·dsimp only; rw [As (by omega)]; omega
 ·unfold P9.J5
  refine .bind (Q := fun _ => True) (by unfold Ij; exact .bind (Tk _ (by decide) (by decide)) fun _ _ => .pure trivial) fun z _ => ?_
  exact Av (fun _ => .bind' (.app (by simp; omega) Qw)) fun _ => Av (fun _ => .bind' (.app (by omega) (.bind' (.app (by omega) Qw)))) fun _ => Qw
theorem Va {X : Int} {G : Accuracy × Uk} {M O : Int × Uk} {a : Li} {b : Int} {no : List Bt} {sg : List Sg} {po : List Port} {st : List Sn} {va Z : Int} {Y : List Balance} {W w t : Int} {me : List Bool} (hs : SrcOk ⟨a, b⟩) (hn : Sane ⟨no, sg, po, st, va, Z⟩) (hb : Y.length ≤ 1000) :
  Ok (P9.J2 X G M O (a, b, no, sg, po, st, va, Z, Y, W, w, t, me)) fun x => x = true := by
 unfold P9.J2
 dsimp only
 obtain ⟨p, a1, a2, a3⟩ := V2 hb ⟨G.1.Meter, W⟩ w t
 obtain ⟨q, b1, b2⟩ := Zu hb ⟨G.1.Meter, W⟩ w t
 obtain ⟨e, c1, c2⟩ := S4 hb ⟨G.1.Meter, W⟩ (wr (M.1 - 1)) (wr (O.1 - 1))
 refine .bind' (.eq a1 (.bind' (.eq a2 (.bind' (.eq b1 (.bind' (.eq b2 (.bind' (.eq c1 (.bind' (.eq c2 ?_)))))))))))
 refine C3 (fun h => absurd rfl h) fun _ => C3 (fun h => absurd rfl h) fun _ => C3 (fun h => absurd rfl h) fun _ => C3 (fun h => absurd rfl h) fun _ => C3 (fun h => absurd rfl h) fun _ => C3 (fun h => absurd rfl h) fun _ => .bind' (.eq (H3 (by omega)) ?_)
 exact cM hs hn
theorem S6 {s : Uk} (hs : SrcOk s) : Ok (Qq s 30) fun r => r.1.length ≤ 30 ∧ SrcOk r.2 := by
 unfold Qq
 refine .bind (Fb hs (by decide) (by decide) (by decide)) fun p hp => .bind (Br hp.1 (by simp) (by simp)) fun q hq => ?_
 rw [As (x := (30 : Int) + 1) (by omega)]
 refine .bind (Ee hq.1 (by decide) (by decide)) fun m X => .bind (Q := fun d : Li × Int × List Balance => SrcOk ⟨d.1, d.2.1⟩ ∧ d.2.2.length ≤ 30) (.loop (fun G : Li × Int × List Balance × Int × Int => SrcOk ⟨G.1, G.2.1⟩ ∧ 0 ≤ G.2.2.2.2 ∧ (G.2.2.1.length : Int) + G.2.2.2.2 ≤ 30) (fun G => G.2.2.2.2.toNat) ⟨X.1, X.2.1, by simp; omega⟩ (by dsimp only; omega) ?_) ?_
 ·rintro ⟨a, b, W, Y, n⟩ ⟨M, O, Z⟩
  dsimp only at M O Z
  unfold Qq.B2
  dsimp only
  refine Au (fun hc => .bind (Ee (s := ⟨a, b⟩) M (by decide) (by decide)) fun e he => ?_) fun hc => .pure ⟨M, by dsimp only; omega⟩
  rw [As (x := e.1 + 10) (by omega)]
  refine .bind (Ee he.1 (by omega) (by omega)) fun f hf => .bind (Ee hf.1 (by decide) (by decide)) fun g hg => .bind' (.app (by simp; omega) (.pure ⟨⟨hg.1, ?_, ?_⟩, ?_⟩))
  ·dsimp only; rw [As (x := n - 1) (by omega)]; omega
  ·dsimp only; rw [As (x := n - 1) (by omega)]; simp; omega
  ·dsimp only; rw [As (x := n - 1) (by omega)]; omega
 ·rintro ⟨a, b, W⟩ ⟨M, O⟩
  unfold Qq.J1
  exact .pure ⟨O, M⟩
theorem S7 {s : Uk} (O : SrcOk s) : Ok (P5 s) fun r => SrcOk r.2 := by
 unfold P5
 exact .bind (Br O (by simp) (by simp)) fun p G => .bind (Br G.1 (by simp) (by simp)) fun q M => .pure M.1
theorem NetOk.few {n : Nw} (h : NetOk n) : Few12 n := by
 have M := h.nodes; have O := h.segs1; have W := h.ports1; have X := h.sts1
 exact ⟨by omega, by omega, by omega, by omega, fun k s G => by have := (h.segs k s G).points.len; omega⟩
theorem Zv (l : Li) (O G Z aa : Int) : P9 l O G Z aa = some true := by
 have : Ok (P9 l O G Z aa) fun x => x = true := by
  unfold P9
  refine Fm (fun _ => .bind' (.eq Sp (.pure rfl))) fun _ => .bind (eP l) fun d hd => .bind (eQ hd) fun n hn => .bind (S6 hn.2) fun ba ab => .bind (S7 ab.2) fun ac hac => .bind (Ee hac (by decide) (by decide)) fun r22 h22 => .bind (Ee h22.1 (by decide) (by decide)) fun r24 h24 => .bind (Ee h24.1 (by decide) (by decide)) fun r27 h27 => .bind (Ee h27.1 (by decide) (by decide)) fun r29 h29 => ?_
  have M := hn.1.few
  have hno := hn.1.nodes
  refine .bind (Q := fun d : Li × Int × List Bool => SrcOk ⟨d.1, d.2.1⟩ ∧ d.2.2.length ≤ 6) (.loop (fun q : Li × Int × List Bool × Int => ∃ k : Nat, q.2.2.2 = (k : Int) ∧ k ≤ n.1.Nodes.length ∧ SrcOk ⟨q.1, q.2.1⟩ ∧ q.2.2.1.length ≤ k) (fun q => n.1.Nodes.length + 1 - q.2.2.2.toNat) ⟨0, rfl, Nat.zero_le _, h29.1, by simp⟩ (by dsimp only; omega) ?_) ?_
  ·rintro ⟨x, y, out, _⟩ ⟨k, rfl, hk, Y, ho⟩
   dsimp only at Y ho
   unfold P9.B9
   dsimp only
   refine Au (fun hc => .bind (Ee (s := ⟨x, y⟩) Y (by decide) (by decide)) fun e he => .bind' (.app (by simp; omega) (.pure ⟨⟨k + 1, ?_, by omega, he.1, by simp; omega⟩, ?_⟩))) fun hc => .pure ⟨Y, by dsimp only; omega⟩
   ·dsimp only; rw [As (by omega)]; rfl
   ·dsimp only; rw [As (by omega)]; omega
  rintro ⟨a, b, me⟩ ⟨hs, hme⟩
  dsimp only at hs hme
  unfold P9.J1
  dsimp only
  have X : ∀ (W : List Balance) (pk w t : Int) (ad : List Bool), W.length ≤ 1000 → Ok (P9.J2 Z ac r27 r29 (a, b, n.1.Nodes, n.1.Segments, n.1.Ports, n.1.Stations, n.1.Vapour, n.1.Settle, W, pk, w, t, ad)) fun x => x = true := fun W pk w t ad hb => Va hs M.sane hb
  have hb := ab.1
  have md : ∀ (x : Int) {k : Int}, 1 ≤ k → k ≤ 9223372036854775807 → Ok (Ij x k) fun _ => True := fun x k h1 h2 => by unfold Ij; exact .bind (Tk _ h1 h2) fun _ _ => .pure trivial
  refine .bind (md _ (by decide) (by decide)) fun z _ => Av (fun _ => .bind (md _ (by decide) (by decide)) fun _ _ => X _ _ _ _ _ (by omega)) fun _ => Av (fun _ => X _ _ _ _ _ (by omega)) fun _ => Av (fun _ => X _ _ _ _ _ (by omega)) fun _ => Av (fun _ => Au (fun hp => .bind' (.ix' (by omega) (by omega) fun _ _ _ _ => X _ _ _ _ _ (by simp; omega))) fun _ => X _ _ _ _ _ (by omega)) fun _ => Av (fun _ => .bind' (.app (by simp; omega) (X _ _ _ _ _ (by omega)))) fun _ => Av (fun _ => .bind (Zj (s := ⟨a, b⟩) hs M) fun r hr => ?_) fun _ => X _ _ _ _ _ (by omega)
  exact Va hr.2 (hr.1.sane M) (by omega)
 obtain ⟨b, h1, rfl⟩ := this
 exact h1
end Go.Proofs.YtihdchjpepkpbaaGreat
namespace Go.Aw
set_option linter.unusedVariables false
set_option linter.unusedSimpArgs false
open Go.ChangeShapes Go.WideShapes Go.ChangeAt Go.RowKit
section
variable {H : Type} {enc : TypeId × Value → H} {P : Program}
theorem Hz (hl : laidOutB P = true) {W W' : World} (hb : Below W.heap.size W W') : ∀ {M : List TypeId} {vs : List Value} {ds : List (DataW H)} {G : List MemPlace},
  (∀ t, t ∈ M → P.readableRec t = true ∧ t < P.types.size) → (∀ x, x ∈ G → x.block < W.heap.size) → DataW.TrodAll enc P W 0 (fun _ => true) true M vs ds G →
  DataW.TrodAll enc P W' 0 (fun b => decide (b < W.heap.size)) true M vs ds G
 | [], vs, ds, G, _, _, h => by
  cases vs <;> cases ds <;> simp [DataW.TrodAll] at h ⊢
  exact h
 | t :: M, vs, ds, G, ht, hlt, h => by
  obtain ⟨v, vs', d, Z, p, q, rfl, rfl, rfl, h1, h2⟩ := trodAll_cons h
  have Y := ht t (by simp)
  exact ⟨p, q, Below.trod hl Y.1 Y.2 h1 hb (fun x X => hlt x (by simp [X])), Hz hl hb (fun t O => ht t (by simp [O])) (fun x X => hlt x (by simp [X])) h2, rfl⟩
theorem Zw {f : Func} {s : ChangeSpec} {W W' : World} {args : Array Value} {ds : List (DataW H)} {p : List MemPlace} {t : TypeId} (hW : DataW.Whole enc P f.params.toList s.vars false W args.toList ds [] (p ++ []))
  (hA : DataW.TrodAll enc P W 0 (fun _ => true) true f.params.toList args.toList ds p)
  (O : (s.fn H (ds ++ [])).results = [.lit (.bool true)]) (G : (s.fn H (ds ++ [])).args = ds) (hv : (s.fn H (ds ++ [])).vars = []) (Z : s.vars = [])
  (X : f.resultTypes.toList = [t]) (hu : P.underlying t = some .bool) (hl : laidOutB P = true) (M : ∀ t, t ∈ f.params.toList → P.readableRec t = true ∧ t < P.types.size)
  (hb : Below W.heap.size W W') : s.post enc P f false true false false W args (.bool true) W' := by
 have Y : ∀ x, x ∈ p → x.block < W.heap.size := fun x hx => hW.lt x (by simp [hx])
 have aa : f.resultTypes.size = 1 := by rw [← Array.length_toList, X]; rfl
 refine ⟨ds, [], p ++ [], [], p, [], hW, ?_, ?_, ?_, hb.frame _, fun h => by cases h⟩
 ·rw [O, X, aa]
  exact trodAll_mk1 (shut_bool hu true)
 ·rw [G]
  exact Hz hl hb M Y hA
 ·rw [hv, Z]; rfl
def fO (k : IntKind) (l : Li) : T := .list 1 (l.map fun n => [.v (.int k n)])
theorem Vv {t e : TypeId} {k : IntKind} {W : World} {base : Nat} {r : Reach} {v : Value} {d : DataW H} {ps : List MemPlace} (ht : P.underlying t = some (.slice e)) (he : P.underlying e = some (.int k)) (hc : P.cellsOf e = 1)
  (hval : Value.okWide P W r base t v) (h : DataW.Trod enc P W 0 (fun _ => true) true t v d ps) :
  ∃ l : Li, (l.length ≤ F0 → VR (fun b => W.heap[b]?) v (fO k l)) ∧ (∀ n, n ∈ l → (Lit.int k n).wf = true) ∧ (l = [] ∨ ∃ Z ag, d = .slice Z ag ∧ l.length = Z.length) := by
 obtain ⟨a0, len, cap, rfl⟩ := okWide_slice ht hval
 obtain ⟨fuel, hf⟩ := h
 rcases open_ints ht he hc hf with ⟨G, X⟩ | ⟨a, len', cap', Y, G, _, hl, hm, hz, X, aa, hwz⟩
 ·simp [Value.cells] at G
  obtain ⟨rfl, rfl, rfl⟩ := G
  exact ⟨[], fun _ => .empty _ _ _, by simp, .inl rfl⟩
 ·simp [Value.cells] at G
  obtain ⟨rfl, rfl, rfl⟩ := G
  simp only [Prod.mk.injEq] at X
  obtain ⟨rfl, rfl⟩ := X
  simp only [if_true] at hz
  have hlt : (Y.take len).length = len := by simp; omega
  refine ⟨Y.take len, fun hmax => ?_, fun n hn => hwz n (List.mem_of_mem_take hn), .inr ⟨_, _, rfl, by simp [lits]⟩⟩
  by_cases hl0 : len = 0
  ·subst hl0; simp only [List.take_zero, fO, List.map_nil]; exact .empty _ _ _
  ·obtain ⟨b, M, spot⟩ := a
   have af : spot = none := by simpa [Addr.add] using World.cell?_spot (aa 0 (by omega))
   subst af
   have O : ∀ i, i < Y.length → W.cell? ⟨b, M + i, none⟩ = some (.int k (Y.getD i 0)) := fun i hi => by rw [← Cr]; exact aa i hi
   have ad := O 0 (by omega)
   have G : ∃ cs ty fr, W.heap[b]? = some (.cells cs ty fr) := by
    unfold World.cell? at ad
    split at ad
    ·rename_i c ty fr hh; exact ⟨_, _, _, hh⟩
    ·cases ad
   obtain ⟨cs, ty, fr, hh⟩ := G
   have ac : ∀ i, i < Y.length → cs[M + i]? = some (.int k (Y.getD i 0)) := fun i hi => by
    have := O i hi
    simpa [World.cell?, hh] using this
   have ab : ((Y.take len).map fun n => [T.v (.int k n)]).length = len := by rw [List.length_map, hlt]
   have hbig : M + len ≤ cs.size := by
    have := (Array.getElem?_eq_some_iff.1 (ac (len - 1) (by omega))).1
    omega
   have ae : ∀ i e, ((Y.take len).map fun n => [T.v (.int k n)])[i]? = some e → ∀ (j : Nat) (x : T), e[j]? = some x → j = 0 ∧ x = .v (.int k (Y.getD i 0)) ∧ cs.getD (M + i * 1 + j) undef = .int k (Y.getD i 0) := by
    intro i e he j x X
    simp only [List.getElem?_map, Option.map_eq_some_iff] at he
    obtain ⟨n, hn, rfl⟩ := he
    have hil := (gs hn).1
    rw [hlt] at hil
    rw [List.getElem?_take_of_lt hil] at hn
    have hj : j = 0 := by have := (gs X).1; simp at this; exact this
    subst hj
    simp at X
    have hzi : Y.getD i 0 = n := by simp [List.getD, hn]
    refine ⟨rfl, by rw [hzi]; exact X.symm, ?_⟩
    rw [Array.getD_eq_getD_getElem?, show M + i * 1 + 0 = M + i by omega, ac i (by omega)]; rfl
   have := VR.list (H := fun b => W.heap[b]?) b M cap 1 ((Y.take len).map fun n => [T.v (.int k n)]) cs ty fr hh (by rw [ab]; exact hl) (by rw [List.length_map]; exact hmax) (by rw [ab]; omega)
    (fun i e he => by simp only [List.getElem?_map, Option.map_eq_some_iff] at he; obtain ⟨n, _, rfl⟩ := he; rfl)
    (fun i e he j x X => by rw [(ae i e he j x X).2.2]; rfl) (fun i e he j x X => by rw [(ae i e he j x X).2.2, (ae i e he j x X).2.1]; exact .v _)
   rw [ab] at this
   exact this
end
theorem P1 {n : Int} (h : (Lit.int .i64 n).wf = true) : -9223372036854775808 ≤ n ∧ n ≤ 9223372036854775807 := by
 have G : IntKind.i64.min = -9223372036854775808 := rfl
 have M : IntKind.i64.max = 9223372036854775807 := rfl
 simp only [Lit.wf, Bool.and_eq_true, decide_eq_true_eq] at h
 omega
theorem Vy {E : Env} {f : FuncId} {X : List T} {W : World} {args : Array Value} (M : bS fun b => W.heap[b]?) (hc : ACalls E f X [] fun x _ => x = .v (.bool true)) (hsz : args.size = X.length)
  (hv : ∀ (i : Nat) (x : T), X[i]? = some x → VR (fun b => W.heap[b]?) (args.getD i undef) x) : Calls E.P f args W fun e W' => e = .returned (.bool true) ∧ Below W.heap.size W W' := by
 refine (hc.2 (fun b => W.heap[b]?) W args hsz hv ⟨fun _ _ h => h, M⟩ (by simp) (by simp)).mono ?_
 rintro e w' ⟨v, x, fp', H', rfl, rfl, O, _, _, _, _, hs, ⟨Y, Z, e3⟩, G⟩
 refine ⟨by rw [O.v_eq], ⟨Y, Z, e3, hs, fun k hk => (G k hk (by simp)).1⟩⟩
end Go.Aw
