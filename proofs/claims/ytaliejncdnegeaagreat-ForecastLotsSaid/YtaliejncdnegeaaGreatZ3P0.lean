/- Plain proofs. No condition. -/
import Derived.Test.YtaliejncdnegeaaGreatZwP2
import Derived.Test.YtaliejncdnegeaaGreatZ3D
set_option maxRecDepth 100000
namespace Go.Proofs.YtaliejncdnegeaaGreat
set_option linter.unusedVariables false
set_option linter.unusedSimpArgs false
open Go.Aw
def tlf (r : Int) : Nat → List Lot → List Int → List Lot
 | _, l, [] => l
 | i, l, x :: xs => tlf r (i + 1) (lpsh ((i : Int) / r) l ⟨x, 1⟩) xs
theorem tlf_app (r : Int) : ∀ (A B : List Int) (i : Nat) (l : List Lot), tlf r i l (A ++ B) = tlf r (i + A.length) (tlf r i l A) B
 | [], B, i, l => rfl
 | x :: A, B, i, l => by
  simp only [List.cons_append, tlf, List.length_cons]
  rw [tlf_app r A B]; congr 1; omega
theorem lpsh_lpsh (k j : Int) (l : List Lot) (b v w : Int) : lpsh k (lpsh j l ⟨b, v⟩) ⟨b, w⟩ = lpsh j l ⟨b, v + w⟩ := by
 rcases snoc_cases l with rfl | ⟨a, q, rfl⟩
 ·have := lpsh_snoc k [] ⟨b, v, j⟩ ⟨b, w⟩
  simpa [lpsh_nil] using this
 ·rw [lpsh_snoc, lpsh_snoc]
  by_cases h : q.Batch = b
  ·simp only [h, if_pos]; rw [lpsh_snoc]; simp [Int.add_assoc]
  ·simp only [h, if_false]; rw [lpsh_snoc]; simp
theorem tlf_rep (r b : Int) (i : Nat) (l : List Lot) : ∀ v : Nat, tlf r i l (List.replicate (v + 1) b) = lpsh ((i : Int) / r) l ⟨b, ((v + 1 : Nat) : Int)⟩
 | 0 => rfl
 | v + 1 => by
  rw [List.replicate_succ', tlf_app, tlf_rep r b i l v]
  simp only [tlf]
  rw [lpsh_lpsh]; congr 2
theorem lpsh_front (k : Int) (p s : List Lot) (x : Piece) (hs : s ≠ []) : lpsh k (p ++ s) x = p ++ lpsh k s x := by
 obtain ⟨a, q, rfl⟩ := snoc_of hs
 rw [← List.append_assoc, lpsh_snoc, lpsh_snoc]
 split <;> simp
theorem lpsh_ne (k : Int) (l : List Lot) (x : Piece) : lpsh k l x ≠ [] := by
 rcases snoc_cases l with rfl | ⟨a, q, rfl⟩
 ·simp [lpsh_nil]
 ·rw [lpsh_snoc]; split <;> simp
theorem tlf_front (r : Int) : ∀ (R : List Int) (i : Nat) (p s : List Lot), s ≠ [] → tlf r i (p ++ s) R = p ++ tlf r i s R
 | [], _, _, _, _ => rfl
 | x :: R, i, p, s, hs => by
  simp only [tlf]
  rw [lpsh_front _ _ _ _ hs, tlf_front r R _ p _ (lpsh_ne _ _ _)]
theorem tlf_batch (r : Int) : ∀ (R : List Int) (i : Nat) (l : List Lot) (q : Lot), q ∈ tlf r i l R → (∃ p, p ∈ l ∧ q.Batch = p.Batch) ∨ q.Batch ∈ R
 | [], _, l, q, h => .inl ⟨q, h, rfl⟩
 | x :: R, i, l, q, h => by
  simp only [tlf] at h
  rcases tlf_batch r R _ _ q h with ⟨p, hp, he⟩ | h
  ·have hb : (∃ z, z ∈ l ∧ p.Batch = z.Batch) ∨ p.Batch = x := by
    rcases snoc_cases l with rfl | ⟨a, y, rfl⟩
    ·simp [lpsh_nil] at hp; subst hp; exact .inr rfl
    ·rw [lpsh_snoc] at hp
     split at hp
     ·rcases List.mem_append.1 hp with hp | hp
      ·exact .inl ⟨p, by simp [hp], rfl⟩
      ·simp at hp; subst hp; exact .inl ⟨y, by simp, rfl⟩
     ·rcases List.mem_append.1 hp with hp | hp
      ·exact .inl ⟨p, hp, rfl⟩
      ·simp at hp; subst hp; exact .inr rfl
   rcases hb with ⟨z, hz, hb⟩ | hb
   ·exact .inl ⟨z, hz, he.trans hb⟩
   ·exact .inr (by rw [he, hb]; simp)
  ·exact .inr (by simp [h])
theorem tlf_new (r b : Int) (A : List Int) (v : Nat) (hv : 1 ≤ v) (hb : b ∉ A) : tlf r 0 [] (A ++ List.replicate v b) = tlf r 0 [] A ++ [⟨b, (v : Int), (A.length : Int) / r⟩] := by
 obtain ⟨w, rfl⟩ : ∃ w, v = w + 1 := ⟨v - 1, by omega⟩
 rw [tlf_app, tlf_rep, Nat.zero_add]
 rcases snoc_cases (tlf r 0 [] A) with h | ⟨a, q, h⟩
 ·rw [h]; rfl
 ·rw [h, lpsh_snoc, if_neg]
  intro e
  have hq : q ∈ tlf r 0 [] A := by rw [h]; simp
  rcases tlf_batch r A 0 [] q hq with ⟨p, hp, _⟩ | hq
  ·simp at hp
  ·dsimp only at e; rw [e] at hq; exact hb hq
theorem fold_unit (k : Int) (l : List Lot) (O : List Int) : (rle O).foldl (lpsh k) l = O.foldl (fun l x => lpsh k l ⟨x, 1⟩) l := by
 induction O using snoc_ind with
 | h0 => rfl
 | h1 a x ih =>
  rw [List.foldl_append, ← ih, rle_snoc]
  rcases snoc_cases (rle a) with h | ⟨p, q, h⟩
  ·rw [h]; rfl
  ·rw [h, psh_snoc]
   split
   ·rename_i hb
    rw [List.foldl_append, List.foldl_append]
    simp only [List.foldl_cons, List.foldl_nil]
    dsimp only at hb
    subst hb
    exact (lpsh_lpsh k k _ q.Batch q.Volume 1).symm
   ·rw [List.foldl_append]; rfl
theorem tlf_tick {r : Int} (hr : 1 ≤ r) {t : Nat} : ∀ (O : List Int) (i : Nat) (l : List Lot), (t : Int) * r ≤ i → (i : Int) + O.length ≤ ((t : Int) + 1) * r → tlf r i l O = O.foldl (fun l x => lpsh t l ⟨x, 1⟩) l
 | [], _, _, _, _ => rfl
 | x :: O, i, l, h1, h2 => by
  have h3 : (i : Int) / r = t := by
   rw [List.length_cons] at h2
   rw [Int.add_mul] at h2
   have : (i : Int) = ((i : Int) - (t : Int) * r) + (t : Int) * r := by omega
   rw [this, Int.add_mul_ediv_right _ _ (by omega), Int.ediv_eq_zero_of_lt (by omega) (by omega)]; omega
  simp only [tlf, List.foldl_cons]
  rw [h3]
  exact tlf_tick hr O (i + 1) _ (by omega) (by rw [List.length_cons] at h2; omega)
def lpc (q : Lot) : Piece := ⟨q.Batch, q.Volume⟩
theorem lpsh_map (k : Int) (l : List Lot) (x : Piece) : (lpsh k l x).map lpc = psh (l.map lpc) x := by
 rcases snoc_cases l with rfl | ⟨a, q, rfl⟩
 ·rfl
 ·rw [lpsh_snoc, List.map_append, List.map_singleton, psh_snoc]
  have e : (lpc q).Batch = q.Batch := rfl
  rw [e]
  split <;> simp [lpc]
theorem fold_map (k : Int) : ∀ (f : List Piece) (l : List Lot), (f.foldl (lpsh k) l).map lpc = f.foldl psh (l.map lpc)
 | [], _ => rfl
 | x :: f, l => by rw [List.foldl_cons, List.foldl_cons, fold_map k f, lpsh_map]
theorem fold_map_can {f : List Piece} (hf : Can f) (k : Int) : (f.foldl (lpsh k) []).map lpc = f := by
 rw [fold_map]; exact fold_can f [] (by simpa using hf)
def fq (q : List Lot) : List Int := q.flatMap fun x => List.replicate x.Done.toNat x.Batch
theorem fq_app (a b : List Lot) : fq (a ++ b) = fq a ++ fq b := by simp [fq]
structure QInv (q : List Lot) (z : Nat) : Prop where
 len : q.length = 4
 lot : ∀ (i : Nat) (x : Lot), q[i]? = some x → x.Batch = (i : Int) ∧ 1 ≤ x.Volume ∧ x.Volume ≤ 80 ∧ 0 ≤ x.Done ∧ x.Done ≤ 1000
 ord : ∀ (i j : Nat) (x y : Lot), i < j → q[i]? = some x → q[j]? = some y → x.Done < x.Volume → y.Done = 0
 all : 0 < z → ∀ (i : Nat) (x : Lot), q[i]? = some x → x.Volume ≤ x.Done
theorem head_ok {q : List Lot} {z : Nat} (h : QInv q z) : Ok (L.zbum q) fun r => (r.2 = false ∧ ∀ (i : Nat) (x : Lot), q[i]? = some x → x.Volume ≤ x.Done) ∨ (r.2 = true ∧ ∃ (i : Nat) (x : Lot), r.1 = (i : Int) ∧ q[i]? = some x ∧ x.Done < x.Volume ∧ ∀ (j : Nat) (y : Lot), j < i → q[j]? = some y → y.Volume ≤ y.Done) := by
 have hl := h.len
 unfold L.zbum
 refine .bind (Q := Sum.elim (fun r : Int × Bool => r.2 = true ∧ ∃ (i : Nat) (x : Lot), r.1 = (i : Int) ∧ q[i]? = some x ∧ x.Done < x.Volume ∧ ∀ (j : Nat) (y : Lot), j < i → q[j]? = some y → y.Volume ≤ y.Done) fun _ : Unit => ∀ (i : Nat) (x : Lot), q[i]? = some x → x.Volume ≤ x.Done)
  (.loop (fun st => ∃ k : Nat, st = (k : Int) ∧ k ≤ 4 ∧ ∀ (i : Nat) (x : Lot), i < k → q[i]? = some x → x.Volume ≤ x.Done) (fun st => 4 - st.toNat) ⟨0, rfl, by omega, fun i x h => absurd h (by omega)⟩ (by omega) ?_) ?_
 ·rintro _ ⟨k, rfl, hk, hd⟩
  unfold L.zbum.B2
  refine Ok.iteD (fun h0 => ?_) fun h0 => .pure ?_
  ·obtain ⟨x, hx⟩ := get_of (l := q) (k := k) (by omega)
   refine .bind' (.eq (ix_nat hx) (Ok.iteD (fun h1 => .pure ⟨rfl, k, x, rfl, hx, h1, fun j y hj hy => hd j y hj hy⟩) fun h1 => .pure ⟨⟨k + 1, ?_, by omega, fun i y hi hy => ?_⟩, ?_⟩))
   ·rw [wr_id (by omega)]; omega
   ·by_cases e : i = k
    ·subst e; rw [hx] at hy; cases hy; dsimp only at h1; omega
    ·exact hd i y (by omega) hy
   ·rw [wr_id (by omega)]; omega
  ·exact fun i x hx => hd i x (by have := (gs hx).1; omega) hx
 ·rintro (r | _) hr
  ·exact .pure (.inr hr)
  ·exact .pure (.inl ⟨rfl, hr⟩)
theorem fq_zero {q : List Lot} (h : ∀ x, x ∈ q → x.Done = 0) : fq q = [] := by
 induction q with
 | nil => rfl
 | cons x q ih =>
  have := ih fun y hy => h y (by simp [hy])
  simp only [fq, List.flatMap_cons] at this ⊢
  rw [h x (by simp), this]; rfl
theorem pump_ok {q : List Lot} {z : Nat} (h : QInv q z) {r : Int} (hr : 1 ≤ r ∧ r ≤ 20) : Ok (L.zdrn q r) fun p => ∃ q' z' b, 0 ≤ b ∧ b < 1000 ∧ b ≠ 900 ∧ ((p = (q', b, 0)) ∨ (p.2.2 ≠ 0 ∧ q' = q ∧ b = 901)) ∧ QInv q' z' ∧ fq q' ++ List.replicate z' 901 = fq q ++ List.replicate z 901 ++ List.replicate r.toNat b := by
 have hl := h.len
 unfold L.zdrn
 rw [if_neg (by simp; omega)]
 refine .bind (Q := Sum.elim (fun _ : List Lot × Int × Int => False) fun _ : Unit => True) (.loop (fun st => ∃ k : Nat, st = (k : Int) ∧ k ≤ 4) (fun st => 4 - st.toNat) ⟨0, rfl, by omega⟩ (by omega) ?_) ?_
 ·rintro _ ⟨k, rfl, hk⟩
  unfold L.zdrn.B2
  refine Ok.iteD (fun h0 => ?_) fun h0 => .pure trivial
  obtain ⟨x, hx⟩ := get_of (l := q) (k := k) (by omega)
  have hx1 := h.lot k x hx
  refine .bind' (.eq (ix_nat hx) ?_)
  dsimp only
  rw [if_neg (by simp; omega)]
  refine .pure ⟨⟨k + 1, ?_, by omega⟩, ?_⟩ <;> rw [wr_id (by omega)] <;> omega
 ·rintro (_ | _) hd
  ·exact hd.elim
  ·show Ok (L.zdrn.J1 q r ()) _
   unfold L.zdrn.J1
   rw [if_neg (by simp; omega)]
   refine .bind (head_ok h) ?_
   rintro ⟨hi, hb⟩ hh
   rcases hh with ⟨hh, hall⟩ | ⟨hh, i, x, hi', hx, hlt, hbef⟩
   ·dsimp only at hh
    subst hh
    rw [if_pos (by simp)]
    refine .pure ⟨q, z + r.toNat, 901, by omega, by omega, by omega, .inr ⟨by show (8 : Int) ≠ 0; decide, rfl, rfl⟩, ⟨h.len, h.lot, h.ord, fun _ => hall⟩, ?_⟩
    rw [List.append_assoc, List.replicate_append_replicate]
   ·dsimp only at hh hi'
    subst hh; subst hi'
    rw [if_neg (by simp)]
    have hx1 := h.lot i x hx
    have hil := (gs hx).1
    have hz : z = 0 := by
     by_cases e : 0 < z
     ·have := h.all e i x hx; omega
     ·omega
    refine .bind' (.app (by simp; omega) ?_)
    rw [List.nil_append]
    refine .bind' (.eq (ix_nat hx) ?_)
    dsimp only
    rw [wr_id (by omega)]
    refine .bind' (.eq (ix_nat (k := i) (x := (⟨x.Batch, x.Volume, x.Done + r⟩ : Lot)) ?_) (.pure ?_))
    ·rw [List.getElem?_set, if_pos rfl, if_pos hil]
    refine ⟨q.set i ⟨x.Batch, x.Volume, x.Done + r⟩, 0, x.Batch, by omega, by omega, by omega, .inl rfl, ⟨by simp [hl], fun j y hy => ?_, fun j k y w hjk hy hw hyd => ?_, fun h => absurd h (by omega)⟩, ?_⟩
    ·rw [get_set] at hy
     by_cases e : i = j
     ·subst e; rw [if_pos ⟨rfl, hil⟩] at hy; cases hy; dsimp only; omega
     ·rw [if_neg (fun h => e h.1)] at hy; exact h.lot j y hy
    ·rw [get_set] at hy hw
     by_cases ek : i = k
     ·subst ek
      rw [if_neg (by omega)] at hy
      have := hbef j y hjk hy
      omega
     ·rw [if_neg (fun h => ek h.1)] at hw
      by_cases ej : i = j
      ·subst ej
       exact h.ord i k x w hjk hx hw hlt
      ·rw [if_neg (fun h => ej h.1)] at hy
       exact h.ord j k y w hjk hy hw hyd
    ·subst hz
     have e1 : q = q.take i ++ x :: q.drop (i + 1) := by
      rw [← (gs hx).2, ← List.drop_eq_getElem_cons hil, List.take_append_drop]
     have e2 : q.set i ⟨x.Batch, x.Volume, x.Done + r⟩ = q.take i ++ (⟨x.Batch, x.Volume, x.Done + r⟩ : Lot) :: q.drop (i + 1) := by rw [List.set_eq_take_append_cons_drop, if_pos hil]
     have e3 : fq (q.drop (i + 1)) = [] := fq_zero fun y hy => by
      obtain ⟨k, hk⟩ := List.getElem?_of_mem hy
      rw [List.getElem?_drop] at hk
      exact h.ord i (i + 1 + k) x y (by omega) hx hk hlt
     have e4 : fq q = fq (q.take i) ++ List.replicate x.Done.toNat x.Batch := by
      have e5 := congrArg fq e1
      rw [fq_app] at e5
      have : fq (x :: q.drop (i + 1)) = List.replicate x.Done.toNat x.Batch ++ fq (q.drop (i + 1)) := rfl
      rw [this, e3, List.append_nil] at e5
      exact e5
     rw [e2, fq_app, e4]
     have : fq ((⟨x.Batch, x.Volume, x.Done + r⟩ : Lot) :: q.drop (i + 1)) = List.replicate (x.Done + r).toNat x.Batch ++ fq (q.drop (i + 1)) := rfl
     rw [this, e3, Int.toNat_add (by omega) (by omega)]
     simp [List.append_assoc, List.replicate_append_replicate]
theorem lpsh_pos {k : Int} {l : List Lot} {x : Piece} (hl : ∀ q, q ∈ l → 1 ≤ q.Volume) (hx : 1 ≤ x.Volume) : ∀ q, q ∈ lpsh k l x → 1 ≤ q.Volume := by
 intro q hq
 rcases snoc_cases l with rfl | ⟨a, y, rfl⟩
 ·simp [lpsh_nil] at hq; subst hq; exact hx
 ·have hy := hl y (by simp)
  rw [lpsh_snoc] at hq
  split at hq
  ·rcases List.mem_append.1 hq with hq | hq
   ·exact hl q (by simp [hq])
   ·simp at hq; subst hq; dsimp only; omega
  ·rcases List.mem_append.1 hq with hq | hq
   ·exact hl q hq
   ·simp at hq; subst hq; exact hx
theorem fold_pos {k : Int} : ∀ {f : List Piece} {l : List Lot}, (∀ q, q ∈ l → 1 ≤ q.Volume) → (∀ x, x ∈ f → 1 ≤ x.Volume) → (∀ q, q ∈ f.foldl (lpsh k) l → 1 ≤ q.Volume) ∧ lvol (f.foldl (lpsh k) l) = lvol l + vol f
 | [], l, hl, _ => ⟨hl, by simp [vol_nil]⟩
 | x :: f, l, hl, hf => by
  obtain ⟨h1, h2⟩ := fold_pos (k := k) (f := f) (lpsh_pos hl (hf x (by simp))) fun y hy => hf y (by simp [hy])
  exact ⟨h1, by rw [List.foldl_cons, h2, lpsh_vol, vol_cons]; omega⟩
theorem b12_ok {st : List Lot × List (List Piece) × List Lot × Int} {k : List Lot} {e : Int} {out : List Lot} (h1 : ∀ q, q ∈ out → 1 ≤ q.Volume) (h2 : ∀ q, q ∈ k → 1 ≤ q.Volume) (h3 : lvol out + vol (k.map lpc) ≤ 1000000) :
  Ok (loopN (L.zeiw.B12 st (k, e)) lots (out, 0)) fun d => d = (k.map lpc).foldl (lpsh st.2.2.2) out := by
 have hk2 : ∀ x, x ∈ k.map lpc → 1 ≤ x.Volume := fun x hx => by obtain ⟨q, hq, rfl⟩ := List.mem_map.1 hx; exact h2 q hq
 have hkl : (k.length : Int) ≤ 1000000 := by
  have h4 := len_vol hk2
  rw [List.length_map] at h4
  have := (lvol_pos out h1).1
  omega
 refine .loop (fun s => ∃ i : Nat, s.2 = (i : Int) ∧ i ≤ k.length ∧ s.1 = ((k.map lpc).take i).foldl (lpsh st.2.2.2) out) (fun s => k.length - s.2.toNat) ⟨0, rfl, by omega, rfl⟩ (by dsimp only; omega) ?_
 rintro ⟨_, _⟩ ⟨i, rfl, hi, rfl⟩
 unfold L.zeiw.B12
 dsimp only
 refine Ok.iteD (fun h => ?_) fun h => .pure ?_
 ·obtain ⟨x, hx⟩ := get_of (l := k) (k := i) (by omega)
  have hxm := h2 x (mg hx)
  have hxp : (k.map lpc)[i]? = some (lpc x) := by rw [List.getElem?_map, hx]; rfl
  obtain ⟨g1, g2⟩ := fold_pos (k := st.2.2.2) (f := (k.map lpc).take i) h1 fun y hy => hk2 y (List.mem_of_mem_take hy)
  have e1 : ((k.map lpc).take (i + 1)).foldl (lpsh st.2.2.2) out = lpsh st.2.2.2 (((k.map lpc).take i).foldl (lpsh st.2.2.2) out) (lpc x) := by rw [List.take_add_one, hxp]; simp [List.foldl_append]
  have e2 : vol (k.map lpc) = vol ((k.map lpc).take (i + 1)) + vol ((k.map lpc).drop (i + 1)) := by rw [← vol_app, List.take_append_drop]
  have e3 := vol_take_succ hxp
  have e4 := vol_pos (f := (k.map lpc).drop (i + 1)) fun p hp => by have := hk2 p (List.mem_of_mem_drop hp); omega
  have ev : (lpc x).Volume = x.Volume := rfl
  have fin : ∀ l, l = lpsh st.2.2.2 (((k.map lpc).take i).foldl (lpsh st.2.2.2) out) (lpc x) → Ok (L.zeiw.J13 (((k.map lpc).take i).foldl (lpsh st.2.2.2) out, (i : Int)) l) (Sum.elim (fun s => (∃ i : Nat, s.2 = (i : Int) ∧ i ≤ k.length ∧ s.1 = ((k.map lpc).take i).foldl (lpsh st.2.2.2) out) ∧ k.length - s.2.toNat < k.length - (i : Int).toNat) fun d : List Lot => d = (k.map lpc).foldl (lpsh st.2.2.2) out) := by
   rintro _ rfl
   unfold L.zeiw.J13
   dsimp only
   rw [wr_id (by omega)]
   exact .pure ⟨⟨i + 1, by dsimp only; omega, by omega, by rw [e1]⟩, by dsimp only; omega⟩
  generalize ((k.map lpc).take i).foldl (lpsh st.2.2.2) out = cur at g1 g2 fin
  obtain ⟨b1, b2⟩ := lvol_pos cur g1
  rcases snoc_cases cur with rfl | ⟨a, q, rfl⟩
  ·rw [if_neg (by simp; rw [wr_id (by omega)]; omega)]
   unfold L.zeiw.J14
   rw [if_neg (by simp)]
   refine .bind' (.eq (ix_nat hx) (.bind' (.app (by simp) (fin _ rfl))))
  ·have hq := b2 q (by simp); have hq1 := g1 q (by simp)
   have w1 : wr (((a ++ [q]).length : Int) - 1) = (a.length : Int) := by
    rw [List.length_append, List.length_singleton] at b1 ⊢; rw [wr_id (by omega)]; omega
   have hix : ix (a ++ [q]) (wr (((a ++ [q]).length : Int) - 1)) = some (a.length, q) := by rw [w1]; exact ix_nat (by simp)
   rw [if_pos (by rw [w1]; simp), hix, Option.bind_some]
   refine .bind' (.eq (ix_nat hx) ?_)
   unfold L.zeiw.J14
   by_cases hb : q.Batch = x.Batch
   ·rw [if_pos (by simp [hb])]
    dsimp only
    rw [hix, Option.bind_some]
    refine .bind' (.eq (ix_nat hx) (fin _ ?_))
    dsimp only
    rw [lpsh_snoc, if_pos (by exact hb), wr_id (by omega), ev]
    simp
   ·rw [if_neg (by simp [hb])]
    dsimp only
    refine .bind' (.eq (ix_nat hx) (.bind' (.app (by simp at b1 ⊢; omega) (fin _ ?_))))
    rw [lpsh_snoc, if_neg (by exact hb)]; rfl
 ·have : i = k.length := by omega
  subst this
  show ((k.map lpc).take k.length).foldl (lpsh st.2.2.2) out = _
  rw [List.take_of_length_le (by simp)]
theorem arrivals1 {c r b : Int} {F : List Int} (hc : 1 ≤ c ∧ c ≤ 1000) (hr : 1 ≤ r ∧ r ≤ c) (hb : 0 ≤ b ∧ b < 1000) (hF : Vd (rle F)) (hl : (F.length : Int) = c) (hs : (rle (F.reverse ++ List.replicate r.toNat b)).length ≤ 200) :
  ∃ q O Z, L.zrct (L.zvce c) [rle F] (lpl r) [b, 0] 1 1 = some (q, 0) ∧ q.map lpc = rle O ∧ O ++ Z = F.reverse ++ List.replicate r.toNat b ∧ O.length = r.toNat := by
 have hL := line_ln (g := 0) hc hr hb (by omega)
 have hf := line_fil hc hF hl
 have hw := (line_wpl (c := c) (r := r)).way (line_chain hc) hr.1
 have hq : ∀ G : Nat → List Int, cat (que (lpl r) (fun j => j) G) 1 = qu r (G 0) := fun G => by simp [cat, que]
 obtain ⟨⟨f2, o2, e2⟩, ht, he, F2, O, hf2, ho, hc2, hl2⟩ := way_go hL hw hf (by rw [hq]; unfold qu; rw [if_neg (by omega)]; exact hs)
 dsimp only at he hf2 ho
 subst he
 rw [hq, hq] at hc2
 have hO : O 1 ++ qu r (F2 0) = F.reverse ++ List.replicate r.toNat b := by
  rw [hc2]; unfold qu; rw [if_neg (by omega)]; rfl
 have hcan := (rle_can (O 1)).pos
 have key : L.zrct (L.zvce c) [rle F] (lpl r) [b, 0] 1 1 = some ((rle (O 1)).foldl (lpsh 0) [], 0) := by
  unfold L.zrct L.zpyk
  rw [hL.net.check, Option.bind_some, if_neg (by simp), check_ok hL.net hf, Option.bind_some, if_neg (by simp), if_neg (by simp [L.zvce]), if_neg (by simp), Option.bind_some, if_neg (by simp)]
  have hch : chk ((1 : Int) ≤ 9223372036854775806) = some () := chk_eq (by omega)
  rw [hch, Option.bind_some]
  have e1 : (1 : Int).toNat = 1 := rfl
  rw [e1]
  simp only [forI, L.zrct.B2]
  rw [ht, Option.bind_some, if_neg (by simp)]
  have h1 : ix o2 (1 : Int) = some (1, rle (O 1)) := ix_nat (k := 1) (ho.get 1 (by simp [L.zvce]))
  rw [h1, Option.bind_some]
  dsimp only
  rw [lots_loop (k := 0) hcan ⟨by simp, by simp, by simp⟩ (by rw [vol_rle]; simp [lvol]; omega), Option.bind_some]
  rfl
 exact ⟨_, O 1, _, key, fold_map_can (rle_can _) 0, hO, hl2⟩
theorem fq_bound : ∀ (q : List Lot), (rle (fq q)).length ≤ q.length
 | [] => by simp [fq, rle_nil]
 | x :: q => by
  have h1 := rle_add (List.replicate x.Done.toNat x.Batch) (fq q)
  have h2 := rle_replicate x.Done.toNat x.Batch
  have h3 := fq_bound q
  have : fq (x :: q) = List.replicate x.Done.toNat x.Batch ++ fq q := rfl
  rw [this, List.length_cons]; omega
theorem tlf_pos {r : Int} : ∀ (A : List Int) (i : Nat) (l : List Lot), (∀ q, q ∈ l → 1 ≤ q.Volume) → (∀ q, q ∈ tlf r i l A → 1 ≤ q.Volume) ∧ lvol (tlf r i l A) = lvol l + A.length
 | [], i, l, h => ⟨h, by simp [tlf]⟩
 | x :: A, i, l, h => by
  obtain ⟨h1, h2⟩ := tlf_pos A (i + 1) (lpsh ((i : Int) / r) l ⟨x, 1⟩) (lpsh_pos h (by simp))
  simp only [tlf]
  exact ⟨h1, by rw [h2, lpsh_vol, List.length_cons]; dsimp only; omega⟩
structure LI (c r : Int) (t : Nat) (q : List Lot) (fs : List (List Piece)) (out : List Lot) : Prop where
 ex : ∃ (z : Nat) (F A : List Int), QInv q z ∧ fs = [rle F] ∧ Vd (rle F) ∧ (F.length : Int) = c ∧ A ++ F.reverse = List.replicate c.toNat 900 ++ (fq q ++ List.replicate z 901) ∧ A.length = t * r.toNat ∧ out = tlf r 0 [] A
theorem few_lots {c : Int} {q : List Lot} {z v : Nat} {b : Int} (h : QInv q z) : (rle (List.replicate c.toNat 900 ++ (fq q ++ List.replicate z 901) ++ List.replicate v b)).length ≤ 7 := by
 have h1 := rle_add (List.replicate c.toNat 900 ++ (fq q ++ List.replicate z 901)) (List.replicate v b)
 have h2 := rle_add (List.replicate c.toNat (900 : Int)) (fq q ++ List.replicate z 901)
 have h3 := rle_add (fq q) (List.replicate z 901)
 have h4 := rle_replicate c.toNat 900; have h5 := rle_replicate z 901; have h6 := rle_replicate v b
 have h7 := fq_bound q
 have := h.len
 omega
theorem tick_lots {c r : Int} (hc : 20 ≤ c ∧ c ≤ 100) (hr : 1 ≤ r ∧ r ≤ 20) {t : Nat} (ht : t < 380) {q q' : List Lot} {z' : Nat} {b : Int} {F A : List Int} {z : Nat} (hq : QInv q z) (hq' : QInv q' z') (hb : 0 ≤ b ∧ b < 1000) (hF : Vd (rle F)) (hl : (F.length : Int) = c)
  (hA : A ++ F.reverse = List.replicate c.toNat 900 ++ (fq q ++ List.replicate z 901)) (hAl : A.length = t * r.toNat) (hf : fq q' ++ List.replicate z' 901 = fq q ++ List.replicate z 901 ++ List.replicate r.toNat b) {w : Int} (hw : wr (1 + ((wr w).tmod 20)) = r) {d : Src} :
  Ok (L.zeiw.J10 w (c, d) (q, [rle F], tlf r 0 [] A, (t : Int)) (q', b)) (Sum.elim (fun st => st.2.2.2 = ((t + 1 : Nat) : Int) ∧ LI c r (t + 1) st.1 st.2.1 st.2.2.1) fun _ : Bool ⊕ (List Lot × List Lot) => False) := by
 have hc' : 1 ≤ c ∧ c ≤ 1000 := by omega
 have hr' : 1 ≤ r ∧ r ≤ c := by omega
 have hs : (rle (F.reverse ++ List.replicate r.toNat b)).length ≤ 200 := by
  have h1 := rle_suf A (F.reverse ++ List.replicate r.toNat b)
  rw [← List.append_assoc, hA] at h1
  have := few_lots (c := c) (v := r.toNat) (b := b) hq
  omega
 obtain ⟨k, O, Z, a1, a2, a3, a4⟩ := arrivals1 hc' hr' hb hF hl hs
 obtain ⟨F2, O2, t1, t2, t3, t4, t5⟩ := line_go (g := 0) hc' hr' hb (by omega) hF hl hs
 have hO : O = O2 := by
  have h1 : O = (O ++ Z).take r.toNat := by rw [← a4, List.take_left]
  have h2 : O2 = (O2 ++ F2.reverse).take r.toNat := by rw [← t5, List.take_left]
  rw [h1, a3, ← t4, ← h2]
 unfold L.zeiw.J10
 dsimp only
 rw [hw, wr_id (by omega : _ ≤ (0 : Int) - r ∧ _), show (0 : Int) - r = -r by omega]
 refine .bind' (.eq a1 (.bind' (.eq t1 ?_)))
 rw [if_neg (by simp)]
 have htr : t * r.toNat ≤ 380 * 20 := Nat.mul_le_mul (by omega) (by omega)
 obtain ⟨p1, p2⟩ := tlf_pos (r := r) A 0 [] (by simp)
 have hkp : ∀ x, x ∈ k → 1 ≤ x.Volume := fun x hx => by
  have : lpc x ∈ rle O := by rw [← a2]; exact List.mem_map.2 ⟨x, hx, rfl⟩
  exact (rle_can O).pos _ this
 refine .bind (b12_ok (st := (q, [rle F], tlf r 0 [] A, (t : Int))) (e := 0) p1 hkp (by rw [p2, a2, vol_rle, a4]; simp [lvol]; omega)) ?_
 rintro _ rfl
 unfold L.zeiw.J11 L.zeiw.J9
 dsimp only
 rw [wr_id (by omega), a2, fold_unit]
 refine .pure ⟨by dsimp only; omega, ⟨z', F2, A ++ O, hq', rfl, t2, t3, ?_, by rw [List.length_append, hAl, a4, Nat.add_mul, Nat.one_mul], ?_⟩⟩
 ·rw [List.append_assoc, hO, t4, ← List.append_assoc, hA, List.append_assoc, hf]
 ·have h5 : ((A.length : Nat) : Int) = (t : Int) * r := by rw [hAl, Int.natCast_mul, Int.toNat_of_nonneg (by omega)]
  have e := tlf_tick hr.1 (t := t) O (0 + A.length) (tlf r 0 [] A) (by omega) (by rw [Int.add_mul]; omega)
  dsimp only
  rw [tlf_app, e]
theorem fq_take_succ {q : List Lot} {i : Nat} {x : Lot} (h : q[i]? = some x) : fq (q.take (i + 1)) = fq (q.take i) ++ List.replicate x.Done.toNat x.Batch := by
 rw [List.take_add_one, h, fq_app]; simp [fq]
theorem fq_mem {q : List Lot} {b : Int} (h : b ∈ fq q) : ∃ x, x ∈ q ∧ b = x.Batch := by
 obtain ⟨x, hx, hb⟩ := List.mem_flatMap.1 h
 exact ⟨x, hx, (List.mem_replicate.1 hb).2⟩
theorem tlf_at {r b : Int} {P R : List Int} {v : Nat} (hv : 1 ≤ v) (hP : b ∉ P) (hR : ∀ x, x ∈ R → x ≠ b) : (tlf r 0 [] (P ++ List.replicate v b ++ R))[(tlf r 0 [] P).length]? = some ⟨b, (v : Int), (P.length : Int) / r⟩ := by
 rw [tlf_app, tlf_new r b P v hv hP]
 cases R with
 | nil => simp [tlf]
 | cons x R =>
  simp only [tlf]
  rw [lpsh_snoc, if_neg (by intro e; exact hR x (by simp) e.symm), tlf_front _ _ _ _ _ (by simp)]
  rw [List.getElem?_append_left (by simp)]; simp
theorem last_ok {c r w : Int} (hc : 20 ≤ c ∧ c ≤ 100) (hr : 1 ≤ r ∧ r ≤ 20) (hw : wr (1 + ((wr w).tmod 20)) = r) {q : List Lot} {fs : List (List Piece)} {out : List Lot} (h : LI c r 380 q fs out) {g : Segment} (hg : g.Capacity = c) : Ok (L.zeiw.J2 w (0, g) (q, out)) fun r => r = true := by
 obtain ⟨z, F, A, hq, _, _, hl, hA, hAl, rfl⟩ := h
 have hql := hq.len
 have hAr : (A.length : Int) = 380 * r := by rw [hAl, Int.natCast_mul, Int.toNat_of_nonneg (by omega)]; rfl
 unfold L.zeiw.J2
 dsimp only
 rw [hg]
 refine .bind (Q := Sum.elim (fun b : Bool => b = true) fun _ : Unit => True) (.loop (fun st => ∃ i : Nat, i ≤ 4 ∧ st.2.2 = (i : Int) ∧ st.1 = ((List.replicate c.toNat (900 : Int) ++ fq (q.take i)).length : Int) ∧ st.2.1 = ((tlf r 0 [] (List.replicate c.toNat 900 ++ fq (q.take i))).length : Int)) (fun st => 4 - st.2.2.toNat)
  ⟨0, by omega, rfl, by simp [fq]; omega, ?_⟩ (by dsimp only; omega) ?_) ?_
 ·have := tlf_new r 900 [] c.toNat (by omega) (by simp)
  simp only [List.nil_append] at this
  simp [fq, this, tlf]
 ·rintro ⟨_, _, _⟩ ⟨i, hi, rfl, rfl, rfl⟩
  unfold L.zeiw.B4
  dsimp only
  refine Ok.iteD (fun h4 => ?_) fun _ => .pure trivial
  obtain ⟨x, hx⟩ := get_of (l := q) (k := i) (by omega)
  have hx1 := hq.lot i x hx
  obtain ⟨P, hP⟩ : ∃ P, P = List.replicate c.toNat (900 : Int) ++ fq (q.take i) := ⟨_, rfl⟩
  rw [← hP]
  have hPl : (P.length : Int) ≤ 100000 := by
   rw [hP, List.length_append, List.length_replicate]
   have : ∀ k, k ≤ 4 → (fq (q.take k)).length ≤ 1000 * k := fun k => by
    induction k with
    | zero => intro _; simp [fq]
    | succ k ih =>
     intro hk
     obtain ⟨y, hy⟩ := get_of (l := q) (k := k) (by omega)
     have := hq.lot k y hy
     have := ih (by omega)
     rw [fq_take_succ hy, List.length_append, List.length_replicate]; omega
   have := this i hi
   omega
  rw [hw]
  refine .bind' (.eq (ticks_eq (by omega) (by omega)) ?_)
  dsimp only
  have awakes : ∀ st t', Ok (L.zeiw.J6 (q, tlf r 0 [] A) st t' true) (Sum.elim (fun s => (∃ i : Nat, i ≤ 4 ∧ s.2.2 = (i : Int) ∧ s.1 = ((List.replicate c.toNat (900 : Int) ++ fq (q.take i)).length : Int) ∧ s.2.1 = ((tlf r 0 [] (List.replicate c.toNat 900 ++ fq (q.take i))).length : Int)) ∧ 4 - s.2.2.toNat < 4 - (i : Int).toNat) (Sum.elim (fun b : Bool => b = true) fun _ : Unit => True)) := fun st t' => by
   unfold L.zeiw.J6
   rw [if_pos rfl, awake30]
   exact .pure rfl
  rw [if_neg (by simp)]
  refine Ok.iteD (fun _ => awakes _ _) fun h370 => ?_
  refine .bind' (.eq (ix_nat hx) ?_)
  dsimp only
  rw [wr_id (by omega : _ ≤ (P.length : Int) + x.Done ∧ _), wr_id (by omega : _ ≤ 370 * r ∧ _)]
  by_cases hbig : (P.length : Int) + x.Done > 370 * r
  ·rw [show decide ((P.length : Int) + x.Done > 370 * r) = true by simp; omega]; exact awakes _ _
  ·rw [show decide ((P.length : Int) + x.Done > 370 * r) = false by simp; omega]
   unfold L.zeiw.J6
   rw [if_neg (by simp)]
   dsimp only
   refine .bind' (.eq (ix_nat hx) (Ok.iteE (fun h0 => ?_) fun h0 => ?_))
   ·dsimp only at h0
    unfold L.zeiw.J5
    refine .pure ⟨⟨i + 1, by omega, ?_, ?_, ?_⟩, ?_⟩
    ·dsimp only; rw [wr_id (by omega)]; omega
    ·dsimp only; rw [fq_take_succ hx, h0, hP]; simp
    ·dsimp only; rw [fq_take_succ hx, h0, hP]; simp
    ·dsimp only; rw [wr_id (by omega)]; omega
   ·dsimp only at h0
    have hD : 1 ≤ x.Done.toNat := by omega
    have hbP : (i : Int) ∉ P := fun hm => by
     rw [hP] at hm
     rcases List.mem_append.1 hm with hm | hm
     ·obtain ⟨_, e⟩ := List.mem_replicate.1 hm; omega
     ·obtain ⟨y, hy, e⟩ := fq_mem hm
      obtain ⟨j, hj⟩ := List.getElem?_of_mem hy
      have hjl := (gs hj).1
      rw [List.length_take] at hjl
      rw [List.getElem?_take] at hj
      rw [if_pos (by omega)] at hj
      have := hq.lot j y hj; omega
    have hsplit : List.replicate c.toNat 900 ++ (fq q ++ List.replicate z 901) = (P ++ List.replicate x.Done.toNat (i : Int)) ++ (fq (q.drop (i + 1)) ++ List.replicate z 901) := by
     have e1 : fq q = fq (q.take (i + 1)) ++ fq (q.drop (i + 1)) := by rw [← fq_app, List.take_append_drop]
     rw [e1, fq_take_succ hx, hx1.1, hP]
     simp [List.append_assoc]
    have hbR : ∀ y, y ∈ fq (q.drop (i + 1)) ++ List.replicate z 901 → y ≠ (i : Int) := fun y hy => by
     rcases List.mem_append.1 hy with hy | hy
     ·obtain ⟨u, hu, rfl⟩ := fq_mem hy
      obtain ⟨j, hj⟩ := List.getElem?_of_mem hu
      rw [List.getElem?_drop] at hj
      have := hq.lot _ u hj; omega
     ·obtain ⟨_, rfl⟩ := List.mem_replicate.1 hy; omega
    have hlen2 : (P ++ List.replicate x.Done.toNat (i : Int)).length ≤ A.length := by rw [List.length_append, List.length_replicate]; omega
    have hAe : A = P ++ List.replicate x.Done.toNat (i : Int) ++ (fq (q.drop (i + 1)) ++ List.replicate z 901).take (A.length - (P ++ List.replicate x.Done.toNat (i : Int)).length) := by
     have h1 : A = (A ++ F.reverse).take A.length := by rw [List.take_left]
     rw [hA, hsplit, List.take_append, List.take_of_length_le hlen2] at h1
     exact h1
    have hget := tlf_at (r := r) hD hbP (R := (fq (q.drop (i + 1)) ++ List.replicate z 901).take (A.length - (P ++ List.replicate x.Done.toNat (i : Int)).length)) fun y hy => hbR y (List.mem_of_mem_take hy)
    rw [← hAe] at hget
    have hlt := (gs hget).1
    rw [show ((x.Done.toNat : Nat) : Int) = x.Done by omega] at hget
    refine Ok.iteD (fun hge => by omega) fun _ => ?_
    refine .bind' (.eq (ix_nat hget) ?_)
    dsimp only
    rw [if_neg (by simp), if_neg (by simp)]
    unfold L.zeiw.J7
    rw [if_neg (by simp)]
    have hout := (lvol_pos _ (tlf_pos (r := r) A 0 [] (by simp)).1).1
    rw [(tlf_pos (r := r) A 0 [] (by simp)).2] at hout
    have hnew := tlf_new r (i : Int) P x.Done.toNat hD hbP
    unfold L.zeiw.J5
    refine .pure ⟨⟨i + 1, by omega, ?_, ?_, ?_⟩, ?_⟩
    ·dsimp only; rw [wr_id (by omega)]; omega
    ·dsimp only; rw [fq_take_succ hx, hx1.1, ← List.append_assoc, ← hP, List.length_append, List.length_replicate, wr_id (by omega)]; omega
    ·dsimp only
     rw [fq_take_succ hx, hx1.1, ← List.append_assoc, ← hP, hnew, List.length_append, List.length_singleton, wr_id (by simp [lvol] at hout; omega)]; omega
    ·dsimp only; rw [wr_id (by omega)]; omega
 ·rintro (b | _) hb
  ·exact .pure hb
  ·show Ok (L.zeiw.J3 ()) _
   unfold L.zeiw.J3
   rw [awake30]; exact .pure rfl
theorem forecastLots (l : List Int) (w : Int) (hw : 0 ≤ w ∧ w ≤ 255) : L.zeiw l w = some true := by
 have : Ok (L.zeiw l w) fun r => r = true := by
  have wake : Ok (Option.bind L.zuro fun r => some r) fun r => r = true := by rw [awake30]; exact .pure rfl
  unfold L.zeiw
  refine Ok.iteB (fun _ => wake) fun _ => ?_
  refine .bind (new_ok l) fun d0 hd0 => .bind (range_ok hd0 (lo := 20) (hi := 100) (by omega) (by omega) (by omega)) ?_
  rintro ⟨c, d1⟩ ⟨hd1, c1, c2⟩
  dsimp only at hd1 c1 c2 ⊢
  obtain ⟨rr, hr0, hr20⟩ := u8_mod hw (m := 20) (by omega)
  obtain ⟨r, hr⟩ : ∃ r, r = 1 + (rr : Int) := ⟨_, rfl⟩
  have er : wr (1 + ((wr w).tmod 20)) = r := by rw [hr0, wr_id (by omega), hr]
  have hr1 : 1 ≤ r ∧ r ≤ 20 := by omega
  refine .bind (Q := fun q : List Lot => q.length = 4 ∧ ∀ (i : Nat) (x : Lot), q[i]? = some x → x.Batch = (i : Int) ∧ 1 ≤ x.Volume ∧ x.Volume ≤ 80 ∧ x.Done = 0)
   (.loop (fun st => SrcOk ⟨st.1, st.2.1⟩ ∧ (st.2.2.1.length : Int) = st.2.2.2 ∧ st.2.2.1.length ≤ 4 ∧ ∀ (i : Nat) (x : Lot), st.2.2.1[i]? = some x → x.Batch = (i : Int) ∧ 1 ≤ x.Volume ∧ x.Volume ≤ 80 ∧ x.Done = 0) (fun st => 4 - st.2.2.1.length) ⟨hd1, rfl, by simp, by simp⟩ (by dsimp only; omega) ?_) ?_
  ·rintro ⟨l0, a0, q, n0⟩ ⟨i1, i2, i3, i4⟩
   dsimp only at i1 i2 i3 i4
   subst i2
   unfold L.zeiw.B15
   dsimp only
   refine Ok.iteD (fun h => ?_) fun h => .pure ⟨by omega, i4⟩
   refine .bind (range_ok i1 (lo := 1) (hi := 80) (by omega) (by omega) (by omega)) ?_
   rintro ⟨v, d2⟩ ⟨hd2, v1, v2⟩
   dsimp only at hd2 v1 v2
   refine .bind' (.app (by simp; omega) (.pure ⟨⟨hd2, ?_, ?_, ?_⟩, ?_⟩))
   ·dsimp only; rw [wr_id (by omega)]; simp
   ·simp; omega
   ·exact app_all (P := fun i (x : Lot) => x.Batch = (i : Int) ∧ 1 ≤ x.Volume ∧ x.Volume ≤ 80 ∧ x.Done = 0) i4 ⟨rfl, v1, v2, rfl⟩
   ·simp; omega
  intro q ⟨q1, q2⟩
  unfold L.zeiw.J1
  have hx0 : ix (L.zvce c).Segments 0 = some (0, (⟨(⟨#[103]⟩ : ByteArray), 0, 1, c, 0, 0, ([(⟨0, 0, 1000000⟩ : Point), (⟨c, 0, 1000000⟩ : Point)] : List Point)⟩ : Segment)) := ix0
  refine .bind' (.eq hx0 ?_)
  dsimp only
  have hc : 20 ≤ c ∧ c ≤ 100 := ⟨c1, c2⟩
  have hI0 : LI c r 0 q [[⟨900, c⟩]] [] := by
   refine ⟨0, List.replicate c.toNat 900, [], ⟨q1, fun i x hx => by have := q2 i x hx; omega, fun i j x y _ _ hy _ => (q2 j y hy).2.2.2, fun h => absurd h (by omega)⟩, by rw [rle_single (by omega)], ?_, by simp; omega, ?_, by simp, rfl⟩
   ·exact Vd.of (by rw [rle_single (by omega)]; simp) (fun x hx => by obtain ⟨_, rfl⟩ := List.mem_replicate.1 hx; omega) (by simp; omega)
   ·rw [fq_zero fun x hx => by
     obtain ⟨i, hi⟩ := List.getElem?_of_mem hx
     exact (q2 i x hi).2.2.2]
    simp
  refine .bind (Q := Sum.elim (fun _ : Bool => False) fun d : List Lot × List Lot => ∃ fs, LI c r 380 d.1 fs d.2) (.loop (fun st => ∃ t : Nat, t ≤ 380 ∧ st.2.2.2 = (t : Int) ∧ LI c r t st.1 st.2.1 st.2.2.1) (fun st => 380 - st.2.2.2.toNat) ⟨0, by omega, rfl, hI0⟩ (by dsimp only; omega) ?_) ?_
  ·rintro ⟨q, fs, out, _⟩ ⟨t, ht, rfl, hI⟩
   dsimp only at hI
   unfold L.zeiw.B8
   dsimp only
   refine Ok.iteD (fun h => ?_) fun h => .pure ?_
   ·obtain ⟨z, F, A, g1, rfl, g2, g3, g4, g5, rfl⟩ := hI
    rw [er]
    refine .bind (pump_ok g1 hr1) ?_
    rintro p ⟨q', z', b, b1, b2, b3, hp, hq', hfed⟩
    have step : Ok (L.zeiw.J10 w (c, d1) (q, [rle F], tlf r 0 [] A, (t : Int)) (q', b)) (Sum.elim (fun st => (∃ t : Nat, t ≤ 380 ∧ st.2.2.2 = (t : Int) ∧ LI c r t st.1 st.2.1 st.2.2.1) ∧ 380 - st.2.2.2.toNat < 380 - (t : Int).toNat) (Sum.elim (fun _ : Bool => False) fun d : List Lot × List Lot => ∃ fs, LI c r 380 d.1 fs d.2)) := by
     refine (tick_lots hc hr1 (by omega) g1 hq' ⟨b1, b2⟩ g2 g3 g4 g5 hfed er).mono ?_
     rintro (st | o) hs
     ·exact ⟨⟨t + 1, by omega, hs.1, hs.2⟩, by rw [hs.1]; omega⟩
     ·exact hs.elim
    rcases hp with rfl | ⟨hp, rfl, rfl⟩
    ·exact Ok.iteE (fun _ => step) fun h => absurd rfl h
    ·exact Ok.iteE (fun h => absurd h hp) fun _ => step
   ·obtain rfl : t = 380 := by omega
    exact ⟨fs, hI⟩
  ·rintro (_ | ⟨q', out⟩) hd
   ·exact hd.elim
   ·obtain ⟨fs, hI⟩ := hd
    exact last_ok hc hr1 er hI rfl
 obtain ⟨r, h1, rfl⟩ := this
 exact h1
end Go.Proofs.YtaliejncdnegeaaGreat
