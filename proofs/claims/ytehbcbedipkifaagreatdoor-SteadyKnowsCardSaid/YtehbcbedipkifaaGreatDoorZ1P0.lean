/- Plain proofs. No condition. -/
import Derived.Test.YtehbcbedipkifaaGreatDoorZvP0
import Derived.Test.YtehbcbedipkifaaGreatDoorZvD
import Derived.KernelRfl
import Derived.Test.YtehbcbedipkifaaGreatDoorZvP1
set_option maxRecDepth 100000
namespace Go.Proofs.YtehbcbedipkifaaGreatDoor
set_option linter.unusedVariables false
set_option linter.unusedSimpArgs false
open Go.Aw
theorem ref12Names_ok {n : Network} (h1 : n.Segments.length ≤ 1000) (h2 : n.Ports.length ≤ 1000) (h3 : n.Stations.length ≤ 1000) :
  Ok (L.zcg n) fun r => r.l = [n.Nodes, n.Segments.map (·.Name), n.Ports.map (·.Name), n.Stations.map (·.Name)] := by
 unfold L.zcg
 refine .bind (maps_ok (g := (·.Name)) (fun _ _ _ => rfl) h1) ?_
 rintro _ rfl
 unfold L.zcg.J1
 refine .bind (maps_ok (g := (·.Name)) (fun _ _ _ => rfl) h2) ?_
 rintro _ rfl
 unfold L.zcg.J2
 refine .bind (maps_ok (g := (·.Name)) (fun _ _ _ => rfl) h3) ?_
 rintro _ rfl
 unfold L.zcg.J3
 exact .pure rfl
theorem Ok.ixs {s : ByteArray} {i : Int} {P : Nat × Int → Prop} (h0 : 0 ≤ i) (h1 : i < (s.size : Int)) (h : ∀ (k : Nat) (x : Int), i = (k : Int) → 0 ≤ x ∧ x ≤ 255 → P (k, x)) : Ok (ixs s i) P := by
 unfold Aw.ixs
 refine ⟨_, if_pos ⟨h0, h1⟩, h _ _ (by omega) ?_⟩
 have := (s.data.getD i.toNat 0).toNat_lt
 omega
theorem abs16 {x : Int} (h : -1000000 ≤ x ∧ x ≤ 1000000) : L.zds x = max x (-x) := by
 unfold L.zds
 rw [wr_id (by omega), Int.zero_sub]
theorem endsOf16 {s : Segment} {r : Int} : L.zco s r = L.zag s r := rfl
structure Sum16 (b : Int) (st : Int × Int) (d : Int) : Prop where
 come : 0 ≤ st.1 ∧ st.1 ≤ b
 leave : 0 ≤ st.2 ∧ st.2 ≤ b
 diff : st.1 - st.2 = d
theorem sums16_ok {n : Network} (hn : NetOk n) {p : Plan} (h4 : p.Rates.length = n.Segments.length) (h5 : p.Ports.length = n.Ports.length) (hr : ∀ (k : Nat) (r : Int), p.Rates[k]? = some r → -1000 ≤ r ∧ r ≤ 1000)
  (hp : ∀ (k : Nat) (x : Int), p.Ports[k]? = some x → -1000 ≤ x ∧ x ≤ 1000) (v : Nat) : Ok (L.zat n p (v : Int)) fun r => r.1 - r.2 = dot (wt n v) p.Rates + dot (wp n v) p.Ports := by
 have h2 := hn.segs1; have h3 := hn.ports1
 unfold L.zat
 refine .bind (.forS (fun k (st : Int × Int) => Sum16 (1000 * k) st (dot (wt n v) (p.Rates.take k))) ⟨by simp, by simp, by simp [dot_nil]⟩ ?_ fun st h => h) ?_
 ·rintro k s ⟨a, b⟩ hs ⟨i1, i2, i3⟩
  dsimp only at i1 i2 i3
  have hkl := (gs hs).1
  have hrk : p.Rates[k]? = some p.Rates[k] := gq (by omega)
  have hrr := hr k _ hrk
  have he := (hn.segs k s hs).ends
  have hd := dot_take_succ (w := wt n v) (a := ind s.To v - ind s.From v) (by unfold wt; rw [List.getElem?_map, hs]; rfl) hrk
  generalize p.Rates[k] = r at hrk hrr hd
  unfold L.zat.B5
  refine .bind' (.eq (ix_nat hrk) (Ok.iteE (fun h0 => ?_) fun h0 => ?_))
  ·dsimp only at h0
   subst h0
   unfold L.zat.J6
   rw [hd]
   exact .pure ⟨by dsimp only; omega, by dsimp only; omega, by simp; omega⟩
  dsimp only at h0 ⊢
  have ha := abs16 (x := r) (by omega)
  rw [ha]
  have j7 : ∀ (j : Int), 0 ≤ j ∧ j ≤ 1000 * k + 1000 → ∀ l : Int, l = ind (L.zag s r).1 v → j = b + max r (-r) * l → Ok (L.zat.J7 (v : Int) s (a, b) (k, r) j) fun st => Sum16 (1000 * ((k + 1 : Nat) : Int)) st (dot (wt n v) (p.Rates.take (k + 1))) := by
   intro j hj l hl hjl
   unfold L.zat.J7 L.zat.J6
   dsimp only
   rw [ha, endsOf16]
   have fin : ∀ c : Int, c = ind (L.zag s r).2 v → a + max r (-r) * c - j = dot (wt n v) (p.Rates.take (k + 1)) := by
    intro c hc
    subst hc; subst hl; subst hjl
    rw [hd]
    rcases endsOf (s := s) h0 with ⟨e, hr0⟩ | ⟨e, hr0⟩
    ·rw [e]
     dsimp only
     rw [show max r (-r) = -r by omega, Int.neg_mul, Int.neg_mul, Int.sub_mul, Int.mul_comm r, Int.mul_comm r]; omega
    ·rw [e]
     dsimp only
     rw [show max r (-r) = r by omega, Int.sub_mul, Int.mul_comm r, Int.mul_comm r]; omega
   refine Ok.iteE (fun hv => .pure ?_) fun hv => .pure ?_
   ·rw [wr_id (by omega)]
    have := fin 1 (by rw [hv, ind_self])
    exact ⟨by dsimp only; omega, by dsimp only; omega, by dsimp only; omega⟩
   ·have := fin 0 (by rw [ind_ne hv])
    exact ⟨by dsimp only; omega, by dsimp only; omega, by dsimp only; omega⟩
  rw [endsOf16]
  refine Ok.iteE (fun hv => j7 _ ?_ 1 (by rw [hv, ind_self]) ?_) fun hv => j7 _ ?_ 0 (by rw [ind_ne hv]) ?_
  ·rw [wr_id (by omega)]; omega
  ·rw [wr_id (by omega)]; omega
  ·omega
  ·omega
 ·rintro ⟨a, b⟩ hi
  rw [List.take_of_length_le (by omega)] at hi
  unfold L.zat.J1
  refine .bind (.forS (fun k (st : Int × Int) => Sum16 (8000 + 1000 * k) st (dot (wt n v) p.Rates + dot (wp n v) (p.Ports.take k))) ⟨by have := hi.come; dsimp only at this ⊢; omega, by have := hi.leave; dsimp only at this ⊢; omega, by have := hi.diff; dsimp only at this ⊢; simp [dot_nil]; omega⟩ ?_ fun st h => h) ?_
  ·rintro k s ⟨a, b⟩ hs ⟨i1, i2, i3⟩
   dsimp only at i1 i2 i3
   have hkl := (gs hs).1
   have hrk : p.Ports[k]? = some p.Ports[k] := gq (by omega)
   have hrr := hp k _ hrk
   have hd := dot_take_succ (w := wp n v) (a := ind s.Node v) (by unfold wp; rw [List.getElem?_map, hs]; rfl) hrk
   generalize p.Ports[k] = r at hrk hrr hd
   unfold L.zat.B3 L.zat.J4
   refine Ok.iteE (fun hv => .bind' (.eq (ix_nat hrk) (.pure ?_))) fun hv => .pure ?_
   ·rw [hv, ind_self] at hd
    dsimp only
    rw [wr_id (x := 0 - r) (by omega), wr_id (by omega), wr_id (by omega), hd]
    exact ⟨by dsimp only; omega, by dsimp only; omega, by dsimp only; omega⟩
   ·rw [ind_ne hv] at hd
    rw [hd]
    exact ⟨by dsimp only; omega, by dsimp only; omega, by dsimp only; omega⟩
  ·rintro ⟨a, b⟩ hi
   rw [List.take_of_length_le (by omega)] at hi
   unfold L.zat.J2
   exact .pure hi.diff
theorem nameOk03 {c : UInt8} (hc : c = 110 ∨ c = 103 ∨ c = 113 ∨ c = 115) {k : Nat} (hk : k < 26) : L.zbd (nm c k) = some true := by
 rcases hc with rfl | rfl | rfl | rfl <;>
  rcases lt26 hk with rfl | rfl | rfl | rfl | rfl | rfl | rfl | rfl | rfl | rfl | rfl | rfl | rfl | rfl | rfl | rfl | rfl | rfl | rfl | rfl | rfl | rfl | rfl | rfl | rfl | rfl <;> kernel_rfl
theorem twice12 {c : UInt8} {l : List ByteArray} (h : Named c l) : L.zcp l = some false := by
 have : Ok (L.zcp l) fun r => r = false := by
  obtain ⟨h1, h2⟩ := h
  unfold L.zcp
  refine .bind' (.forL (fun _ _ => True) (fun _ => False) trivial ?_ (fun _ _ => .pure rfl) fun _ h => h.elim)
  intro k x _ hx _
  have hkl := (gs hx).1
  unfold L.zcp.B2
  refine .bind (Q := fun d : Bool ⊕ Unit => d = .inr ()) ?_ ?_
  ·refine .loop (fun st : Int => 0 ≤ st ∧ st ≤ (k : Int)) (fun st => k - st.toNat) ⟨by omega, by omega⟩ (by omega) ?_
   rintro st ⟨h0, h3⟩
   unfold L.zcp.B4
   refine Ok.iteD (fun hlt => .bind' (.ix' h0 (by omega) fun j y hj hy => Ok.iteB (fun he => ?_) fun _ => .pure ?_)) fun _ => .pure rfl
   ·have e1 := h2 k x hx; have e2 := h2 j y hy
    subst e1; subst e2
    have := nm_inj (by omega) (by omega) he
    omega
   ·rw [wr_id (by omega)]
    exact ⟨⟨by omega, by omega⟩, by omega⟩
  ·rintro _ rfl
   exact .pure trivial
 obtain ⟨r, h, rfl⟩ := this
 exact h
theorem proper12 {nodes k : Nat} {s : Segment} (h : SegOk nodes k s) : L.zba s = some true := by
 have : Ok (L.zba s) fun r => r = true := by
  have hp := h.points
  have h1 := h.ends; have h2 := h.cap; have h3 := h.resist; have h4 := h.wave; have h5 := hp.len
  have e0 : s.Points[0]? = some s.Points[0] := gq (by omega)
  have el : s.Points[s.Points.length - 1]? = some s.Points[s.Points.length - 1] := gq (by omega)
  have q0 := hp.first _ e0; have ql := hp.last _ el
  unfold L.zba
  refine Ok.iteE (fun h => by omega) fun _ => Ok.iteN (fun hb => by simp [L.zao] at hb; omega) fun _ => Ok.iteN (fun hb => by simp [L.zao] at hb; omega) fun _ => Ok.iteN (fun hb => by simp [L.zao] at hb; omega) fun _ => ?_
  refine .bind' (.ix 0 rfl (by omega) (Ok.iteU (fun h => absurd q0 h) fun _ => ?_))
  rw [wr_id (by omega)]
  refine .bind' (.ix (s.Points.length - 1) (by omega) (by omega) ?_)
  dsimp only
  rw [ql]
  unfold L.zba.J1
  refine Ok.iteB (fun h => by simp at h) fun _ => .bind' (.forL (fun _ _ => True) (fun _ => False) trivial ?_ (fun _ _ => .pure rfl) fun _ h => h.elim)
  intro i p _ hi _
  have hm := mg hi
  have g1 := hp.height p hm; have g2 := hp.limit p hm
  have no : Ok (L.zba.J4 (!(L.zao p.Limit 0 100000000))) (Sum.elim (fun _ : Unit => True) fun _ : Bool => False) := by
   unfold L.zba.J4
   refine Ok.iteN (fun hb => by simp [L.zao] at hb; omega) fun _ => .pure trivial
  unfold L.zba.B3
  refine Ok.iteD (fun h0 => ?_) fun h0 => Ok.iteN (fun hb => by simp [L.zao] at hb; omega) fun _ => no
  rw [wr_id (by have := (gs hi).1; omega)]
  obtain ⟨j, rfl⟩ : ∃ j, i = j + 1 := ⟨i - 1, by omega⟩
  have hjl : j < s.Points.length := by have := (gs hi).1; omega
  have hj : s.Points[j]? = some s.Points[j] := gq hjl
  have hup := hp.up j _ p hj hi
  refine .bind' (.ix j (by omega) hjl (Ok.iteD (fun h => by dsimp only at h; omega) fun _ => Ok.iteN (fun hb => by simp [L.zao] at hb; omega) fun _ => no))
 obtain ⟨r, h, rfl⟩ := this
 exact h
theorem check12 {n : Network} (h : NetOk n) : L.zad n = some 0 := by
 have : Ok (L.zad n) fun r => r = 0 := by
  have h1 := h.nodes; have h2 := h.segs1; have h3 := h.ports1; have h4 := h.sts1; have h5 := h.vapour; have h6 := h.settle
  have T : ∀ {α β : Type} {l : List α} {f : Nat → α → Unit → Option (Unit ⊕ β)} {K : Unit ⊕ β → Option β} {P : β → Prop}, (∀ k x, l[k]? = some x → f k x () = some (.inl ())) → Ok (K (.inl ())) P → Ok ((forL f 0 l ()).bind K) P := by
   intro α β l f K P hf hK
   refine .bind' (.forL (fun _ _ => True) (fun _ => False) trivial (fun k x st hx _ => ?_) (fun _ _ => hK) fun _ h => h.elim)
   exact ⟨_, hf k x hx, trivial⟩
  unfold L.zad
  refine Ok.iteB (fun hb => by simp [L.zao] at hb; omega) fun _ => T (fun k x hx => ?_) ?_
  ·have := (h.segs k x hx).points.len
   unfold L.zad.B24; rw [if_neg (by simp [L.zao]; omega)]
  simp only [Sum.elim_inl]
  unfold L.zad.J1
  refine .bind (ref12Names_ok (by omega) (by omega) (by omega)) fun r hr => ?_
  have hnm : ∀ (k : Nat) (hk : k < 4), r.l[k]'(by rw [hr]; exact hk) = ([n.Nodes, n.Segments.map (·.Name), n.Ports.map (·.Name), n.Stations.map (·.Name)])[k]'hk := fun k hk => by simp only [hr]
  refine .bind' (.forI (fun _ _ => True) (fun _ => False) trivial ?_ ?_ fun _ h => h.elim)
  ·intro k _ hk _
   obtain ⟨c, hc, hl⟩ := h.named _ (List.getElem_mem (l := [n.Nodes, n.Segments.map (·.Name), n.Ports.map (·.Name), n.Stations.map (·.Name)]) (n := k) hk)
   unfold L.zad.B21
   refine .bind' (.ix k rfl (by rw [hr]; exact hk) ?_)
   dsimp only
   rw [hnm k hk]
   refine .bind' (.forL (fun _ _ => True) (fun _ => False) trivial ?_ (fun _ _ => .pure trivial) fun _ h => h.elim)
   intro j x _ hx _
   have := hl.2 j x hx
   have hjl := (gs hx).1
   subst this
   unfold L.zad.B23
   rw [nameOk03 hc (by have := hl.1; omega)]
   exact .bind' (.pure (Ok.iteN (fun h => by cases h) fun _ => .pure trivial))
  intro _ _
  simp only [Sum.elim_inl]
  unfold L.zad.J2
  refine .bind' (.forI (fun _ _ => True) (fun _ => False) trivial ?_ ?_ fun _ h => h.elim)
  ·intro k _ hk _
   obtain ⟨c, hc, hl⟩ := h.named _ (List.getElem_mem (l := [n.Nodes, n.Segments.map (·.Name), n.Ports.map (·.Name), n.Stations.map (·.Name)]) (n := k) hk)
   unfold L.zad.B20
   refine .bind' (.ix k rfl (by rw [hr]; exact hk) ?_)
   dsimp only
   rw [hnm k hk, twice12 hl]
   exact .bind' (.pure (Ok.iteB (fun h => by cases h) fun _ => .pure trivial))
  intro _ _
  simp only [Sum.elim_inl]
  unfold L.zad.J3
  refine .bind' (.forL (fun _ _ => True) (fun _ => False) trivial ?_ ?_ fun _ h => h.elim)
  ·intro k x _ hx _
   have hkl := (gs hx).1
   unfold L.zad.B17
   refine .bind (Q := fun d : Int ⊕ Unit => d = .inr ()) ?_ ?_
   ·refine .loop (fun st : Int => 0 ≤ st ∧ st ≤ (k : Int)) (fun st => k - st.toNat) ⟨by omega, by omega⟩ (by omega) ?_
    rintro st ⟨h0, h1⟩
    unfold L.zad.B19
    refine Ok.iteD (fun hlt => .bind' (.ix' h0 (by omega) fun j y hj hy => Ok.iteE (fun he => ?_) fun _ => .pure ?_)) fun _ => .pure rfl
    ·have := h.stsUp j k y x (by omega) hy hx
     dsimp only at he; omega
    ·rw [wr_id (by omega)]
     exact ⟨⟨by omega, by omega⟩, by omega⟩
   ·rintro _ rfl
    exact .pure trivial
  intro _ _
  simp only [Sum.elim_inl]
  unfold L.zad.J4
  refine T (fun k x hx => ?_) ?_
  ·have := (h.segs k x hx).ends
   unfold L.zad.B16; rw [wr_id (by omega), if_neg (by simp [L.zao]; omega)]
  simp only [Sum.elim_inl]
  unfold L.zad.J5
  refine T (fun k x hx => ?_) ?_
  ·have := (h.ports k x hx).node
   unfold L.zad.B15; rw [wr_id (by omega), if_neg (by simp [L.zao]; omega)]
  simp only [Sum.elim_inl]
  unfold L.zad.J6
  refine T (fun k x hx => ?_) ?_
  ·have := (h.sts k x hx).node
   unfold L.zad.B14; rw [wr_id (by omega), if_neg (by simp [L.zao]; omega)]
  simp only [Sum.elim_inl]
  unfold L.zad.J7
  refine T (fun k x hx => ?_) ?_
  ·unfold L.zad.B13; rw [proper12 (h.segs k x hx)]; rfl
  simp only [Sum.elim_inl]
  unfold L.zad.J8
  refine T (fun k x hx => ?_) ?_
  ·have := (h.ports k x hx).pressure
   unfold L.zad.B12; rw [if_neg (by simp [L.zao]; omega)]
  simp only [Sum.elim_inl]
  unfold L.zad.J9
  refine T (fun k x hx => ?_) ?_
  ·have a1 := (h.sts k x hx).head; have a2 := (h.sts k x hx).fall; have a3 := (h.sts k x hx).suction
   unfold L.zad.B11; rw [if_neg (by simp [L.zao]; omega)]
  simp only [Sum.elim_inl]
  unfold L.zad.J10
  exact Ok.iteB (fun hb => by simp [L.zao] at hb; omega) fun _ => .pure rfl
 obtain ⟨r, h, rfl⟩ := this
 exact h
theorem order16_full {n : Network} (hn : NetOk n) {p : Plan} (h4 : p.Rates.length = n.Segments.length) (hac : Acyc n p) : Ok (L.zar n p) fun r => r.length = n.Nodes.length := by
 have h1 := hn.nodes; have h2 := hn.segs1
 unfold L.zar
 refine .bind' (.mk n.Nodes.length rfl (by omega) ?_)
 refine .bind (Q := fun r : List Int => r.length = n.Nodes.length) ?_ fun r hr => .pure hr
 refine .loop (fun st : List Int × List Bool => st.2.length = n.Nodes.length ∧ st.1.length = cnt st.2) (fun st => n.Nodes.length - cnt st.2)
  ⟨by simp, by simp [cnt_rep]⟩ (by dsimp only; omega) ?_
 rintro ⟨out, there⟩ ⟨i1, i2⟩
 dsimp only at i1 i2
 have hc := cnt_le there
 unfold L.zar.B1
 refine .bind (Q := fun k : Int => (k = -1 ∧ ∀ j : Nat, there[j]? = some false → Blocked n p there j) ∨ ∃ j : Nat, k = (j : Int) ∧ there[j]? = some false) ?_ ?_
 ·refine .forS (fun m (k : Int) => (k = -1 ∧ ∀ j : Nat, j < m → there[j]? = some false → Blocked n p there j) ∨ ∃ j : Nat, k = (j : Int) ∧ there[j]? = some false) (.inl ⟨rfl, fun j h => absurd h (Nat.not_lt_zero _)⟩) ?_ ?_
  ·intro k x st hx hst
   have hkl := (gs hx).1
   have ht : there[k]? = some there[k] := gq (by omega)
   unfold L.zar.B3
   refine .bind' (.eq (ix_nat ht) ?_)
   refine .bind (Q := fun b => (b = true → there[k]? = some false) ∧ (b = false → there[k]? = some false → Blocked n p there k)) ?_ ?_
   ·refine .forS (fun m (b : Bool) => (b = true → there[k]? = some false) ∧ (b = false → there[k]? = some false → Blocked n p there k)) ?_ ?_ fun b h => h
    ·refine ⟨fun hb => ?_, fun hb hf => ?_⟩
     ·rw [ht]; simpa using hb
     ·rw [ht] at hf; simp at hf; simp [hf] at hb
    ·intro i s b hs hb
     have hil := (gs hs).1
     have hr : p.Rates[i]? = some (p.Rates[i]'(by omega)) := gq _
     generalize p.Rates[i]'(by omega) = r at hr
     have he := (hn.segs i s hs).ends
     unfold L.zar.B6 L.zar.J7
     refine .bind' (.eq (ix_nat hr) (Ok.iteU (fun hr0 => Ok.iteB (fun hbt => Ok.iteU (fun hto => .pure ⟨fun _ => hb.1 hbt, fun h => by cases h⟩) fun hto => ?_) fun hbf => .pure ⟨fun h => (by cases h), fun _ => hb.2 hbf⟩) fun _ => .pure hb))
     dsimp only at hr0 hto ⊢
     rw [endsOf16] at hto
     have hfr : 0 ≤ (L.zag s r).1 ∧ (L.zag s r).1 < (n.Nodes.length : Int) := by
      unfold L.zag
      split <;> dsimp only <;> omega
     rw [endsOf16]
     refine .bind' (.ix' hfr.1 (by omega) fun f y hf hy => .pure ⟨fun _ => hb.1 hbt, fun hyf _ => ⟨i, s, r, f, hs, hr, hr0, hto, hf, ?_⟩⟩)
     dsimp only at hy hyf
     rw [hy, hyf]
   ·rintro b ⟨b1, b2⟩
    unfold L.zar.J5 L.zar.J4
    refine Ok.iteB (fun h => .pure (.inr ⟨k, rfl, b1 ?_⟩)) fun hno => .pure ?_
    ·simp at h; exact h.1
    ·rcases hst with ⟨rfl, hst⟩ | hst
     ·refine .inl ⟨rfl, fun j hj hf => ?_⟩
      by_cases hjk : j = k
      ·subst hjk
       simp at hno
       exact b2 hno hf
      ·exact hst j (by omega) hf
     ·exact .inr hst
  ·rintro k (⟨rfl, h⟩ | h)
   ·exact .inl ⟨rfl, fun j hj => h j (by have := (gs hj).1; omega) hj⟩
   ·exact .inr h
 ·intro k hk
  unfold L.zar.J2
  refine Ok.iteD (fun hneg => .pure ?_) fun h0 => ?_
  ·rcases hk with ⟨_, h⟩ | ⟨j, rfl, _⟩
   ·have := cnt_all (hac there i1 h)
    simp only [Sum.elim_inr]
    omega
   ·omega
  ·rcases hk with ⟨rfl, _⟩ | ⟨j, rfl, hj1⟩
   ·exact absurd (by decide) h0
   refine .bind' (.app (by simp; omega) (.bind' (.eq (ix_nat hj1) (.pure ?_))))
   have hcs := cnt_set hj1
   have hcl := cnt_le (there.set j true)
   simp at hcl
   exact ⟨⟨by simp [i1], by simp [hcs, i2]⟩, by dsimp only; omega⟩
theorem check16 {n : Network} (hn : NetOk n) {p : Plan} (h : FlowOk n p) : L.zbi n p = some 0 := by
 have : Ok (L.zbi n p) fun r => r = 0 := by
  have h1 := hn.nodes; have h2 := hn.segs1; have h3 := hn.ports1; have h4 := h.rl; have h5 := h.pl; have h6 := h.ml
  have hrr : ∀ (k : Nat) (r : Int), p.Rates[k]? = some r → -1000 ≤ r ∧ r ≤ 1000 := fun k r hr => by
   have hkl := (gs hr).1
   have hs : n.Segments[k]? = some (n.Segments[k]'(by omega)) := gq _
   have := h.rng k r _ hr hs
   omega
  unfold L.zbi
  rw [check12 hn]
  refine .bind' (.pure (Ok.iteU (fun h => absurd rfl h) fun _ => Ok.iteB (fun hb => by simp [h4, h5, h6] at hb) fun _ => ?_))
  refine .bind' (.forL (fun _ _ => True) (fun _ => False) trivial ?_ ?_ fun _ h => h.elim)
  ·intro k r _ hr _
   have hkl := (gs hr).1
   have hs : n.Segments[k]? = some n.Segments[k] := gq (by omega)
   have hc := (hn.segs k _ hs).cap
   have hg := h.rng k r _ hr hs
   unfold L.zbi.B6
   refine .bind' (.eq (ix_nat hs) (Ok.iteB (fun hb => ?_) fun _ => .pure trivial))
   dsimp only at hb
   rw [wr_id (by omega)] at hb
   simp at hb; omega
  intro _ _
  simp only [Sum.elim_inl]
  unfold L.zbi.J1
  refine .bind' (.forL (fun _ _ => True) (fun _ => False) trivial ?_ ?_ fun _ h => h.elim)
  ·intro k x _ hx _
   have := h.prt k x hx
   unfold L.zbi.B5
   exact Ok.iteB (fun hb => by simp at hb; omega) fun _ => .pure trivial
  intro _ _
  simp only [Sum.elim_inl]
  unfold L.zbi.J2
  refine .bind' (.forL (fun _ _ => True) (fun _ => False) trivial ?_ ?_ fun _ h => h.elim)
  ·intro k x _ hx _
   have hkl := (gs hx).1
   unfold L.zbi.B4
   refine .bind (sums16_ok hn h4 h5 hrr h.prt k) fun r hr => Ok.iteU (fun hne => ?_) fun _ => .pure trivial
   have := h.bal k (by omega)
   omega
  intro _ _
  simp only [Sum.elim_inl]
  unfold L.zbi.J3
  exact .bind (order16_full hn h4 h.acyc) fun r hr => Ok.iteU (fun hne => by omega) fun _ => .pure rfl
 obtain ⟨r, h, rfl⟩ := this
 exact h
def InN (n : Network) (p : Plan) (v : Int) : Prop :=
 (∃ (k : Nat) (q : Port) (x : Int), n.Ports[k]? = some q ∧ p.Ports[k]? = some x ∧ 0 < x ∧ q.Node = v) ∨ (∃ (j : Nat) (s : Segment) (r : Int), Fl n p j s r ∧ (L.zag s r).2 = v)
theorem through16 {n : Network} {p : Plan} (hn : NetOk n) (hp : FlowOk n p) {v : Nat} (hv : v < n.Nodes.length) : Ok (L.zfg n p (v : Int)) fun r => r.2 = 0 ∧ (0 < r.1 ↔ InN n p (v : Int)) := by
 have h1 := hn.segs1; have h2 := hp.rl; have h3 := hn.ports1; have h4 := hp.pl
 unfold L.zfg
 rw [check16 hn hp]
 refine .bind' (.pure (Ok.iteU (fun h => absurd rfl h) fun _ => ?_))
 rw [if_neg (by simp; omega)]
 refine .bind (Q := fun r : Int × Int => 0 < r.1 ↔ InN n p (v : Int)) ?_ fun r hr => .pure ⟨rfl, hr⟩
 unfold L.zat
 refine .bind (.forS (fun k (st : Int × Int) => (0 ≤ st.1 ∧ st.1 ≤ 1000 * k) ∧ (0 ≤ st.2 ∧ st.2 ≤ 1000 * k) ∧ (0 < st.1 ↔ ∃ (j : Nat) (s : Segment) (r : Int), j < k ∧ Fl n p j s r ∧ (L.zag s r).2 = (v : Int))) ⟨⟨by simp, by simp⟩, ⟨by simp, by simp⟩, by simp⟩ ?_ fun st h => h) ?_
 ·rintro k s ⟨a, c⟩ hs ⟨⟨i1, i2⟩, ⟨i3, i4⟩, i5⟩
  dsimp only at i1 i2 i3 i4 i5
  have hk := (gs hs).1
  have hr : p.Rates[k]? = some (p.Rates[k]'(by omega)) := gq _
  have hg := hp.rng k _ s hr hs
  have same : (¬ (p.Rates[k]'(by omega) ≠ 0 ∧ (L.zag s (p.Rates[k]'(by omega))).2 = (v : Int))) → (0 < a ↔ ∃ (j : Nat) (s : Segment) (r : Int), j < k + 1 ∧ Fl n p j s r ∧ (L.zag s r).2 = (v : Int)) := by
   intro hno
   rw [i5]
   constructor
   ·rintro ⟨j, s', r', hj, h⟩; exact ⟨j, s', r', by omega, h⟩
   ·rintro ⟨j, s', r', hj, hf, ht⟩
    by_cases hjk : j = k
    ·subst hjk
     have g1 := hf.seg; have g2 := hf.rate
     rw [hs] at g1; cases g1
     rw [hr] at g2; cases g2
     exact absurd ⟨hf.ne, ht⟩ hno
    ·exact ⟨j, s', r', by omega, hf, ht⟩
  have j7 : p.Rates[k]'(by omega) ≠ 0 → ∀ d, 0 ≤ d ∧ d ≤ 1000 * ((k + 1 : Nat) : Int) → Ok (L.zat.J7 (v : Int) s (a, c) (k, p.Rates[k]'(by omega)) d) fun st => (0 ≤ st.1 ∧ st.1 ≤ 1000 * ((k + 1 : Nat) : Int)) ∧ (0 ≤ st.2 ∧ st.2 ≤ 1000 * ((k + 1 : Nat) : Int)) ∧ (0 < st.1 ↔ ∃ (j : Nat) (s : Segment) (r : Int), j < k + 1 ∧ Fl n p j s r ∧ (L.zag s r).2 = (v : Int)) := by
   intro hne d hd
   unfold L.zat.J7 L.zat.J6
   dsimp only
   rw [ends16, absq _ ⟨hg.1, hg.2.1⟩]
   refine Ok.iteE (fun ht => .pure ?_) fun ht => .pure ⟨⟨i1, by dsimp only; omega⟩, hd, same fun h => ht h.2⟩
   rw [wr_id (by omega)]
   refine ⟨⟨by dsimp only; omega, by dsimp only; omega⟩, hd, ?_⟩
   dsimp only
   constructor
   ·exact fun _ => ⟨k, s, _, by omega, ⟨hs, hr, hne⟩, ht⟩
   ·intro _; omega
  unfold L.zat.B5
  refine .bind' (.eq (ix_nat hr) (Ok.iteE (fun h0 => ?_) fun h0 => ?_))
  ·unfold L.zat.J6
   dsimp only at h0
   exact .pure ⟨⟨i1, by dsimp only; omega⟩, ⟨i3, by dsimp only; omega⟩, same fun h => h.1 h0⟩
  ·dsimp only at h0 ⊢
   rw [ends16, absq _ ⟨hg.1, hg.2.1⟩]
   refine Ok.iteE (fun _ => ?_) fun _ => j7 h0 _ ⟨i3, by omega⟩
   rw [wr_id (by omega)]
   exact j7 h0 _ ⟨by omega, by omega⟩
 ·rintro ⟨a, c⟩ ⟨⟨i1, i2⟩, ⟨i3, i4⟩, i5⟩
  dsimp only at i1 i2 i3 i4 i5
  unfold L.zat.J1
  refine .bind (.forS (fun k (st : Int × Int) => (0 ≤ st.1 ∧ st.1 ≤ 8000 + 1000 * k) ∧ (0 ≤ st.2 ∧ st.2 ≤ 8000 + 1000 * k) ∧ (0 < st.1 ↔ (∃ (j : Nat) (q : Port) (x : Int), j < k ∧ n.Ports[j]? = some q ∧ p.Ports[j]? = some x ∧ 0 < x ∧ q.Node = (v : Int)) ∨ 0 < a)) ⟨⟨i1, by dsimp only; omega⟩, ⟨i3, by dsimp only; omega⟩, by simp⟩ ?_ fun st h => h) ?_
  ·rintro k q ⟨a', c'⟩ hq ⟨⟨k1, k2⟩, ⟨k3, k4⟩, k5⟩
   dsimp only at k1 k2 k3 k4 k5
   have hk := (gs hq).1
   have hx : p.Ports[k]? = some (p.Ports[k]'(by omega)) := gq _
   have hg := hp.prt k _ hx
   have same : (¬ (0 < p.Ports[k]'(by omega) ∧ q.Node = (v : Int))) → ((∃ (j : Nat) (q : Port) (x : Int), j < k + 1 ∧ n.Ports[j]? = some q ∧ p.Ports[j]? = some x ∧ 0 < x ∧ q.Node = (v : Int)) ↔ ∃ (j : Nat) (q : Port) (x : Int), j < k ∧ n.Ports[j]? = some q ∧ p.Ports[j]? = some x ∧ 0 < x ∧ q.Node = (v : Int)) := by
    intro hno
    constructor
    ·rintro ⟨j, q', x', hj, g1, g2, g3, g4⟩
     by_cases hjk : j = k
     ·subst hjk
      rw [hq] at g1; cases g1
      rw [hx] at g2; cases g2
      exact absurd ⟨g3, g4⟩ hno
     ·exact ⟨j, q', x', by omega, g1, g2, g3, g4⟩
    ·rintro ⟨j, q', x', hj, h⟩; exact ⟨j, q', x', by omega, h⟩
   unfold L.zat.B3 L.zat.J4
   refine Ok.iteE (fun hnode => .bind' (.eq (ix_nat hx) (.pure ?_))) fun hnode => .pure ⟨⟨k1, by dsimp only; omega⟩, ⟨k3, by dsimp only; omega⟩, by dsimp only; rw [same fun h => hnode h.2]; exact k5⟩
   dsimp only
   rw [wr_id (x := 0 - p.Ports[k]'(by omega)) (by omega), wr_id (x := a' + _) (by omega), wr_id (by omega)]
   refine ⟨⟨by omega, by omega⟩, ⟨by omega, by omega⟩, ?_⟩
   by_cases hpos : 0 < p.Ports[k]'(by omega)
   ·constructor
    ·exact fun _ => .inl ⟨k, q, _, by omega, hq, hx, hpos, hnode⟩
    ·intro _; omega
   ·rw [same fun h => hpos h.1, ← k5]
    omega
  ·rintro ⟨a', c'⟩ ⟨_, _, k5⟩
   unfold L.zat.J2
   refine .pure ?_
   dsimp only at k5 ⊢
   rw [k5, i5]
   unfold InN
   constructor
   ·rintro (⟨j, q, x, _, h⟩ | ⟨j, s, r, _, h⟩)
    ·exact .inl ⟨j, q, x, h⟩
    ·exact .inr ⟨j, s, r, h⟩
   ·rintro (⟨j, q, x, h⟩ | ⟨j, s, r, h⟩)
    ·exact .inl ⟨j, q, x, (gs h.1).1, h⟩
    ·exact .inr ⟨j, s, r, (gs h.1.seg).1, h⟩
theorem Sol.known {n : Network} {b : List Batch} {pr : List Product} {f : List (List Piece)} {p : Plan} {x : Pressures} (h : Sol n b pr f p x) {v : Nat} (hv : v < n.Nodes.length) : x.Known[v]? = some true ↔ InN n p (v : Int) := by
 obtain ⟨k, c, h1, h2, h3⟩ := h.nodes v hv
 rw [h1]
 simp only [Option.some.injEq]
 rw [h3.kn]
 constructor
 ·rintro ⟨c, ⟨i, q, x, _, g1, g2, g3, g4, _⟩ | ⟨i, s, r, lv, _, g1, g2, _⟩⟩
  ·exact .inl ⟨i, q, x, g1, g2, g3, g4⟩
  ·exact .inr ⟨i, s, r, g1, g2⟩
 ·rintro (⟨i, q, x, g1, g2, g3, g4⟩ | ⟨i, s, r, g1, g2⟩)
  ·exact ⟨_, .inl ⟨i, q, x, trivial, g1, g2, g3, g4, rfl⟩⟩
  ·obtain ⟨lv, l1, _⟩ := h.segs i s r g1
   exact ⟨_, .inr ⟨i, s, r, lv, trivial, g1, g2, l1, rfl⟩⟩
theorem steadyKnows (l : List Int) : L.zap l = some true := by
 have : Ok (L.zap l) fun r => r = true := by
  unfold L.zap
  refine .bind (new_ok l) fun s hs => .bind (world_ok hs) ?_
  rintro ⟨n, b, pr, f, p, s1⟩ ⟨hw, hp, hs1⟩
  dsimp only at hw hp hs1 ⊢
  have hn := hw.net
  obtain ⟨x, hx, hS⟩ := solve_spec hw hp.flow
  have k1 := hS.inv.kl; have k2 := hS.inv.nl; have k3 := hS.inv.sl; have hrl := hp.rl
  refine .bind' (.eq hx ?_)
  rw [if_neg (by simp [k1, k2, k3])]
  refine .bind' (.forL (fun _ _ => True) (fun _ => False) trivial ?_ ?_ fun _ h => h.elim)
  ·intro v _ _ hv _
   have hvl := (gs hv).1
   obtain ⟨k, c, g1, g2, g3⟩ := hS.nodes v hvl
   have hkn := hS.known hvl
   have hle := (hS.inv.nb c (mg g2)).1
   unfold L.zap.B4
   refine .bind (through16 hn hp.flow hvl) ?_
   rintro ⟨a, e⟩ ⟨he, ha⟩
   dsimp only at he ha ⊢
   subst he
   have hk : k = decide (a > 0) := by
    rw [g1] at hkn
    simp only [Option.some.injEq] at hkn
    rw [← ha] at hkn
    cases k with
    | true => exact (decide_eq_true (hkn.1 rfl)).symm
    | false => exact (decide_eq_false fun h => by have := hkn.2 h; cases this).symm
   refine Ok.iteU (fun h => absurd rfl h) fun _ => .bind' (.eq (ix_nat (l := x.Known) g1) ?_)
   dsimp only
   rw [if_neg (by rw [← hk]; simp)]
   have fin : Ok (L.zap.J5 (decide (c.Low > c.High))) (Sum.elim (fun _ : Unit => True) fun _ : Bool => False) := by
    unfold L.zap.J5
    rw [if_neg (by simpa using hle)]
    exact .pure trivial
   cases k with
   | true => exact Ok.iteN (fun h => by cases h) fun _ => .bind' (.eq (ix_nat (l := x.Nodes) g2) fin)
   | false =>
    refine Ok.iteN (fun _ => .bind' (.eq (ix_nat (l := x.Nodes) g2) ?_)) fun h => by cases h
    have := g3.no rfl
    subst this
    exact fin
  ·intro _ _
   simp only [Sum.elim_inl]
   unfold L.zap.J1
   refine .bind' (.forL (fun _ _ => True) (fun _ => False) trivial ?_ ?_ fun _ h => h.elim)
   ·intro k s _ hs _
    have hk := (gs hs).1
    dsimp only at hk hs
    have hr : p.Rates[k]? = some (p.Rates[k]'(by omega)) := gq _
    have hg : x.Segments[k]? = some (x.Segments[k]'(by omega)) := gq _
    unfold L.zap.B3
    refine .bind' (.eq (ix_nat (l := x.Segments) hg) (.bind' (.eq (ix_nat (l := p.Rates) hr) ?_)))
    dsimp only
    have key : decide (((x.Segments[k]'(by omega)).length : Int) > 0) = (p.Rates[k]'(by omega) != 0) := by
     by_cases h0 : p.Rates[k]'(by omega) = 0
     ·have := hS.segs0 k _ (by rw [hr, h0]) hg
      rw [this, h0]; rfl
     ·obtain ⟨lv, l1, l2, _⟩ := hS.segs k s _ ⟨hs, hr, h0⟩
      rw [hg] at l1
      cases l1
      rw [show (p.Rates[k]'(by omega) != 0) = true by simpa using h0]
      exact decide_eq_true (by omega)
    rw [key, if_neg (by simp)]
    exact .pure trivial
   ·intro _ _
    simp only [Sum.elim_inl]
    unfold L.zap.J2
    rw [awake21]
    exact .pure rfl
 obtain ⟨r, h, rfl⟩ := this
 exact h
end Go.Proofs.YtehbcbedipkifaaGreatDoor
