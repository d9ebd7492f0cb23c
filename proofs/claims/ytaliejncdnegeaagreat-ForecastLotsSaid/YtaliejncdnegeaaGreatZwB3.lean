/- A program logic over the model. No condition. -/
import Derived.Test.YtaliejncdnegeaaGreatZwB2
set_option maxRecDepth 100000
namespace Go.Aw
set_option linter.unusedVariables false
set_option linter.unusedSimpArgs false
section
variable {E : Env} {n : Nat} {C : Ctx} {σ : St} {s : Slots} {ob : List Ob} {ops : Array Oper} {b0 : Nat} {F : List (Nat × T)} {so : Slots} {R : St → Prop} {Q : Exit → St → Prop} {i : Nat} {r : PL}
def CelS (Hs : GH) (b0 : Nat) (F : List (Nat × T)) (fv : Nat → Value) (w : World) : Prop := (∀ b o, Hs b = some o → w.heap[b]? = some o) ∧ ∀ p, p ∈ F → w.cell? ⟨b0, p.1, none⟩ = some (fv p.1)
theorem cell_same {w w' : World} {b o : Nat} (h : w'.heap[b]? = w.heap[b]?) : w'.cell? ⟨b, o, none⟩ = w.cell? ⟨b, o, none⟩ := by simp only [World.cell?, h]
def AQ (E : Env) (n : Nat) (C : Ctx) (ops : Array Oper) (b0 : Nat) (F : List (Nat × T)) (pl : PL) (so : Slots) (σ : St) (R : St → Prop) : Prop :=
 ∀ Hs (fv : Nat → Value) H a w, SR n so Hs a → (∀ p, p ∈ F → VR Hs (fv p.1) p.2) → CelS Hs b0 F fv w → (∀ b o, Hs b = some o → H b = some o) → Gam n C σ H a w →
  wpPlan E.P ops (fun e a' w' => e = .normal ∧ ∃ σ' H', R σ' ∧ Gam n C σ' H' a' w') (CelS Hs b0 F fv) pl a w
theorem AQ.ofAO (h : AO E n C ops [] σ R) : AQ E n C ops b0 F .nil so σ R := fun _ _ H a w _ _ _ _ gm => h H a w gm
theorem AQ.two {i j : Nat} {r1 r2 : PL} (h1 : AQ E n C ops b0 F (.act i r1) so σ R) (h2 : AQ E n C ops b0 F (.act j r2) so σ R) : AQ E n C ops b0 F (.two i j r1 r2) so σ R :=
 fun Hs fv H a w sr hv ag hH gm => ⟨h1 Hs fv H a w sr hv ag hH gm, h2 Hs fv H a w sr hv ag hH gm⟩
theorem AQ.three {i j k : Nat} {r1 r2 r3 : PL} (h1 : AQ E n C ops b0 F (.act i r1) so σ R) (h2 : AQ E n C ops b0 F (.act j r2) so σ R) (h3 : AQ E n C ops b0 F (.act k r3) so σ R) : AQ E n C ops b0 F (.three i j k r1 r2 r3) so σ R :=
 fun Hs fv H a w sr hv ag hH gm => ⟨h1 Hs fv H a w sr hv ag hH gm, h2 Hs fv H a w sr hv ag hH gm, h3 Hs fv H a w sr hv ag hH gm⟩
theorem AQ.ghost {s' : Slots} {ob' : List Ob} (h : Ghost n C s ob s' ob') (k : AQ E n C ops b0 F r so ⟨s', ob'⟩ R) : AQ E n C ops b0 F r so ⟨s, ob⟩ R := by
 intro Hs fv H a w sr hv ag hH gm
 obtain ⟨H', h1, g⟩ := h H a w gm
 exact k Hs fv H' a w sr hv ag (fun b o hb => h1 _ _ (hH _ _ hb)) g
theorem AQ.one (q : Nat) {v : Value} {tt sz : Nat} {es : List (List T)} (hq : ob[q]? = some (.us v tt sz es)) (k : v.oneCell' = true → AQ E n C ops b0 F r so ⟨s, ob⟩ R) : AQ E n C ops b0 F r so ⟨s, ob⟩ R :=
 fun Hs fv H a w sr hv ag hH gm => k (UsR.one (show UsR H w v tt sz es from gm.objs _ (List.mem_of_getElem? hq))) Hs fv H a w sr hv ag hH gm
theorem AQ.o {d : Nat} {op : Op} {ty : TypeId} {pos : String} {aft : Array Edge} {x : T} (ho : ops[i]? = some ⟨some d, op, ty, pos, aft, none⟩) (hy : Yd E.P n so [] ⟨some d, op, ty, pos, aft, none⟩ x) (hd : Nat.blt d n = true)
  (k : AQ E n C ops b0 F r ((d, x) :: so) ⟨(d, x) :: s, ob⟩ R) : AQ E n C ops b0 F (.still i r) so ⟨s, ob⟩ R := by
 intro Hs fv H a w sr hv ag hH gm
 obtain ⟨v, hvx, hrun⟩ := hy Hs a w sr ⟨by simp, ag.1⟩
 have hd' : ∀ d', some d = some d' → d' < n := dst_some hd
 refine ⟨_, v, ho, .inl ⟨by simp [Region.wanted], fun w' hw => hrun w' ⟨hw.1, by simp⟩⟩, ag, ?_⟩
 exact k Hs fv H _ w (sr.put (dst := some d) hvx hd') hv ag hH (gm.put (dst := some d) (hvx.mono hH) hd')
theorem AQ.p {d : Nat} {op : Op} {ty : TypeId} {pos : String} {aft : Array Edge} {x : T} (ho : ops[i]? = some ⟨some d, op, ty, pos, aft, none⟩) (hy : Yp E.P n so ⟨some d, op, ty, pos, aft, none⟩ x) (hd : Nat.blt d n = true)
  (k : AQ E n C ops b0 F r ((d, x) :: so) ⟨(d, x) :: s, ob⟩ R) : AQ E n C ops b0 F (.still i r) so ⟨s, ob⟩ R := AQ.o ho hy.yd hd k
theorem AQ.new {d : Nat} {op : Op} {ty : TypeId} {pos : String} {aft : Array Edge} {x : T} (ho : ops[i]? = some ⟨some d, op, ty, pos, aft, none⟩) (hy : Yp E.P n s ⟨some d, op, ty, pos, aft, none⟩ x) (hd : Nat.blt d n = true)
  (k : AQ E n C ops b0 F r so ⟨(d, x) :: s, ob⟩ R) (hf : free so (some d) = true := by rfl) : AQ E n C ops b0 F (.still i r) so ⟨s, ob⟩ R := by
 intro Hs fv H a w sr hv ag hH gm
 obtain ⟨v, hvx, hrun⟩ := hy H a gm.sr
 refine ⟨_, v, ho, .inl ⟨by simp [Region.wanted], fun w' _ => hrun w'⟩, ag, ?_⟩
 exact k Hs fv H _ w (sr.free _ _ hf) hv ag hH (gm.put (dst := some d) hvx (dst_some hd))
theorem AQ.ld (j : Nat) {d : Nat} {t : TypeId} {x : Operand} {ty : TypeId} {pos : String} {aft : Array Edge} {off : Nat} {y : T} {fi : TI} (ho : ops[i]? = some ⟨some d, .load t x, ty, pos, aft, none⟩) (ht : E.tab t = some fi) (hag : fi.isAgg = false)
  (hx : evalT so x = some (.v (.pointer (some ⟨b0, off, none⟩)))) (hF : F[j]? = some (off, y)) (hd : Nat.blt d n = true)
  (k : AQ E n C ops b0 F r ((d, y) :: so) ⟨(d, y) :: s, ob⟩ R) : AQ E n C ops b0 F (.still i r) so ⟨s, ob⟩ R := by
 intro Hs fv H a w sr hv ag hH gm
 have hm := List.mem_of_getElem? hF
 have hvx := hv _ hm
 have hd' : ∀ d', some d = some d' → d' < n := dst_some hd
 have hev := sr.evalv hx
 refine ⟨_, fv off, ho, .inl ⟨by simp [Region.wanted], fun w' hw => ?_⟩, ag, ?_⟩
 ·have hc := hw.2 _ hm
  simp [execOp, hev, Instr.loadAt, Instr.sureAddr, loadVar, run_isAgg_ti (E.ok _ _ ht), hag, hc]
 ·exact k Hs fv H _ w (sr.put (dst := some d) hvx hd') hv ag hH (gm.put (dst := some d) (hvx.mono hH) hd')
theorem AQ.act {σ : St} {o : Oper} (md : List Nat) (kb : Nat) {tt sz cap : Nat} {es : List (List T)} (ho : ops[i]? = some o) (hg : o.guard = none) (hk : σ.objs[kb]? = some (.arr b0 tt sz cap es)) (hm : md.contains kb = false)
  (h : AX E n C md o σ (fun σ' => AQ E n C ops b0 F r so σ' R)) (hf : free so o.dst = true := by rfl) : AQ E n C ops b0 F (.act i r) so σ R := by
 intro Hs fv H a w sr hv ag hH gm
 simp only [wpPlan, wpOp, ho]
 rw [if_pos (by simp [Region.wanted, hg])]
 refine .inl (Oper.wp_monoQ ?_ (fun _ _ _ h => h.elim) (h H a w gm))
 rintro a' w' ⟨σ', H', v, hr, gm', ha', hHH, hfr⟩
 have ag' : CelS Hs b0 F fv w' := ⟨fun b o hb => gm'.held _ _ (hHH _ _ (hH _ _ hb)), fun p hp => (cell_same ((hfr kb _ hk hm).2 b0 (by simp [Ob.fp]))).trans (ag.2 p hp)⟩
 exact ⟨ag', hr Hs fv H' a' w' (by rw [ha']; exact sr.free _ _ hf) hv ag' (fun b o hb => hHH _ _ (hH _ _ hb)) gm'⟩
theorem AQ.st (k : Nat) {t : TypeId} {x y : Operand} {ty : TypeId} {pos : String} {aft : Array Edge} {ti : TI} {c : T} {cs : List T} {off tt sz : Nat} {e e' : List T} (ho : ops[i]? = some ⟨none, .store t x y, ty, pos, aft, none⟩)
  (ht : E.tab t = some ti) (hx : evalT s x = some (.v (.pointer (some ⟨b0, off, none⟩)))) (hk : ob[k]? = some (.arr b0 tt sz 1 [e]))
  (hy : evalT s y = some c) (hc : cellsT c = some cs) (hsz : ti.size = cs.length) (hj : off + cs.length ≤ e.length) (hes : setC e off cs = e') (hF : (F.all fun p => Nat.blt p.1 off || Nat.ble (off + cs.length) p.1) = true)
  (kk : AQ E n C ops b0 F r so ⟨s, ob.set k (.arr b0 tt sz 1 [e'])⟩ R) : AQ E n C ops b0 F (.act i r) so ⟨s, ob⟩ R := by
 subst hes
 intro Hs fv H a w sr hv ag hH gm
 simp only [wpPlan, wpOp, ho]
 rw [if_pos (by simp [Region.wanted])]
 have hor : ArrR H w b0 tt sz 1 [e] := gm.objs _ (List.mem_of_getElem? hk)
 have hor' := hor
 obtain ⟨cur, a1, a2, a3, a4, a5, a6⟩ := hor'
 have har := cellsT_spec (gm.sr.eval hy) hc
 have hel : e.length = sz := a5 0 e (by simp)
 obtain ⟨w', h1, h2, h3, h4, h5⟩ := store_cells_core (E := E) (off := off) 0 off hor (by simp) (by simp) (news := (a.eval y).cells.toList) (by simpa using har.1) har.all1 (fun i x hx => by
  have := (har.2 i x hx).2
  simpa [Array.getD_eq_getD_getElem?, List.getD] using this) hj
 have hvl : (a.eval y).cells.toList.length = cs.length := by simpa using har.1
 have hst := run_storeCells_at (P := E.P) b0 off tt (a.eval y).cells.toList 0 cur w a1 (by rw [hvl]; omega) har.all1
 simp only [Nat.add_zero] at hst
 rw [hst] at h1
 have hw' : w' = w.setRow b0 (cur.toList.take off ++ (a.eval y).cells.toList ++ cur.toList.drop (off + (a.eval y).cells.toList.length)).toArray := by
  injection h1 with _ h; exact h.symm
 have hrun : (execOp a.eval ⟨none, .store t x y, ty, pos, aft, none⟩).run E.P w = .ok .skip w' := by
  have hev := gm.sr.evalv hx
  rw [hw']
  simp [execOp, Instr.storeAt, Instr.sureAddr, hev, storeVar, run_sizeOf_ti (E.ok _ _ ht), hsz, show (a.eval y).cells.size = cs.length from har.1] at hst ⊢
  simp [hst]
 refine .inl ?_
 simp only [Oper.wp, hrun, Oper.upon]
 have gm' : Gam n C ⟨s, ob.set k (.arr b0 tt sz 1 [setC e off cs])⟩ H (a.put none undef) w' :=
  gm.set hk h3 (by omega) (fun i _ hi => h5 i (by simpa [Ob.fp] using hi)) (o' := .arr b0 tt sz 1 [setC e off cs]) h2 (fun b hb => .inr hb) (by simp [Ob.fp])
 have ag' : CelS Hs b0 F fv w' := by
  refine ⟨fun b o hb => gm'.held _ _ (hH _ _ hb), fun p hp => ?_⟩
  have hpF := List.all_eq_true.1 hF p hp
  simp only [Bool.or_eq_true] at hpF
  have hold := ag.2 p hp
  have hlt : p.1 < cur.size := by
   simp only [World.cell?, a1] at hold
   exact (Array.getElem?_eq_some_iff.1 (by simpa using hold)).1
  have hold' : cur.getD p.1 undef = fv p.1 := by
   have := cell?_of a1 hlt
   rw [hold] at this; exact (Option.some.inj this).symm
  have hnew := setRow_heap w b0 cur (cur.toList.take off ++ (a.eval y).cells.toList ++ cur.toList.drop (off + (a.eval y).cells.toList.length)).toArray tt (0, 0) a1
  rw [← hw'] at hnew
  have hns : (cur.toList.take off ++ (a.eval y).cells.toList ++ cur.toList.drop (off + (a.eval y).cells.toList.length)).toArray.size = cur.size := by
   simp only [List.size_toArray, List.length_append, List.length_take, List.length_drop, Array.length_toList, hvl]; omega
  rw [cell?_of hnew (by rw [hns]; exact hlt), getD_seg (by rw [hvl]; omega), if_neg ?_, hold']
  rintro ⟨q1, q2⟩
  rw [hvl] at q2
  rcases hpF with h | h
  ·have := Nat.le_of_ble_eq_true h; omega
  ·have := Nat.le_of_ble_eq_true h; omega
 exact ⟨ag', kk Hs fv H _ w' sr hv ag' hH gm'⟩
theorem AW.rc {id : Nat} (pl : PL) (k b0 : Nat) {tt sz : Nat} {row : List T} (F : List (Nat × T)) (hk : ob[k]? = some (.arr b0 tt sz 1 [row])) (hF : F.map (fun p => row[p.1]?) = F.map (fun p => some p.2))
  (h : AQ E n C ops b0 F pl s ⟨s, ob⟩ (fun σ' => Q .normal σ')) (hB : planB ops pl = true := by kernel_rfl) : AW E n C (.region id ops true) ⟨s, ob⟩ Q := by
 intro H a w gm
 have hor : ArrR H w b0 tt sz 1 [row] := gm.objs _ (List.mem_of_getElem? hk)
 obtain ⟨cur, a1, a2, a3, a4, a5, a6⟩ := hor
 have hel : row.length = sz := a5 0 row (by simp)
 have hrow : ∀ p, p ∈ F → row[p.1]? = some p.2 := fun p hp => List.map_inj_left.1 hF p hp
 obtain ⟨fv, hfv⟩ : ∃ fv : Nat → Value, fv = fun o => cur.getD o undef := ⟨_, rfl⟩
 have ag : CelS H b0 F fv w.drew := by
  refine ⟨gm.held, fun p hp => ?_⟩
  have hlt := (List.getElem?_eq_some_iff.1 (hrow p hp)).1
  rw [hfv]
  exact (cell_same rfl).trans (cell?_of a1 (by omega))
 refine cw_mono (wp_region_plan (S := CelS H b0 F fv) E.mixed pl hB (Q := fun e a' w' => e = .normal ∧ ∃ σ' H', Q .normal σ' ∧ Gam n C σ' H' a' w') ?_ ?_ ?_) ?_
 ·rintro c a w ⟨h, _⟩; cases h
 ·rintro ⟨a, w, h, _⟩; cases h
 ·have gd := gm.drew
  exact h H fv H a w.drew gd.sr (fun p hp => by
   have := (a6 0 row (by simp) p.1 p.2 (hrow p hp)).2
   rw [hfv]; simpa using this) ag (fun _ _ h => h) gd
 ·rintro e a' w' ⟨rfl, σ', H', q, g'⟩
  exact ⟨σ', H', q, g'⟩
end
end Go.Aw
