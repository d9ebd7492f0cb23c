/- The table of the types that the program uses, held against the program. No condition. -/
import Derived.Test.YtnmiidccebhiaaaAwTac
import Derived.Test.YtnmiidccebhiaaaRows
import Derived.KernelRfl
namespace Go.Aw

def getTI : List (Nat × TI) → Nat → Option TI
  | [], _ => none
  | (k, x) :: l, i => bif Nat.beq k i then some x else getTI l i

theorem getTI_mem : ∀ {l : List (Nat × TI)} {i : Nat} {x : TI}, getTI l i = some x → (i, x) ∈ l
  | [], _, _, h => by simp [getTI] at h
  | (k, y) :: l, i, x, h => by
    simp only [getTI] at h
    cases hb : Nat.beq k i with
    | true =>
      have := Nat.eq_of_beq_eq_true hb
      simp only [hb, cond_true, Option.some.injEq] at h
      subst h this; exact .head _
    | false =>
      simp only [hb, cond_false] at h
      exact .tail _ (getTI_mem h)

def allTI (P : Program) : List (Nat × TI) → Prop
  | [] => True
  | p :: l => tiOf P p.1 = some p.2 ∧ allTI P l

theorem allTI_mem {P : Program} : ∀ {l : List (Nat × TI)} {p : Nat × TI}, allTI P l → p ∈ l → tiOf P p.1 = some p.2
  | _ :: _, _, h, .head _ => h.1
  | _ :: _, _, h, .tail _ hm => allTI_mem h.2 hm

end Go.Aw

namespace Go.Proofs.Ytnmiidccebhiaaa
open Go.Aw

def Try.tabL : List (Nat × TI) := [
  (3, { kind := .int .i64, size := 1, bytes := 8, zero := some (.int .i64 0) }),
  (4, { kind := .bool, size := 1, bytes := 1, zero := some (.bool false) }),
  (5, { kind := .int .u8, size := 1, bytes := 1, zero := some (.int .u8 0) }),
  (9, { kind := .string, size := 1, bytes := 16, zero := some (.string ⟨#[]⟩) }),
  (22, { kind := .slice 3, size := 1, bytes := 24, zero := some (.slice none 0 0) }),
  (23, { kind := .slice 33, size := 1, bytes := 24, zero := some (.slice none 0 0) }),
  (31, { kind := .struct [(0, 3), (1, 3)], size := 2, bytes := 16, zero := some (.agg #[.int .i64 0, .int .i64 0]) }),
  (32, { kind := .slice 35, size := 1, bytes := 24, zero := some (.slice none 0 0) }),
  (33, { kind := .int .i8, size := 1, bytes := 1, zero := some (.int .i8 0) }),
  (35, { kind := .struct [(0, 3), (1, 3), (2, 3)], size := 3, bytes := 24, zero := some (.agg #[.int .i64 0, .int .i64 0, .int .i64 0]) }),
  (36, { kind := .int .i64, size := 1, bytes := 8, zero := some (.int .i64 0) }),
  (45, { kind := .slice 9, size := 1, bytes := 24, zero := some (.slice none 0 0) }),
  (46, { kind := .slice 59, size := 1, bytes := 24, zero := some (.slice none 0 0) }),
  (47, { kind := .slice 71, size := 1, bytes := 24, zero := some (.slice none 0 0) }),
  (48, { kind := .slice 73, size := 1, bytes := 24, zero := some (.slice none 0 0) }),
  (50, { kind := .struct [(0, 45), (1, 46), (2, 47), (3, 48), (4, 3), (5, 3)], size := 6, bytes := 112, zero := some (.agg #[.slice none 0 0, .slice none 0 0, .slice none 0 0, .slice none 0 0, .int .i64 0, .int .i64 0]) }),
  (52, { kind := .slice 4, size := 1, bytes := 24, zero := some (.slice none 0 0) }),
  (53, { kind := .slice 22, size := 1, bytes := 24, zero := some (.slice none 0 0) }),
  (57, { kind := .slice 90, size := 1, bytes := 24, zero := some (.slice none 0 0) }),
  (59, { kind := .struct [(0, 9), (1, 3), (2, 3), (3, 3), (4, 3), (5, 3), (6, 57)], size := 7, bytes := 80, zero := some (.agg #[.string ⟨#[]⟩, .int .i64 0, .int .i64 0, .int .i64 0, .int .i64 0, .int .i64 0, .slice none 0 0]) }),
  (62, { kind := .struct [(0, 22), (1, 3)], size := 2, bytes := 32, zero := some (.agg #[.slice none 0 0, .int .i64 0]) }),
  (71, { kind := .struct [(0, 9), (1, 3), (2, 3)], size := 3, bytes := 32, zero := some (.agg #[.string ⟨#[]⟩, .int .i64 0, .int .i64 0]) }),
  (73, { kind := .struct [(0, 9), (1, 3), (2, 3), (3, 3), (4, 3)], size := 5, bytes := 48, zero := some (.agg #[.string ⟨#[]⟩, .int .i64 0, .int .i64 0, .int .i64 0, .int .i64 0]) }),
  (74, { kind := .map 3 3, size := 1, bytes := 8, zero := some (.map none) }),
  (79, { kind := .array 4 45, size := 4, bytes := 96, zero := some (.agg #[.slice none 0 0, .slice none 0 0, .slice none 0 0, .slice none 0 0]) }),
  (88, { kind := .slice 5, size := 1, bytes := 24, zero := some (.slice none 0 0) }),
  (90, { kind := .struct [(0, 3), (1, 3), (2, 3)], size := 3, bytes := 24, zero := some (.agg #[.int .i64 0, .int .i64 0, .int .i64 0]) })]

set_option maxRecDepth 100000 in
theorem Try.ti3 : tiOf Try.prog 3 = some { kind := .int .i64, size := 1, bytes := 8, zero := some (.int .i64 0) } := by kernel_rfl
set_option maxRecDepth 100000 in
theorem Try.ti4 : tiOf Try.prog 4 = some { kind := .bool, size := 1, bytes := 1, zero := some (.bool false) } := by kernel_rfl
set_option maxRecDepth 100000 in
theorem Try.ti5 : tiOf Try.prog 5 = some { kind := .int .u8, size := 1, bytes := 1, zero := some (.int .u8 0) } := by kernel_rfl
set_option maxRecDepth 100000 in
theorem Try.ti9 : tiOf Try.prog 9 = some { kind := .string, size := 1, bytes := 16, zero := some (.string ⟨#[]⟩) } := by kernel_rfl
set_option maxRecDepth 100000 in
theorem Try.ti22 : tiOf Try.prog 22 = some { kind := .slice 3, size := 1, bytes := 24, zero := some (.slice none 0 0) } := by kernel_rfl
set_option maxRecDepth 100000 in
theorem Try.ti23 : tiOf Try.prog 23 = some { kind := .slice 33, size := 1, bytes := 24, zero := some (.slice none 0 0) } := by kernel_rfl
set_option maxRecDepth 100000 in
theorem Try.ti31 : tiOf Try.prog 31 = some { kind := .struct [(0, 3), (1, 3)], size := 2, bytes := 16, zero := some (.agg #[.int .i64 0, .int .i64 0]) } := by kernel_rfl
set_option maxRecDepth 100000 in
theorem Try.ti32 : tiOf Try.prog 32 = some { kind := .slice 35, size := 1, bytes := 24, zero := some (.slice none 0 0) } := by kernel_rfl
set_option maxRecDepth 100000 in
theorem Try.ti33 : tiOf Try.prog 33 = some { kind := .int .i8, size := 1, bytes := 1, zero := some (.int .i8 0) } := by kernel_rfl
set_option maxRecDepth 100000 in
theorem Try.ti35 : tiOf Try.prog 35 = some { kind := .struct [(0, 3), (1, 3), (2, 3)], size := 3, bytes := 24, zero := some (.agg #[.int .i64 0, .int .i64 0, .int .i64 0]) } := by kernel_rfl
set_option maxRecDepth 100000 in
theorem Try.ti36 : tiOf Try.prog 36 = some { kind := .int .i64, size := 1, bytes := 8, zero := some (.int .i64 0) } := by kernel_rfl
set_option maxRecDepth 100000 in
theorem Try.ti45 : tiOf Try.prog 45 = some { kind := .slice 9, size := 1, bytes := 24, zero := some (.slice none 0 0) } := by kernel_rfl
set_option maxRecDepth 100000 in
theorem Try.ti46 : tiOf Try.prog 46 = some { kind := .slice 59, size := 1, bytes := 24, zero := some (.slice none 0 0) } := by kernel_rfl
set_option maxRecDepth 100000 in
theorem Try.ti47 : tiOf Try.prog 47 = some { kind := .slice 71, size := 1, bytes := 24, zero := some (.slice none 0 0) } := by kernel_rfl
set_option maxRecDepth 100000 in
theorem Try.ti48 : tiOf Try.prog 48 = some { kind := .slice 73, size := 1, bytes := 24, zero := some (.slice none 0 0) } := by kernel_rfl
set_option maxRecDepth 100000 in
theorem Try.ti50 : tiOf Try.prog 50 = some { kind := .struct [(0, 45), (1, 46), (2, 47), (3, 48), (4, 3), (5, 3)], size := 6, bytes := 112, zero := some (.agg #[.slice none 0 0, .slice none 0 0, .slice none 0 0, .slice none 0 0, .int .i64 0, .int .i64 0]) } := by kernel_rfl
set_option maxRecDepth 100000 in
theorem Try.ti52 : tiOf Try.prog 52 = some { kind := .slice 4, size := 1, bytes := 24, zero := some (.slice none 0 0) } := by kernel_rfl
set_option maxRecDepth 100000 in
theorem Try.ti53 : tiOf Try.prog 53 = some { kind := .slice 22, size := 1, bytes := 24, zero := some (.slice none 0 0) } := by kernel_rfl
set_option maxRecDepth 100000 in
theorem Try.ti57 : tiOf Try.prog 57 = some { kind := .slice 90, size := 1, bytes := 24, zero := some (.slice none 0 0) } := by kernel_rfl
set_option maxRecDepth 100000 in
theorem Try.ti59 : tiOf Try.prog 59 = some { kind := .struct [(0, 9), (1, 3), (2, 3), (3, 3), (4, 3), (5, 3), (6, 57)], size := 7, bytes := 80, zero := some (.agg #[.string ⟨#[]⟩, .int .i64 0, .int .i64 0, .int .i64 0, .int .i64 0, .int .i64 0, .slice none 0 0]) } := by kernel_rfl
set_option maxRecDepth 100000 in
theorem Try.ti62 : tiOf Try.prog 62 = some { kind := .struct [(0, 22), (1, 3)], size := 2, bytes := 32, zero := some (.agg #[.slice none 0 0, .int .i64 0]) } := by kernel_rfl
set_option maxRecDepth 100000 in
theorem Try.ti71 : tiOf Try.prog 71 = some { kind := .struct [(0, 9), (1, 3), (2, 3)], size := 3, bytes := 32, zero := some (.agg #[.string ⟨#[]⟩, .int .i64 0, .int .i64 0]) } := by kernel_rfl
set_option maxRecDepth 100000 in
theorem Try.ti73 : tiOf Try.prog 73 = some { kind := .struct [(0, 9), (1, 3), (2, 3), (3, 3), (4, 3)], size := 5, bytes := 48, zero := some (.agg #[.string ⟨#[]⟩, .int .i64 0, .int .i64 0, .int .i64 0, .int .i64 0]) } := by kernel_rfl
set_option maxRecDepth 100000 in
theorem Try.ti74 : tiOf Try.prog 74 = some { kind := .map 3 3, size := 1, bytes := 8, zero := some (.map none) } := by kernel_rfl
set_option maxRecDepth 100000 in
theorem Try.ti79 : tiOf Try.prog 79 = some { kind := .array 4 45, size := 4, bytes := 96, zero := some (.agg #[.slice none 0 0, .slice none 0 0, .slice none 0 0, .slice none 0 0]) } := by kernel_rfl
set_option maxRecDepth 100000 in
theorem Try.ti88 : tiOf Try.prog 88 = some { kind := .slice 5, size := 1, bytes := 24, zero := some (.slice none 0 0) } := by kernel_rfl
set_option maxRecDepth 100000 in
theorem Try.ti90 : tiOf Try.prog 90 = some { kind := .struct [(0, 3), (1, 3), (2, 3)], size := 3, bytes := 24, zero := some (.agg #[.int .i64 0, .int .i64 0, .int .i64 0]) } := by kernel_rfl

set_option maxRecDepth 100000 in
theorem Try.tabAll : allTI Try.prog Try.tabL :=
  ⟨Try.ti3, ⟨Try.ti4, ⟨Try.ti5, ⟨Try.ti9, ⟨Try.ti22, ⟨Try.ti23, ⟨Try.ti31, ⟨Try.ti32, ⟨Try.ti33, ⟨Try.ti35, ⟨Try.ti36, ⟨Try.ti45, ⟨Try.ti46, ⟨Try.ti47, ⟨Try.ti48, ⟨Try.ti50, ⟨Try.ti52, ⟨Try.ti53, ⟨Try.ti57, ⟨Try.ti59, ⟨Try.ti62, ⟨Try.ti71, ⟨Try.ti73, ⟨Try.ti74, ⟨Try.ti79, ⟨Try.ti88, ⟨Try.ti90, trivial⟩⟩⟩⟩⟩⟩⟩⟩⟩⟩⟩⟩⟩⟩⟩⟩⟩⟩⟩⟩⟩⟩⟩⟩⟩⟩⟩

theorem Try.mixed : Try.prog.follows .mixedOrders = true := by kernel_rfl

theorem Try.tabOk (t : Nat) (i : TI) (h : getTI Try.tabL t = some i) : tiOf Try.prog t = some i := allTI_mem (p := (t, i)) Try.tabAll (getTI_mem h)

noncomputable def Try.env : Env := ⟨Try.prog, getTI Try.tabL, Try.tabOk, Try.mixed⟩

end Go.Proofs.Ytnmiidccebhiaaa
