/- Walks that show what functions of the program compute; printed by a program of ours. No condition. -/
import Derived.Test.YtodeekicjiengaaGreatDoorYvL6
import Derived.Test.YtodeekicjiengaaGreatDoorYvD
set_option maxRecDepth 100000
namespace Go.Proofs.YtodeekicjiengaaGreatDoor
open Go.Aw
set_option linter.unusedVariables false
set_option linter.unusedSimpArgs false
set_option maxHeartbeats 4000000
theorem iO (a : Sg) (r : Bool) (h : V1 a = some r) : ACalls Aj 161 [.agg (Ak a)] [] (fun x new => x = .v (.bool r) ∧ new = []) := by
 refine Ad Tryz.func161 I I I fun C hC => ?_
 refine Aa fun i b => sH (sJ [] I (Bo (Ak a) 7 fun j => Ag 1 I (sI ?_)))
 subst b
 refine sN (sH (Ag 1 I (sJ [0] I (A3 0 0 1 [[.v (.string a.Name), .V 0, .V a.To, .V a.Capacity, .V a.Resist, .V a.Wave, qS a.Points]] I (Ag 1 I (sJ [0] I (A3 0 0 2 [[.v (.string a.Name), .V 0, .V 1, .V a.Capacity, .V a.Resist, .V a.Wave, qS a.Points]] I (sI (sN ?_)))))))))
 obtain ⟨k, c, h⟩ := Ac h
 refine sH (sJ [] I (sX (sz := 1) (es := ([(⟨#[97]⟩ : Bt), (⟨#[98]⟩ : Bt)] : List Bt).map rS) I I I I I I I I I I I dS fun d => An 1 [.o 0 0] I J1 (sJ [] I (sX (sz := 7) (es := ([(⟨a.Name, 0, 1, a.Capacity, a.Resist, a.Wave, a.Points⟩ : Sg)] : List Sg).map Ak) I I I I I I I I I I I dS fun e => tE 1 I fun f => tE 2 I fun g => sT (Au (l := [.v d, .v e, .N, .N, .V 0, .V 0]) H7 (As I I (A7 f) I (As I I (A7 g) I (Cv)))) I (sJ [] I (Cl I (.refl _) I I (.cons (.agg (.cons (.us 1 I) (.cons (.us 2 I) (.cons (.nil _) (.cons (.nil _) (.rest _)))))) (.rest _)) I (Jy _ _ c) dS (by rintro _ _ ⟨rfl, _⟩; rfl) ?_))))))
 rintro _ ⟨_, rfl, -⟩
 refine Ag 2 I (sI (sP g0 ?_))
 obtain rfl := oi h
 exact sO pr
end Go.Proofs.YtodeekicjiengaaGreatDoor
