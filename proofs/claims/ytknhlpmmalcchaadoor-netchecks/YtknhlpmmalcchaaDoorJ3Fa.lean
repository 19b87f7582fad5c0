/- All functions as one program. -/
import Derived.Test.YtknhlpmmalcchaaDoorJ3Fta
import Derived.Test.YtknhlpmmalcchaaDoorJ3Vba
import Derived.Test.YtknhlpmmalcchaaDoorJ3N
set_option linter.all false
set_option linter.unusedVariables false
set_option linter.unusedSimpArgs false
namespace Go.Proofs.YtknhlpmmalcchaaDoor
open Go Go.VAI Go.Proofs
noncomputable def A : AProg := ⟨fun f => match f with
  | 3 => some F3
  | 13 => some F13
  | 14 => some F14
  | 15 => some F15
  | 16 => some F16
  | 17 => some F17
  | 18 => some F18
  | 20 => some F20
  | 28 => some F28
  | 29 => some F29
  | 32 => some F32
  | 33 => some F33
  | 35 => some F35
  | 41 => some F41
  | _ => none,lawful Tryd.prog libD⟩
theorem A_ok : ProgOk Tryd.prog tab A := by
  refine ⟨?_,lawful_ok _ _⟩
  intro f afn h
  unfold A at h
  simp only at h
  split at h
  · injection h with h; subst h; exact ⟨Tryd.f3,F3.body,Tryd.func3,F3_ok⟩
  · injection h with h; subst h; exact ⟨Tryd.f13,F13.body,Tryd.func13,F13_ok⟩
  · injection h with h; subst h; exact ⟨Tryd.f14,F14.body,Tryd.func14,F14_ok⟩
  · injection h with h; subst h; exact ⟨Tryd.f15,F15.body,Tryd.func15,F15_ok⟩
  · injection h with h; subst h; exact ⟨Tryd.f16,F16.body,Tryd.func16,F16_ok⟩
  · injection h with h; subst h; exact ⟨Tryd.f17,F17.body,Tryd.func17,F17_ok⟩
  · injection h with h; subst h; exact ⟨Tryd.f18,F18.body,Tryd.func18,F18_ok⟩
  · injection h with h; subst h; exact ⟨Tryd.f20,F20.body,Tryd.func20,F20_ok⟩
  · injection h with h; subst h; exact ⟨Tryd.f28,F28.body,Tryd.func28,F28_ok⟩
  · injection h with h; subst h; exact ⟨Tryd.f29,F29.body,Tryd.func29,F29_ok⟩
  · injection h with h; subst h; exact ⟨Tryd.f32,F32.body,Tryd.func32,F32_ok⟩
  · injection h with h; subst h; exact ⟨Tryd.f33,F33.body,Tryd.func33,F33_ok⟩
  · injection h with h; subst h; exact ⟨Tryd.f35,F35.body,Tryd.func35,F35_ok⟩
  · injection h with h; subst h; exact ⟨Tryd.f41,F41.body,Tryd.func41,F41_ok⟩
  · cases h
end Go.Proofs.YtknhlpmmalcchaaDoor
