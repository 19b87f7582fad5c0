/- All functions as one program. -/
import Derived.Test.YtknhlpmmalcchaaDoorJ7Fta
import Derived.Test.YtknhlpmmalcchaaDoorJ7Vba
import Derived.Test.YtknhlpmmalcchaaDoorJ7N
set_option linter.all false
set_option linter.unusedVariables false
set_option linter.unusedSimpArgs false
namespace Go.Proofs.YtknhlpmmalcchaaDoor
open Go Go.VAI Go.Proofs
noncomputable def A : AProg := ⟨fun f => match f with
  | 7 => some F7
  | 13 => some F13
  | 15 => some F15
  | 16 => some F16
  | 18 => some F18
  | 20 => some F20
  | 24 => some F24
  | 25 => some F25
  | 26 => some F26
  | 28 => some F28
  | 32 => some F32
  | 33 => some F33
  | 35 => some F35
  | 41 => some F41
  | _ => none,lawful Tryd.prog libD⟩
theorem A_ok : ProgOk Tryd.prog tab A := by
  refine ⟨?_,lawful_ok _ _⟩
  intro f afn h
  unfold A at h
  simp only at h
  split at h
  · injection h with h; subst h; exact ⟨Tryd.f7,F7.body,Tryd.func7,F7_ok⟩
  · injection h with h; subst h; exact ⟨Tryd.f13,F13.body,Tryd.func13,F13_ok⟩
  · injection h with h; subst h; exact ⟨Tryd.f15,F15.body,Tryd.func15,F15_ok⟩
  · injection h with h; subst h; exact ⟨Tryd.f16,F16.body,Tryd.func16,F16_ok⟩
  · injection h with h; subst h; exact ⟨Tryd.f18,F18.body,Tryd.func18,F18_ok⟩
  · injection h with h; subst h; exact ⟨Tryd.f20,F20.body,Tryd.func20,F20_ok⟩
  · injection h with h; subst h; exact ⟨Tryd.f24,F24.body,Tryd.func24,F24_ok⟩
  · injection h with h; subst h; exact ⟨Tryd.f25,F25.body,Tryd.func25,F25_ok⟩
  · injection h with h; subst h; exact ⟨Tryd.f26,F26.body,Tryd.func26,F26_ok⟩
  · injection h with h; subst h; exact ⟨Tryd.f28,F28.body,Tryd.func28,F28_ok⟩
  · injection h with h; subst h; exact ⟨Tryd.f32,F32.body,Tryd.func32,F32_ok⟩
  · injection h with h; subst h; exact ⟨Tryd.f33,F33.body,Tryd.func33,F33_ok⟩
  · injection h with h; subst h; exact ⟨Tryd.f35,F35.body,Tryd.func35,F35_ok⟩
  · injection h with h; subst h; exact ⟨Tryd.f41,F41.body,Tryd.func41,F41_ok⟩
  · cases h
end Go.Proofs.YtknhlpmmalcchaaDoor
