/- All functions as one program. -/
import Derived.Test.YtknhlpmmalcchaaDoorJ11Fta
import Derived.Test.YtknhlpmmalcchaaDoorJ11Vba
import Derived.Test.YtknhlpmmalcchaaDoorJ11N
set_option linter.all false
set_option linter.unusedVariables false
set_option linter.unusedSimpArgs false
namespace Go.Proofs.YtknhlpmmalcchaaDoor
open Go Go.VAI Go.Proofs
noncomputable def A : AProg := ⟨fun f => match f with
  | 11 => some F11
  | 13 => some F13
  | 15 => some F15
  | 16 => some F16
  | 18 => some F18
  | 20 => some F20
  | 22 => some F22
  | 27 => some F27
  | 28 => some F28
  | 32 => some F32
  | 33 => some F33
  | 35 => some F35
  | 41 => some F41
  | _ => none,lawful Tryd.prog libD⟩
theorem A_ok : ProgOk Tryd.prog tab A := by
  refine ⟨?_,lawful_ok _ _⟩
  intro f afn h
  unfold A at h
  simp only at h
  split at h
  · injection h with h; subst h; exact ⟨Tryd.f11,F11.body,Tryd.func11,F11_ok⟩
  · injection h with h; subst h; exact ⟨Tryd.f13,F13.body,Tryd.func13,F13_ok⟩
  · injection h with h; subst h; exact ⟨Tryd.f15,F15.body,Tryd.func15,F15_ok⟩
  · injection h with h; subst h; exact ⟨Tryd.f16,F16.body,Tryd.func16,F16_ok⟩
  · injection h with h; subst h; exact ⟨Tryd.f18,F18.body,Tryd.func18,F18_ok⟩
  · injection h with h; subst h; exact ⟨Tryd.f20,F20.body,Tryd.func20,F20_ok⟩
  · injection h with h; subst h; exact ⟨Tryd.f22,F22.body,Tryd.func22,F22_ok⟩
  · injection h with h; subst h; exact ⟨Tryd.f27,F27.body,Tryd.func27,F27_ok⟩
  · injection h with h; subst h; exact ⟨Tryd.f28,F28.body,Tryd.func28,F28_ok⟩
  · injection h with h; subst h; exact ⟨Tryd.f32,F32.body,Tryd.func32,F32_ok⟩
  · injection h with h; subst h; exact ⟨Tryd.f33,F33.body,Tryd.func33,F33_ok⟩
  · injection h with h; subst h; exact ⟨Tryd.f35,F35.body,Tryd.func35,F35_ok⟩
  · injection h with h; subst h; exact ⟨Tryd.f41,F41.body,Tryd.func41,F41_ok⟩
  · cases h
end Go.Proofs.YtknhlpmmalcchaaDoor
