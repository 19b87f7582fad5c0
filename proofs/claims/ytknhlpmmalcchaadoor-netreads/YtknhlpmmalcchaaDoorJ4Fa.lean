/- All functions as one program. -/
import Derived.Test.YtknhlpmmalcchaaDoorJ4Fta
import Derived.Test.YtknhlpmmalcchaaDoorJ4Vba
import Derived.Test.YtknhlpmmalcchaaDoorJ4N
set_option linter.all false
set_option linter.unusedVariables false
set_option linter.unusedSimpArgs false
namespace Go.Proofs.YtknhlpmmalcchaaDoor
open Go Go.VAI Go.Proofs
noncomputable def A : AProg := ⟨fun f => match f with
  | 4 => some F4
  | 13 => some F13
  | 15 => some F15
  | 16 => some F16
  | 18 => some F18
  | 19 => some F19
  | 20 => some F20
  | 21 => some F21
  | 22 => some F22
  | 23 => some F23
  | 28 => some F28
  | 29 => some F29
  | 30 => some F30
  | 32 => some F32
  | 33 => some F33
  | 34 => some F34
  | 35 => some F35
  | 41 => some F41
  | 43 => some F43
  | 44 => some F44
  | 45 => some F45
  | _ => none,lawful Tryd.prog libD⟩
theorem A_ok : ProgOk Tryd.prog tab A := by
  refine ⟨?_,lawful_ok _ _⟩
  intro f afn h
  unfold A at h
  simp only at h
  split at h
  · injection h with h; subst h; exact ⟨Tryd.f4,F4.body,Tryd.func4,F4_ok⟩
  · injection h with h; subst h; exact ⟨Tryd.f13,F13.body,Tryd.func13,F13_ok⟩
  · injection h with h; subst h; exact ⟨Tryd.f15,F15.body,Tryd.func15,F15_ok⟩
  · injection h with h; subst h; exact ⟨Tryd.f16,F16.body,Tryd.func16,F16_ok⟩
  · injection h with h; subst h; exact ⟨Tryd.f18,F18.body,Tryd.func18,F18_ok⟩
  · injection h with h; subst h; exact ⟨Tryd.f19,F19.body,Tryd.func19,F19_ok⟩
  · injection h with h; subst h; exact ⟨Tryd.f20,F20.body,Tryd.func20,F20_ok⟩
  · injection h with h; subst h; exact ⟨Tryd.f21,F21.body,Tryd.func21,F21_ok⟩
  · injection h with h; subst h; exact ⟨Tryd.f22,F22.body,Tryd.func22,F22_ok⟩
  · injection h with h; subst h; exact ⟨Tryd.f23,F23.body,Tryd.func23,F23_ok⟩
  · injection h with h; subst h; exact ⟨Tryd.f28,F28.body,Tryd.func28,F28_ok⟩
  · injection h with h; subst h; exact ⟨Tryd.f29,F29.body,Tryd.func29,F29_ok⟩
  · injection h with h; subst h; exact ⟨Tryd.f30,F30.body,Tryd.func30,F30_ok⟩
  · injection h with h; subst h; exact ⟨Tryd.f32,F32.body,Tryd.func32,F32_ok⟩
  · injection h with h; subst h; exact ⟨Tryd.f33,F33.body,Tryd.func33,F33_ok⟩
  · injection h with h; subst h; exact ⟨Tryd.f34,F34.body,Tryd.func34,F34_ok⟩
  · injection h with h; subst h; exact ⟨Tryd.f35,F35.body,Tryd.func35,F35_ok⟩
  · injection h with h; subst h; exact ⟨Tryd.f41,F41.body,Tryd.func41,F41_ok⟩
  · injection h with h; subst h; exact ⟨Tryd.f43,F43.body,Tryd.func43,F43_ok⟩
  · injection h with h; subst h; exact ⟨Tryd.f44,F44.body,Tryd.func44,F44_ok⟩
  · injection h with h; subst h; exact ⟨Tryd.f45,F45.body,Tryd.func45,F45_ok⟩
  · cases h
end Go.Proofs.YtknhlpmmalcchaaDoor
