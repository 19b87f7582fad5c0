/- All functions as one program. -/
import Derived.Test.YtknhlpmmalcchaaGreatG3Fta
import Derived.Test.YtknhlpmmalcchaaGreatG3Ftb
import Derived.Test.YtknhlpmmalcchaaGreatG3Vba
import Derived.Test.YtknhlpmmalcchaaGreatG3Vba
set_option linter.all false
set_option linter.unusedVariables false
set_option linter.unusedSimpArgs false
namespace Go.Proofs.YtknhlpmmalcchaaGreat
open Go Go.VAI Go.Proofs
noncomputable def A:AProg:=⟨fun f=>match f with
  | 3=>some F3
  | 5=>some F5
  | 6=>some F6
  | 7=>some F7
  | 8=>some F8
  | 9=>some F9
  | 10=>some F10
  | 11=>some F11
  | 12=>some F12
  | 13=>some F13
  | 15=>some F15
  | 16=>some F16
  | 17=>some F17
  | 18=>some F18
  | 19=>some F19
  | 20=>some F20
  | 21=>some F21
  | 22=>some F22
  | 23=>some F23
  | 24=>some F24
  | 25=>some F25
  | 26=>some F26
  | 27=>some F27
  | 28=>some F28
  | 29=>some F29
  | 30=>some F30
  | 31=>some F31
  | 32=>some F32
  | 33=>some F33
  | 34=>some F34
  | 36=>some F36
  | 37=>some F37
  | 40=>some F40
  | 41=>some F41
  | 42=>some F42
  | 43=>some F43
  | 44=>some F44
  | 45=>some F45
  | 46=>some F46
  | 47=>some F47
  | 48=>some F48
  | 49=>some F49
  | 50=>some F50
  | 51=>some F51
  | 52=>some F52
  | 53=>some F53
  | 55=>some F55
  | 56=>some F56
  | 57=>some F57
  | 58=>some F58
  | 59=>some F59
  | 60=>some F60
  | 62=>some F62
  | 63=>some F63
  | 64=>some F64
  | 65=>some F65
  | 66=>some F66
  | 67=>some F67
  | 68=>some F68
  | 69=>some F69
  | 72=>some F72
  | 73=>some F73
  | 74=>some F74
  | 75=>some F75
  | 76=>some F76
  | 77=>some F77
  | 78=>some F78
  | 79=>some F79
  | 91=>some F91
  | 92=>some F92
  | 93=>some F93
  | _=>none,lawful Tryz.prog (libP 61 62 (libF 54 55 35 36 64 65))⟩
theorem A_ok:ProgOk Tryz.prog tab A:=by
  refine ⟨?_,lawful_ok _ _⟩
  intro f afn h
  unfold A at h
  simp only at h
  split at h
  · injection h with h; subst h; exact ⟨Tryz.f3,F3.body,Tryz.func3,F3_ok⟩
  · injection h with h; subst h; exact ⟨Tryz.f5,F5.body,Tryz.func5,F5_ok⟩
  · injection h with h; subst h; exact ⟨Tryz.f6,F6.body,Tryz.func6,F6_ok⟩
  · injection h with h; subst h; exact ⟨Tryz.f7,F7.body,Tryz.func7,F7_ok⟩
  · injection h with h; subst h; exact ⟨Tryz.f8,F8.body,Tryz.func8,F8_ok⟩
  · injection h with h; subst h; exact ⟨Tryz.f9,F9.body,Tryz.func9,F9_ok⟩
  · injection h with h; subst h; exact ⟨Tryz.f10,F10.body,Tryz.func10,F10_ok⟩
  · injection h with h; subst h; exact ⟨Tryz.f11,F11.body,Tryz.func11,F11_ok⟩
  · injection h with h; subst h; exact ⟨Tryz.f12,F12.body,Tryz.func12,F12_ok⟩
  · injection h with h; subst h; exact ⟨Tryz.f13,F13.body,Tryz.func13,F13_ok⟩
  · injection h with h; subst h; exact ⟨Tryz.f15,F15.body,Tryz.func15,F15_ok⟩
  · injection h with h; subst h; exact ⟨Tryz.f16,F16.body,Tryz.func16,F16_ok⟩
  · injection h with h; subst h; exact ⟨Tryz.f17,F17.body,Tryz.func17,F17_ok⟩
  · injection h with h; subst h; exact ⟨Tryz.f18,F18.body,Tryz.func18,F18_ok⟩
  · injection h with h; subst h; exact ⟨Tryz.f19,F19.body,Tryz.func19,F19_ok⟩
  · injection h with h; subst h; exact ⟨Tryz.f20,F20.body,Tryz.func20,F20_ok⟩
  · injection h with h; subst h; exact ⟨Tryz.f21,F21.body,Tryz.func21,F21_ok⟩
  · injection h with h; subst h; exact ⟨Tryz.f22,F22.body,Tryz.func22,F22_ok⟩
  · injection h with h; subst h; exact ⟨Tryz.f23,F23.body,Tryz.func23,F23_ok⟩
  · injection h with h; subst h; exact ⟨Tryz.f24,F24.body,Tryz.func24,F24_ok⟩
  · injection h with h; subst h; exact ⟨Tryz.f25,F25.body,Tryz.func25,F25_ok⟩
  · injection h with h; subst h; exact ⟨Tryz.f26,F26.body,Tryz.func26,F26_ok⟩
  · injection h with h; subst h; exact ⟨Tryz.f27,F27.body,Tryz.func27,F27_ok⟩
  · injection h with h; subst h; exact ⟨Tryz.f28,F28.body,Tryz.func28,F28_ok⟩
  · injection h with h; subst h; exact ⟨Tryz.f29,F29.body,Tryz.func29,F29_ok⟩
  · injection h with h; subst h; exact ⟨Tryz.f30,F30.body,Tryz.func30,F30_ok⟩
  · injection h with h; subst h; exact ⟨Tryz.f31,F31.body,Tryz.func31,F31_ok⟩
  · injection h with h; subst h; exact ⟨Tryz.f32,F32.body,Tryz.func32,F32_ok⟩
  · injection h with h; subst h; exact ⟨Tryz.f33,F33.body,Tryz.func33,F33_ok⟩
  · injection h with h; subst h; exact ⟨Tryz.f34,F34.body,Tryz.func34,F34_ok⟩
  · injection h with h; subst h; exact ⟨Tryz.f36,F36.body,Tryz.func36,F36_ok⟩
  · injection h with h; subst h; exact ⟨Tryz.f37,F37.body,Tryz.func37,F37_ok⟩
  · injection h with h; subst h; exact ⟨Tryz.f40,F40.body,Tryz.func40,F40_ok⟩
  · injection h with h; subst h; exact ⟨Tryz.f41,F41.body,Tryz.func41,F41_ok⟩
  · injection h with h; subst h; exact ⟨Tryz.f42,F42.body,Tryz.func42,F42_ok⟩
  · injection h with h; subst h; exact ⟨Tryz.f43,F43.body,Tryz.func43,F43_ok⟩
  · injection h with h; subst h; exact ⟨Tryz.f44,F44.body,Tryz.func44,F44_ok⟩
  · injection h with h; subst h; exact ⟨Tryz.f45,F45.body,Tryz.func45,F45_ok⟩
  · injection h with h; subst h; exact ⟨Tryz.f46,F46.body,Tryz.func46,F46_ok⟩
  · injection h with h; subst h; exact ⟨Tryz.f47,F47.body,Tryz.func47,F47_ok⟩
  · injection h with h; subst h; exact ⟨Tryz.f48,F48.body,Tryz.func48,F48_ok⟩
  · injection h with h; subst h; exact ⟨Tryz.f49,F49.body,Tryz.func49,F49_ok⟩
  · injection h with h; subst h; exact ⟨Tryz.f50,F50.body,Tryz.func50,F50_ok⟩
  · injection h with h; subst h; exact ⟨Tryz.f51,F51.body,Tryz.func51,F51_ok⟩
  · injection h with h; subst h; exact ⟨Tryz.f52,F52.body,Tryz.func52,F52_ok⟩
  · injection h with h; subst h; exact ⟨Tryz.f53,F53.body,Tryz.func53,F53_ok⟩
  · injection h with h; subst h; exact ⟨Tryz.f55,F55.body,Tryz.func55,F55_ok⟩
  · injection h with h; subst h; exact ⟨Tryz.f56,F56.body,Tryz.func56,F56_ok⟩
  · injection h with h; subst h; exact ⟨Tryz.f57,F57.body,Tryz.func57,F57_ok⟩
  · injection h with h; subst h; exact ⟨Tryz.f58,F58.body,Tryz.func58,F58_ok⟩
  · injection h with h; subst h; exact ⟨Tryz.f59,F59.body,Tryz.func59,F59_ok⟩
  · injection h with h; subst h; exact ⟨Tryz.f60,F60.body,Tryz.func60,F60_ok⟩
  · injection h with h; subst h; exact ⟨Tryz.f62,F62.body,Tryz.func62,F62_ok⟩
  · injection h with h; subst h; exact ⟨Tryz.f63,F63.body,Tryz.func63,F63_ok⟩
  · injection h with h; subst h; exact ⟨Tryz.f64,F64.body,Tryz.func64,F64_ok⟩
  · injection h with h; subst h; exact ⟨Tryz.f65,F65.body,Tryz.func65,F65_ok⟩
  · injection h with h; subst h; exact ⟨Tryz.f66,F66.body,Tryz.func66,F66_ok⟩
  · injection h with h; subst h; exact ⟨Tryz.f67,F67.body,Tryz.func67,F67_ok⟩
  · injection h with h; subst h; exact ⟨Tryz.f68,F68.body,Tryz.func68,F68_ok⟩
  · injection h with h; subst h; exact ⟨Tryz.f69,F69.body,Tryz.func69,F69_ok⟩
  · injection h with h; subst h; exact ⟨Tryz.f72,F72.body,Tryz.func72,F72_ok⟩
  · injection h with h; subst h; exact ⟨Tryz.f73,F73.body,Tryz.func73,F73_ok⟩
  · injection h with h; subst h; exact ⟨Tryz.f74,F74.body,Tryz.func74,F74_ok⟩
  · injection h with h; subst h; exact ⟨Tryz.f75,F75.body,Tryz.func75,F75_ok⟩
  · injection h with h; subst h; exact ⟨Tryz.f76,F76.body,Tryz.func76,F76_ok⟩
  · injection h with h; subst h; exact ⟨Tryz.f77,F77.body,Tryz.func77,F77_ok⟩
  · injection h with h; subst h; exact ⟨Tryz.f78,F78.body,Tryz.func78,F78_ok⟩
  · injection h with h; subst h; exact ⟨Tryz.f79,F79.body,Tryz.func79,F79_ok⟩
  · injection h with h; subst h; exact ⟨Tryz.f91,F91.body,Tryz.func91,F91_ok⟩
  · injection h with h; subst h; exact ⟨Tryz.f92,F92.body,Tryz.func92,F92_ok⟩
  · injection h with h; subst h; exact ⟨Tryz.f93,F93.body,Tryz.func93,F93_ok⟩
  · cases h
end Go.Proofs.YtknhlpmmalcchaaGreat
