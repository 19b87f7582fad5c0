/- All functions as one program. -/
import Derived.Test.YtknhlpmmalcchaaH22Fta
import Derived.Test.YtknhlpmmalcchaaH22Ftb
import Derived.Test.YtknhlpmmalcchaaH22Vba
set_option linter.all false
set_option linter.unusedVariables false
set_option linter.unusedSimpArgs false
namespace Go.Proofs.Ytknhlpmmalcchaa
open Go Go.VAI Go.Proofs
noncomputable def A : AProg := ⟨fun f => match f with
  | 22 => some F22
  | 28 => some F28
  | 33 => some F33
  | 35 => some F35
  | 38 => some F38
  | 40 => some F40
  | 41 => some F41
  | 47 => some F47
  | 48 => some F48
  | 51 => some F51
  | 52 => some F52
  | 53 => some F53
  | 54 => some F54
  | 59 => some F59
  | 69 => some F69
  | 70 => some F70
  | 71 => some F71
  | 76 => some F76
  | 77 => some F77
  | 78 => some F78
  | 79 => some F79
  | 81 => some F81
  | 82 => some F82
  | 83 => some F83
  | 85 => some F85
  | 86 => some F86
  | 87 => some F87
  | 88 => some F88
  | 89 => some F89
  | 90 => some F90
  | 91 => some F91
  | 93 => some F93
  | 94 => some F94
  | 95 => some F95
  | 96 => some F96
  | 97 => some F97
  | 106 => some F106
  | 107 => some F107
  | 108 => some F108
  | 109 => some F109
  | 110 => some F110
  | 111 => some F111
  | 112 => some F112
  | 113 => some F113
  | 114 => some F114
  | 115 => some F115
  | 116 => some F116
  | 117 => some F117
  | 118 => some F118
  | 120 => some F120
  | 121 => some F121
  | 122 => some F122
  | 123 => some F123
  | 124 => some F124
  | 125 => some F125
  | 126 => some F126
  | 127 => some F127
  | 128 => some F128
  | 129 => some F129
  | 131 => some F131
  | 139 => some F139
  | 140 => some F140
  | 141 => some F141
  | 143 => some F143
  | _ => none, lawful Try.prog (libF 119 120 92 93 122 123)⟩
theorem A_ok : ProgOk Try.prog tab A := by
  refine ⟨?_, lawful_ok _ _⟩
  intro f afn h
  unfold A at h
  simp only at h
  split at h
  · injection h with h; subst h; exact ⟨Try.f22, F22.body, Try.func22, F22_ok⟩
  · injection h with h; subst h; exact ⟨Try.f28, F28.body, Try.func28, F28_ok⟩
  · injection h with h; subst h; exact ⟨Try.f33, F33.body, Try.func33, F33_ok⟩
  · injection h with h; subst h; exact ⟨Try.f35, F35.body, Try.func35, F35_ok⟩
  · injection h with h; subst h; exact ⟨Try.f38, F38.body, Try.func38, F38_ok⟩
  · injection h with h; subst h; exact ⟨Try.f40, F40.body, Try.func40, F40_ok⟩
  · injection h with h; subst h; exact ⟨Try.f41, F41.body, Try.func41, F41_ok⟩
  · injection h with h; subst h; exact ⟨Try.f47, F47.body, Try.func47, F47_ok⟩
  · injection h with h; subst h; exact ⟨Try.f48, F48.body, Try.func48, F48_ok⟩
  · injection h with h; subst h; exact ⟨Try.f51, F51.body, Try.func51, F51_ok⟩
  · injection h with h; subst h; exact ⟨Try.f52, F52.body, Try.func52, F52_ok⟩
  · injection h with h; subst h; exact ⟨Try.f53, F53.body, Try.func53, F53_ok⟩
  · injection h with h; subst h; exact ⟨Try.f54, F54.body, Try.func54, F54_ok⟩
  · injection h with h; subst h; exact ⟨Try.f59, F59.body, Try.func59, F59_ok⟩
  · injection h with h; subst h; exact ⟨Try.f69, F69.body, Try.func69, F69_ok⟩
  · injection h with h; subst h; exact ⟨Try.f70, F70.body, Try.func70, F70_ok⟩
  · injection h with h; subst h; exact ⟨Try.f71, F71.body, Try.func71, F71_ok⟩
  · injection h with h; subst h; exact ⟨Try.f76, F76.body, Try.func76, F76_ok⟩
  · injection h with h; subst h; exact ⟨Try.f77, F77.body, Try.func77, F77_ok⟩
  · injection h with h; subst h; exact ⟨Try.f78, F78.body, Try.func78, F78_ok⟩
  · injection h with h; subst h; exact ⟨Try.f79, F79.body, Try.func79, F79_ok⟩
  · injection h with h; subst h; exact ⟨Try.f81, F81.body, Try.func81, F81_ok⟩
  · injection h with h; subst h; exact ⟨Try.f82, F82.body, Try.func82, F82_ok⟩
  · injection h with h; subst h; exact ⟨Try.f83, F83.body, Try.func83, F83_ok⟩
  · injection h with h; subst h; exact ⟨Try.f85, F85.body, Try.func85, F85_ok⟩
  · injection h with h; subst h; exact ⟨Try.f86, F86.body, Try.func86, F86_ok⟩
  · injection h with h; subst h; exact ⟨Try.f87, F87.body, Try.func87, F87_ok⟩
  · injection h with h; subst h; exact ⟨Try.f88, F88.body, Try.func88, F88_ok⟩
  · injection h with h; subst h; exact ⟨Try.f89, F89.body, Try.func89, F89_ok⟩
  · injection h with h; subst h; exact ⟨Try.f90, F90.body, Try.func90, F90_ok⟩
  · injection h with h; subst h; exact ⟨Try.f91, F91.body, Try.func91, F91_ok⟩
  · injection h with h; subst h; exact ⟨Try.f93, F93.body, Try.func93, F93_ok⟩
  · injection h with h; subst h; exact ⟨Try.f94, F94.body, Try.func94, F94_ok⟩
  · injection h with h; subst h; exact ⟨Try.f95, F95.body, Try.func95, F95_ok⟩
  · injection h with h; subst h; exact ⟨Try.f96, F96.body, Try.func96, F96_ok⟩
  · injection h with h; subst h; exact ⟨Try.f97, F97.body, Try.func97, F97_ok⟩
  · injection h with h; subst h; exact ⟨Try.f106, F106.body, Try.func106, F106_ok⟩
  · injection h with h; subst h; exact ⟨Try.f107, F107.body, Try.func107, F107_ok⟩
  · injection h with h; subst h; exact ⟨Try.f108, F108.body, Try.func108, F108_ok⟩
  · injection h with h; subst h; exact ⟨Try.f109, F109.body, Try.func109, F109_ok⟩
  · injection h with h; subst h; exact ⟨Try.f110, F110.body, Try.func110, F110_ok⟩
  · injection h with h; subst h; exact ⟨Try.f111, F111.body, Try.func111, F111_ok⟩
  · injection h with h; subst h; exact ⟨Try.f112, F112.body, Try.func112, F112_ok⟩
  · injection h with h; subst h; exact ⟨Try.f113, F113.body, Try.func113, F113_ok⟩
  · injection h with h; subst h; exact ⟨Try.f114, F114.body, Try.func114, F114_ok⟩
  · injection h with h; subst h; exact ⟨Try.f115, F115.body, Try.func115, F115_ok⟩
  · injection h with h; subst h; exact ⟨Try.f116, F116.body, Try.func116, F116_ok⟩
  · injection h with h; subst h; exact ⟨Try.f117, F117.body, Try.func117, F117_ok⟩
  · injection h with h; subst h; exact ⟨Try.f118, F118.body, Try.func118, F118_ok⟩
  · injection h with h; subst h; exact ⟨Try.f120, F120.body, Try.func120, F120_ok⟩
  · injection h with h; subst h; exact ⟨Try.f121, F121.body, Try.func121, F121_ok⟩
  · injection h with h; subst h; exact ⟨Try.f122, F122.body, Try.func122, F122_ok⟩
  · injection h with h; subst h; exact ⟨Try.f123, F123.body, Try.func123, F123_ok⟩
  · injection h with h; subst h; exact ⟨Try.f124, F124.body, Try.func124, F124_ok⟩
  · injection h with h; subst h; exact ⟨Try.f125, F125.body, Try.func125, F125_ok⟩
  · injection h with h; subst h; exact ⟨Try.f126, F126.body, Try.func126, F126_ok⟩
  · injection h with h; subst h; exact ⟨Try.f127, F127.body, Try.func127, F127_ok⟩
  · injection h with h; subst h; exact ⟨Try.f128, F128.body, Try.func128, F128_ok⟩
  · injection h with h; subst h; exact ⟨Try.f129, F129.body, Try.func129, F129_ok⟩
  · injection h with h; subst h; exact ⟨Try.f131, F131.body, Try.func131, F131_ok⟩
  · injection h with h; subst h; exact ⟨Try.f139, F139.body, Try.func139, F139_ok⟩
  · injection h with h; subst h; exact ⟨Try.f140, F140.body, Try.func140, F140_ok⟩
  · injection h with h; subst h; exact ⟨Try.f141, F141.body, Try.func141, F141_ok⟩
  · injection h with h; subst h; exact ⟨Try.f143, F143.body, Try.func143, F143_ok⟩
  · cases h
end Go.Proofs.Ytknhlpmmalcchaa
