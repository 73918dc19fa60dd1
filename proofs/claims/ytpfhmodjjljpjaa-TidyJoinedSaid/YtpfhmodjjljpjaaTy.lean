import Derived.Test.YtpfhmodjjljpjaaL12
import Derived.Test.YtpfhmodjjljpjaaProg
import Derived.KernelRfl
namespace Go.Proofs.Ytpfhmodjjljpjaa
open Go.RowKit
namespace Lg
set_option linter.unusedSimpArgs false
set_option linter.unusedVariables false

/-! ### The program's types, as far as the walks need them (printed by ty.py) -/
def ty3 : TyI := ⟨false, 1, 8, [.int .i64 0], 0, []⟩
theorem ty3_good : Good Try.prog 3 ty3 := ⟨by kernel_rfl, by kernel_rfl, by kernel_rfl, by kernel_rfl⟩
def ty4 : TyI := ⟨false, 1, 1, [.bool false], 0, []⟩
theorem ty4_good : Good Try.prog 4 ty4 := ⟨by kernel_rfl, by kernel_rfl, by kernel_rfl, by kernel_rfl⟩
def ty5 : TyI := ⟨false, 1, 1, [.int .u8 0], 0, []⟩
theorem ty5_good : Good Try.prog 5 ty5 := ⟨by kernel_rfl, by kernel_rfl, by kernel_rfl, by kernel_rfl⟩
def ty68 : TyI := ⟨false, 1, 4, [.int .u32 0], 0, []⟩
theorem ty68_good : Good Try.prog 68 ty68 := ⟨by kernel_rfl, by kernel_rfl, by kernel_rfl, by kernel_rfl⟩
def ty22 : TyI := ⟨false, 1, 24, [.slice none 0 0], 29, []⟩
theorem ty22_good : Good Try.prog 22 ty22 := ⟨by kernel_rfl, by kernel_rfl, by kernel_rfl, by kernel_rfl⟩
def ty27 : TyI := ⟨false, 1, 24, [.slice none 0 0], 72, []⟩
theorem ty27_good : Good Try.prog 27 ty27 := ⟨by kernel_rfl, by kernel_rfl, by kernel_rfl, by kernel_rfl⟩
def ty30 : TyI := ⟨false, 1, 24, [.slice none 0 0], 52, []⟩
theorem ty30_good : Good Try.prog 30 ty30 := ⟨by kernel_rfl, by kernel_rfl, by kernel_rfl, by kernel_rfl⟩
def ty48 : TyI := ⟨false, 1, 24, [.slice none 0 0], 4, []⟩
theorem ty48_good : Good Try.prog 48 ty48 := ⟨by kernel_rfl, by kernel_rfl, by kernel_rfl, by kernel_rfl⟩
def ty52 : TyI := ⟨false, 1, 24, [.slice none 0 0], 3, []⟩
theorem ty52_good : Good Try.prog 52 ty52 := ⟨by kernel_rfl, by kernel_rfl, by kernel_rfl, by kernel_rfl⟩
def ty55 : TyI := ⟨false, 1, 24, [.slice none 0 0], 48, []⟩
theorem ty55_good : Good Try.prog 55 ty55 := ⟨by kernel_rfl, by kernel_rfl, by kernel_rfl, by kernel_rfl⟩
def ty66 : TyI := ⟨false, 1, 24, [.slice none 0 0], 5, []⟩
theorem ty66_good : Good Try.prog 66 ty66 := ⟨by kernel_rfl, by kernel_rfl, by kernel_rfl, by kernel_rfl⟩
def ty67 : TyI := ⟨false, 1, 24, [.slice none 0 0], 70, []⟩
theorem ty67_good : Good Try.prog 67 ty67 := ⟨by kernel_rfl, by kernel_rfl, by kernel_rfl, by kernel_rfl⟩
def ty105 : TyI := ⟨false, 1, 24, [.slice none 0 0], 68, []⟩
theorem ty105_good : Good Try.prog 105 ty105 := ⟨by kernel_rfl, by kernel_rfl, by kernel_rfl, by kernel_rfl⟩
def ty123 : TyI := ⟨false, 1, 24, [.slice none 0 0], 124, []⟩
theorem ty123_good : Good Try.prog 123 ty123 := ⟨by kernel_rfl, by kernel_rfl, by kernel_rfl, by kernel_rfl⟩
def ty1 : TyI := ⟨false, 1, 8, [.nilFunc], 0, []⟩
theorem ty1_good : Good Try.prog 1 ty1 := ⟨by kernel_rfl, by kernel_rfl, by kernel_rfl, by kernel_rfl⟩
def ty96 : TyI := ⟨false, 1, 8, [.nilFunc], 0, []⟩
theorem ty96_good : Good Try.prog 96 ty96 := ⟨by kernel_rfl, by kernel_rfl, by kernel_rfl, by kernel_rfl⟩
def ty97 : TyI := ⟨false, 1, 8, [.nilFunc], 0, []⟩
theorem ty97_good : Good Try.prog 97 ty97 := ⟨by kernel_rfl, by kernel_rfl, by kernel_rfl, by kernel_rfl⟩
def ty101 : TyI := ⟨false, 1, 8, [.nilFunc], 0, []⟩
theorem ty101_good : Good Try.prog 101 ty101 := ⟨by kernel_rfl, by kernel_rfl, by kernel_rfl, by kernel_rfl⟩
def ty108 : TyI := ⟨false, 1, 8, [.nilFunc], 0, []⟩
theorem ty108_good : Good Try.prog 108 ty108 := ⟨by kernel_rfl, by kernel_rfl, by kernel_rfl, by kernel_rfl⟩
def ty144 : TyI := ⟨false, 1, 8, [.nilFunc], 0, []⟩
theorem ty144_good : Good Try.prog 144 ty144 := ⟨by kernel_rfl, by kernel_rfl, by kernel_rfl, by kernel_rfl⟩
def ty135 : TyI := ⟨false, 1, 8, [.nilFunc], 0, []⟩
theorem ty135_good : Good Try.prog 135 ty135 := ⟨by kernel_rfl, by kernel_rfl, by kernel_rfl, by kernel_rfl⟩
def ty127 : TyI := ⟨false, 1, 8, [.nilFunc], 0, []⟩
theorem ty127_good : Good Try.prog 127 ty127 := ⟨by kernel_rfl, by kernel_rfl, by kernel_rfl, by kernel_rfl⟩
def ty119 : TyI := ⟨false, 1, 8, [.nilFunc], 0, []⟩
theorem ty119_good : Good Try.prog 119 ty119 := ⟨by kernel_rfl, by kernel_rfl, by kernel_rfl, by kernel_rfl⟩
def ty126 : TyI := ⟨false, 1, 8, [.nilFunc], 0, []⟩
theorem ty126_good : Good Try.prog 126 ty126 := ⟨by kernel_rfl, by kernel_rfl, by kernel_rfl, by kernel_rfl⟩
def ty134 : TyI := ⟨false, 1, 8, [.nilFunc], 0, []⟩
theorem ty134_good : Good Try.prog 134 ty134 := ⟨by kernel_rfl, by kernel_rfl, by kernel_rfl, by kernel_rfl⟩
def ty29 : TyI := ⟨true, 2, 32, [.int .i64 0, .slice none 0 0], 0, [(0, 1), (1, 1)]⟩
theorem ty29_good : Good Try.prog 29 ty29 := ⟨by kernel_rfl, by kernel_rfl, by kernel_rfl, by kernel_rfl⟩
def ty24 : TyI := ⟨true, 2, 32, [.int .i64 0, .slice none 0 0], 0, [(0, 1), (1, 1)]⟩
theorem ty24_good : Good Try.prog 24 ty24 := ⟨by kernel_rfl, by kernel_rfl, by kernel_rfl, by kernel_rfl⟩
def ty70 : TyI := ⟨true, 8, 64, [.int .i64 0, .int .i64 0, .int .i64 0, .int .i64 0, .int .i64 0, .int .i64 0, .int .i64 0, .int .u32 0], 0, [(0, 1), (1, 1), (2, 1), (3, 1), (4, 1), (5, 1), (6, 1), (7, 1)]⟩
theorem ty70_good : Good Try.prog 70 ty70 := ⟨by kernel_rfl, by kernel_rfl, by kernel_rfl, by kernel_rfl⟩
def ty72 : TyI := ⟨true, 5, 56, [.slice none 0 0, .int .i64 0, .int .i64 0, .int .i64 0, .int .i64 0], 0, [(0, 1), (1, 1), (2, 1), (3, 1), (4, 1)]⟩
theorem ty72_good : Good Try.prog 72 ty72 := ⟨by kernel_rfl, by kernel_rfl, by kernel_rfl, by kernel_rfl⟩
def ty57 : TyI := ⟨true, 2, 48, [.slice none 0 0, .slice none 0 0], 0, [(0, 1), (1, 1)]⟩
theorem ty57_good : Good Try.prog 57 ty57 := ⟨by kernel_rfl, by kernel_rfl, by kernel_rfl, by kernel_rfl⟩
def ty60 : TyI := ⟨true, 1, 24, [.slice none 0 0], 0, [(0, 1)]⟩
theorem ty60_good : Good Try.prog 60 ty60 := ⟨by kernel_rfl, by kernel_rfl, by kernel_rfl, by kernel_rfl⟩
def ty46 : TyI := ⟨true, 5, 88, [.int .i64 0, .slice none 0 0, .int .i64 0, .slice none 0 0, .slice none 0 0], 0, [(0, 2), (2, 2), (4, 1)]⟩
theorem ty46_good : Good Try.prog 46 ty46 := ⟨by kernel_rfl, by kernel_rfl, by kernel_rfl, by kernel_rfl⟩
def ty75 : TyI := ⟨true, 6, 112, [.int .i64 0, .slice none 0 0, .slice none 0 0, .slice none 0 0, .slice none 0 0, .int .i64 0], 0, [(0, 2), (2, 2), (4, 1), (5, 1)]⟩
theorem ty75_good : Good Try.prog 75 ty75 := ⟨by kernel_rfl, by kernel_rfl, by kernel_rfl, by kernel_rfl⟩
def ty78 : TyI := ⟨true, 8, 144, [.int .i64 0, .slice none 0 0, .int .i64 0, .slice none 0 0, .int .i64 0, .slice none 0 0, .slice none 0 0, .slice none 0 0], 0, [(0, 2), (2, 2), (4, 2), (6, 1), (7, 1)]⟩
theorem ty78_good : Good Try.prog 78 ty78 := ⟨by kernel_rfl, by kernel_rfl, by kernel_rfl, by kernel_rfl⟩
def ty53 : TyI := ⟨true, 2, 2, [.int .u8 0, .int .u8 0], 0, []⟩
theorem ty53_good : Good Try.prog 53 ty53 := ⟨by kernel_rfl, by kernel_rfl, by kernel_rfl, by kernel_rfl⟩
def ty124 : TyI := ⟨false, 1, 24, [.slice none 0 0], 4, []⟩
theorem ty124_good : Good Try.prog 124 ty124 := ⟨by kernel_rfl, by kernel_rfl, by kernel_rfl, by kernel_rfl⟩
def tyGet : Nat → Option TyI
  | 1 => some ty1
  | 3 => some ty3
  | 4 => some ty4
  | 5 => some ty5
  | 22 => some ty22
  | 24 => some ty24
  | 27 => some ty27
  | 29 => some ty29
  | 30 => some ty30
  | 46 => some ty46
  | 48 => some ty48
  | 52 => some ty52
  | 53 => some ty53
  | 55 => some ty55
  | 57 => some ty57
  | 60 => some ty60
  | 66 => some ty66
  | 67 => some ty67
  | 68 => some ty68
  | 70 => some ty70
  | 72 => some ty72
  | 75 => some ty75
  | 78 => some ty78
  | 96 => some ty96
  | 97 => some ty97
  | 101 => some ty101
  | 105 => some ty105
  | 108 => some ty108
  | 119 => some ty119
  | 123 => some ty123
  | 124 => some ty124
  | 126 => some ty126
  | 127 => some ty127
  | 134 => some ty134
  | 135 => some ty135
  | 144 => some ty144
  | _ => none
theorem tyGet_ok (t : Nat) (i : TyI) (h : tyGet t = some i) : Good Try.prog t i := by
  unfold tyGet at h
  split at h
  · cases h; exact ty1_good
  · cases h; exact ty3_good
  · cases h; exact ty4_good
  · cases h; exact ty5_good
  · cases h; exact ty22_good
  · cases h; exact ty24_good
  · cases h; exact ty27_good
  · cases h; exact ty29_good
  · cases h; exact ty30_good
  · cases h; exact ty46_good
  · cases h; exact ty48_good
  · cases h; exact ty52_good
  · cases h; exact ty53_good
  · cases h; exact ty55_good
  · cases h; exact ty57_good
  · cases h; exact ty60_good
  · cases h; exact ty66_good
  · cases h; exact ty67_good
  · cases h; exact ty68_good
  · cases h; exact ty70_good
  · cases h; exact ty72_good
  · cases h; exact ty75_good
  · cases h; exact ty78_good
  · cases h; exact ty96_good
  · cases h; exact ty97_good
  · cases h; exact ty101_good
  · cases h; exact ty105_good
  · cases h; exact ty108_good
  · cases h; exact ty119_good
  · cases h; exact ty123_good
  · cases h; exact ty124_good
  · cases h; exact ty126_good
  · cases h; exact ty127_good
  · cases h; exact ty134_good
  · cases h; exact ty135_good
  · cases h; exact ty144_good
  · cases h
def D : Tab Try.prog := ⟨tyGet, tyGet_ok⟩
end Lg
end Go.Proofs.Ytpfhmodjjljpjaa
