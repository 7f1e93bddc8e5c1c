/-
  LineTutte: a share of the pieces that the kernel checks.
-/
import Derived.Test.YtbkpojiedkhfkaaGreatU1
set_option linter.unusedVariables false
set_option linter.unusedSimpArgs false
set_option maxRecDepth 100000
namespace Go.Z
theorem d8_TTFFFTF:walkP [true,true,false,false,false,true,false] 64 P8 C8=true:=by kernel_rfl
theorem d8_FFTFFT:walkP [false,false,true,false,false,true] 64 P8 C8=true:=by kernel_rfl
theorem d8_TFTFTTFF:walkP [true,false,true,false,true,true,false,false] 64 P8 C8=true:=by kernel_rfl
theorem d8_FTTFFF:walkP [false,true,true,false,false,false] 64 P8 C8=true:=by kernel_rfl
theorem d8_FTTFTFFT:walkP [false,true,true,false,true,false,false,true] 64 P8 C8=true:=by kernel_rfl
theorem d8_TFFTTT:walkP [true,false,false,true,true,true] 64 P8 C8=true:=by kernel_rfl
theorem d8_TTTT:walkP [true,true,true,true] 64 P8 C8=true:=by kernel_rfl
theorem d8_TTTFTT:walkP [true,true,true,false,true,true] 64 P8 C8=true:=by kernel_rfl
theorem d8_FTTTT:walkP [false,true,true,true,true] 64 P8 C8=true:=by kernel_rfl
theorem d8_FFTTTT:walkP [false,false,true,true,true,true] 64 P8 C8=true:=by kernel_rfl
end Go.Z
/-
 LineTutte: a share of the pieces that the kernel checks.
-/
namespace Go.Z
theorem d8_TFTTT:walkP [true,false,true,true,true] 64 P8 C8=true:=by kernel_rfl
theorem d8_FFTTFFT:walkP [false,false,true,true,false,false,true] 64 P8 C8=true:=by kernel_rfl
theorem d8_TTTFFFT:walkP [true,true,true,false,false,false,true] 64 P8 C8=true:=by kernel_rfl
theorem d8_TFFFTT:walkP [true,false,false,false,true,true] 64 P8 C8=true:=by kernel_rfl
theorem d8_TFTFTTFT:walkP [true,false,true,false,true,true,false,true] 64 P8 C8=true:=by kernel_rfl
theorem d8_FFTTFTFT:walkP [false,false,true,true,false,true,false,true] 64 P8 C8=true:=by kernel_rfl
theorem d8_TTFFTFF:walkP [true,true,false,false,true,false,false] 64 P8 C8=true:=by kernel_rfl
end Go.Z
/-
 LineTutte: a share of the pieces that the kernel checks.
-/
namespace Go.Z
theorem d8_TTFTT:walkP [true,true,false,true,true] 64 P8 C8=true:=by kernel_rfl
theorem d8_FTFTFF:walkP [false,true,false,true,false,false] 64 P8 C8=true:=by kernel_rfl
theorem d8_TFFFFF:walkP [true,false,false,false,false,false] 64 P8 C8=true:=by kernel_rfl
theorem d8_FTFTFTF:walkP [false,true,false,true,false,true,false] 64 P8 C8=true:=by kernel_rfl
theorem d8_TFFTTFF:walkP [true,false,false,true,true,false,false] 64 P8 C8=true:=by kernel_rfl
theorem d8_TFTFFFFT:walkP [true,false,true,false,false,false,false,true] 64 P8 C8=true:=by kernel_rfl
end Go.Z
/-
 LineTutte: a share of the pieces that the kernel checks.
-/
namespace Go.Z
theorem d8_FFFTFT:walkP [false,false,false,true,false,true] 64 P8 C8=true:=by kernel_rfl
theorem d8_TTFTFT:walkP [true,true,false,true,false,true] 64 P8 C8=true:=by kernel_rfl
theorem d8_TFFFTF:walkP [true,false,false,false,true,false] 64 P8 C8=true:=by kernel_rfl
theorem d8_FTTTFT:walkP [false,true,true,true,false,true] 64 P8 C8=true:=by kernel_rfl
theorem d8_TFTFFFFF:walkP [true,false,true,false,false,false,false,false] 64 P8 C8=true:=by kernel_rfl
theorem d8_FTFTTT:walkP [false,true,false,true,true,true] 64 P8 C8=true:=by kernel_rfl
theorem d8_TTTFTFFT:walkP [true,true,true,false,true,false,false,true] 64 P8 C8=true:=by kernel_rfl
end Go.Z
