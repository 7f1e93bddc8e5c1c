/-
  LineTutte: a share of the pieces that the kernel checks.
-/
import Derived.Test.YtbkpojiedkhfkaaGreatU1
set_option linter.unusedVariables false
set_option linter.unusedSimpArgs false
set_option maxRecDepth 100000
namespace Go.Z
theorem d8_FFFFF:walkP [false,false,false,false,false] 64 P8 C8=true:=by kernel_rfl
theorem d8_FFFFTF:walkP [false,false,false,false,true,false] 64 P8 C8=true:=by kernel_rfl
theorem d8_FFFTTT:walkP [false,false,false,true,true,true] 64 P8 C8=true:=by kernel_rfl
theorem d8_FTFFTF:walkP [false,true,false,false,true,false] 64 P8 C8=true:=by kernel_rfl
theorem d8_TFTFTFT:walkP [true,false,true,false,true,false,true] 64 P8 C8=true:=by kernel_rfl
theorem d8_TTFTFFFT:walkP [true,true,false,true,false,false,false,true] 64 P8 C8=true:=by kernel_rfl
theorem d8_TFTTFTT:walkP [true,false,true,true,false,true,true] 64 P8 C8=true:=by kernel_rfl
end Go.Z
/-
 LineTutte: a share of the pieces that the kernel checks.
-/
namespace Go.Z
theorem d8_FFTTTFF:walkP [false,false,true,true,true,false,false] 64 P8 C8=true:=by kernel_rfl
theorem d8_TTFFTFT:walkP [true,true,false,false,true,false,true] 64 P8 C8=true:=by kernel_rfl
theorem d8_FFFTTFT:walkP [false,false,false,true,true,false,true] 64 P8 C8=true:=by kernel_rfl
theorem d8_TFTTFFF:walkP [true,false,true,true,false,false,false] 64 P8 C8=true:=by kernel_rfl
theorem d8_FTTFTFFF:walkP [false,true,true,false,true,false,false,false] 64 P8 C8=true:=by kernel_rfl
theorem d8_FTTTFFT:walkP [false,true,true,true,false,false,true] 64 P8 C8=true:=by kernel_rfl
theorem d8_TTFFTTT:walkP [true,true,false,false,true,true,true] 64 P8 C8=true:=by kernel_rfl
end Go.Z
/-
 LineTutte: a share of the pieces that the kernel checks.
-/
namespace Go.Z
theorem d8_TTFTFFT:walkP [true,true,false,true,false,false,true] 64 P8 C8=true:=by kernel_rfl
theorem d8_FTFFFT:walkP [false,true,false,false,false,true] 64 P8 C8=true:=by kernel_rfl
theorem d8_TFTFTFF:walkP [true,false,true,false,true,false,false] 64 P8 C8=true:=by kernel_rfl
theorem d8_FTFTTFT:walkP [false,true,false,true,true,false,true] 64 P8 C8=true:=by kernel_rfl
theorem d8_FFTFTT:walkP [false,false,true,false,true,true] 64 P8 C8=true:=by kernel_rfl
theorem d8_TFTFFFT:walkP [true,false,true,false,false,false,true] 64 P8 C8=true:=by kernel_rfl
theorem d8_FFFTTFF:walkP [false,false,false,true,true,false,false] 64 P8 C8=true:=by kernel_rfl
end Go.Z
/-
 LineTutte: a share of the pieces that the kernel checks.
-/
namespace Go.Z
theorem d8_TFFFFT:walkP [true,false,false,false,false,true] 64 P8 C8=true:=by kernel_rfl
theorem d8_TTTFTFFF:walkP [true,true,true,false,true,false,false,false] 64 P8 C8=true:=by kernel_rfl
theorem d8_FTTFFTF:walkP [false,true,true,false,false,true,false] 64 P8 C8=true:=by kernel_rfl
theorem d8_TFTFFT:walkP [true,false,true,false,false,true] 64 P8 C8=true:=by kernel_rfl
theorem d8_FFTFTF:walkP [false,false,true,false,true,false] 64 P8 C8=true:=by kernel_rfl
theorem d8_FFTTTFT:walkP [false,false,true,true,true,false,true] 64 P8 C8=true:=by kernel_rfl
theorem d8_FTFTFTT:walkP [false,true,false,true,false,true,true] 64 P8 C8=true:=by kernel_rfl
end Go.Z
