/-
  LineTutte: a share of the pieces that the kernel checks.
-/
import Derived.Test.YtbkpojiedkhfkaaGreatU1
set_option linter.unusedVariables false
set_option linter.unusedSimpArgs false
set_option maxRecDepth 100000
namespace Go.Z
theorem d8_TFFTFF:walkP [true,false,false,true,false,false] 64 P8 C8=true:=by kernel_rfl
theorem d8_FFTTFTFF:walkP [false,false,true,true,false,true,false,false] 64 P8 C8=true:=by kernel_rfl
theorem d8_TTFTFFFF:walkP [true,true,false,true,false,false,false,false] 64 P8 C8=true:=by kernel_rfl
theorem d8_FTFFTT:walkP [false,true,false,false,true,true] 64 P8 C8=true:=by kernel_rfl
theorem d8_FFFTFF:walkP [false,false,false,true,false,false] 64 P8 C8=true:=by kernel_rfl
theorem d8_FFFFTTT:walkP [false,false,false,false,true,true,true] 64 P8 C8=true:=by kernel_rfl
theorem d8_TFTFTTT:walkP [true,false,true,false,true,true,true] 64 P8 C8=true:=by kernel_rfl
end Go.Z
/-
 LineTutte: a share of the pieces that the kernel checks.
-/
namespace Go.Z
theorem d8_TFFTFTF:walkP [true,false,false,true,false,true,false] 64 P8 C8=true:=by kernel_rfl
theorem d8_TFFTTFT:walkP [true,false,false,true,true,false,true] 64 P8 C8=true:=by kernel_rfl
theorem d8_TTFFFF:walkP [true,true,false,false,false,false] 64 P8 C8=true:=by kernel_rfl
theorem d8_FTTFFTT:walkP [false,true,true,false,false,true,true] 64 P8 C8=true:=by kernel_rfl
theorem d8_FTFTTFF:walkP [false,true,false,true,true,false,false] 64 P8 C8=true:=by kernel_rfl
theorem d8_TFTTFFT:walkP [true,false,true,true,false,false,true] 64 P8 C8=true:=by kernel_rfl
theorem d8_TTTFTFT:walkP [true,true,true,false,true,false,true] 64 P8 C8=true:=by kernel_rfl
end Go.Z
/-
 LineTutte: a share of the pieces that the kernel checks.
-/
namespace Go.Z
theorem d8_TFTTFTF:walkP [true,false,true,true,false,true,false] 64 P8 C8=true:=by kernel_rfl
theorem d8_TTFFTTF:walkP [true,true,false,false,true,true,false] 64 P8 C8=true:=by kernel_rfl
theorem d8_FTTTFFF:walkP [false,true,true,true,false,false,false] 64 P8 C8=true:=by kernel_rfl
theorem d8_FFTFFF:walkP [false,false,true,false,false,false] 64 P8 C8=true:=by kernel_rfl
theorem d8_FTTFTFT:walkP [false,true,true,false,true,false,true] 64 P8 C8=true:=by kernel_rfl
theorem d8_FFTTFFF:walkP [false,false,true,true,false,false,false] 64 P8 C8=true:=by kernel_rfl
theorem d8_FFTTFTT:walkP [false,false,true,true,false,true,true] 64 P8 C8=true:=by kernel_rfl
end Go.Z
/-
 LineTutte: a share of the pieces that the kernel checks.
-/
namespace Go.Z
theorem d8_TTFFFTT:walkP [true,true,false,false,false,true,true] 64 P8 C8=true:=by kernel_rfl
theorem d8_TTTFFFF:walkP [true,true,true,false,false,false,false] 64 P8 C8=true:=by kernel_rfl
theorem d8_TTTFFT:walkP [true,true,true,false,false,true] 64 P8 C8=true:=by kernel_rfl
theorem d8_FTFFFF:walkP [false,true,false,false,false,false] 64 P8 C8=true:=by kernel_rfl
theorem d8_FTTFTT:walkP [false,true,true,false,true,true] 64 P8 C8=true:=by kernel_rfl
theorem d8_FFFFTTF:walkP [false,false,false,false,true,true,false] 64 P8 C8=true:=by kernel_rfl
theorem d8_TFFTFTT:walkP [true,false,false,true,false,true,true] 64 P8 C8=true:=by kernel_rfl
end Go.Z
