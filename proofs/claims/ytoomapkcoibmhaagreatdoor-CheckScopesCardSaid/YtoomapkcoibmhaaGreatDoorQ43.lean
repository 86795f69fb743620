/- A part of the proof. -/
import Derived.Test.YtoomapkcoibmhaaGreatDoorQ41
set_option maxRecDepth 100000
set_option maxHeartbeats 12800000
set_option linter.all false
section
namespace Ck
theorem c28_0:scSix 28 0=true:=by kernel_rfl
theorem c28_1:scSix 28 1=true:=by kernel_rfl
theorem c28_2:scSix 28 2=true:=by kernel_rfl
theorem c28_3:scSix 28 3=true:=by kernel_rfl
theorem c28_4:scSix 28 4=true:=by kernel_rfl
theorem c29_0:scSix 29 0=true:=by kernel_rfl
theorem c29_1:scSix 29 1=true:=by kernel_rfl
theorem c29_2:scSix 29 2=true:=by kernel_rfl
theorem c29_3:scSix 29 3=true:=by kernel_rfl
theorem c29_4:scSix 29 4=true:=by kernel_rfl
theorem c30_0:scSix 30 0=true:=by kernel_rfl
theorem c30_1:scSix 30 1=true:=by kernel_rfl
theorem c30_2:scSix 30 2=true:=by kernel_rfl
theorem c30_3:scSix 30 3=true:=by kernel_rfl
theorem c30_4:scSix 30 4=true:=by kernel_rfl
theorem c30_5:scSix 30 5=true:=by kernel_rfl
theorem c31_0:scSix 31 0=true:=by kernel_rfl
theorem c31_1:scSix 31 1=true:=by kernel_rfl
theorem c31_2:scSix 31 2=true:=by kernel_rfl
theorem c31_3:scSix 31 3=true:=by kernel_rfl
theorem c31_4:scSix 31 4=true:=by kernel_rfl
theorem c31_5:scSix 31 5=true:=by kernel_rfl
theorem c32_0:scSix 32 0=true:=by kernel_rfl
theorem c32_1:scSix 32 1=true:=by kernel_rfl
theorem c32_2:scSix 32 2=true:=by kernel_rfl
theorem c32_3:scSix 32 3=true:=by kernel_rfl
theorem c32_4:scSix 32 4=true:=by kernel_rfl
theorem c32_5:scSix 32 5=true:=by kernel_rfl
theorem c33_0:scSix 33 0=true:=by kernel_rfl
theorem c33_1:scSix 33 1=true:=by kernel_rfl
theorem c33_2:scSix 33 2=true:=by kernel_rfl
theorem c33_3:scSix 33 3=true:=by kernel_rfl
theorem c33_4:scSix 33 4=true:=by kernel_rfl
theorem c33_5:scSix 33 5=true:=by kernel_rfl
end Ck
end
