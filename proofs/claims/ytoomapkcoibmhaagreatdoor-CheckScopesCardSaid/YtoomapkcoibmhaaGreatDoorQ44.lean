/- A part of the proof. -/
import Derived.Test.YtoomapkcoibmhaaGreatDoorQ41
set_option maxRecDepth 100000
set_option maxHeartbeats 12800000
set_option linter.all false
section
namespace Ck
theorem c34_0:scSix 34 0=true:=by kernel_rfl
theorem c34_1:scSix 34 1=true:=by kernel_rfl
theorem c34_2:scSix 34 2=true:=by kernel_rfl
theorem c34_3:scSix 34 3=true:=by kernel_rfl
theorem c34_4:scSix 34 4=true:=by kernel_rfl
theorem c34_5:scSix 34 5=true:=by kernel_rfl
theorem c35_0:scSix 35 0=true:=by kernel_rfl
theorem c35_1:scSix 35 1=true:=by kernel_rfl
theorem c35_2:scSix 35 2=true:=by kernel_rfl
theorem c35_3:scSix 35 3=true:=by kernel_rfl
theorem c35_4:scSix 35 4=true:=by kernel_rfl
theorem c35_5:scSix 35 5=true:=by kernel_rfl
theorem c36_0:scSix 36 0=true:=by kernel_rfl
theorem c36_1:scSix 36 1=true:=by kernel_rfl
theorem c36_2:scSix 36 2=true:=by kernel_rfl
theorem c36_3:scSix 36 3=true:=by kernel_rfl
theorem c36_4:scSix 36 4=true:=by kernel_rfl
theorem c36_5:scSix 36 5=true:=by kernel_rfl
theorem c36_6:scSix 36 6=true:=by kernel_rfl
theorem c37_0:scSix 37 0=true:=by kernel_rfl
theorem c37_1:scSix 37 1=true:=by kernel_rfl
theorem c37_2:scSix 37 2=true:=by kernel_rfl
theorem c37_3:scSix 37 3=true:=by kernel_rfl
theorem c37_4:scSix 37 4=true:=by kernel_rfl
theorem c37_5:scSix 37 5=true:=by kernel_rfl
end Ck
end
