/- A part of the proof. -/
import Derived.Test.YtoomapkcoibmhaaGreatDoorQ41
set_option maxRecDepth 100000
set_option maxHeartbeats 12800000
set_option linter.all false
section
namespace Ck
theorem c37_6:scSix 37 6=true:=by kernel_rfl
theorem c38_0:scSix 38 0=true:=by kernel_rfl
theorem c38_1:scSix 38 1=true:=by kernel_rfl
theorem c38_2:scSix 38 2=true:=by kernel_rfl
theorem c38_3:scSix 38 3=true:=by kernel_rfl
theorem c38_4:scSix 38 4=true:=by kernel_rfl
theorem c38_5:scSix 38 5=true:=by kernel_rfl
theorem c38_6:scSix 38 6=true:=by kernel_rfl
theorem c39_0:scSix 39 0=true:=by kernel_rfl
theorem c39_1:scSix 39 1=true:=by kernel_rfl
theorem c39_2:scSix 39 2=true:=by kernel_rfl
theorem c39_3:scSix 39 3=true:=by kernel_rfl
theorem c39_4:scSix 39 4=true:=by kernel_rfl
theorem c39_5:scSix 39 5=true:=by kernel_rfl
theorem c39_6:scSix 39 6=true:=by kernel_rfl
theorem c40_0:scSix 40 0=true:=by kernel_rfl
theorem c40_1:scSix 40 1=true:=by kernel_rfl
theorem c40_2:scSix 40 2=true:=by kernel_rfl
theorem c40_3:scSix 40 3=true:=by kernel_rfl
theorem c40_4:scSix 40 4=true:=by kernel_rfl
theorem c40_5:scSix 40 5=true:=by kernel_rfl
theorem c40_6:scSix 40 6=true:=by kernel_rfl
end Ck
end
