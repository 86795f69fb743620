/- A part of the proof. -/
import Derived.Test.YtoomapkcoibmhaaGreatDoorBd1
set_option maxRecDepth 100000
set_option maxHeartbeats 12800000
set_option linter.all false
section
namespace Ck
theorem ahQ:aae 63=true:=by kernel_rfl
theorem ahR:aae 64=true:=by kernel_rfl
theorem ahS:aae 65=true:=by kernel_rfl
theorem ahT:aae 66=true:=by kernel_rfl
theorem ahU:aae 67=true:=by kernel_rfl
theorem ahV:aae 68=true:=by kernel_rfl
theorem ahW:aae 69=true:=by kernel_rfl
theorem ahX:aae 70=true:=by kernel_rfl
end Ck
end
