/- A part of the proof. -/
import Derived.Test.YtoomapkcoibmhaaGreatDoorBd1
set_option maxRecDepth 100000
set_option maxHeartbeats 12800000
set_option linter.all false
section
namespace Ck
theorem ahr:aae 38=true:=by kernel_rfl
theorem ahs:aae 39=true:=by kernel_rfl
theorem aht:aae 40=true:=by kernel_rfl
theorem ahu:aae 41=true:=by kernel_rfl
theorem ahv:aae 42=true:=by kernel_rfl
theorem ahw:aae 43=true:=by kernel_rfl
theorem ahx:aae 44=true:=by kernel_rfl
theorem ahy:aae 45=true:=by kernel_rfl
theorem ahz:aae 46=true:=by kernel_rfl
theorem ahA:aae 47=true:=by kernel_rfl
theorem ahB:aae 48=true:=by kernel_rfl
theorem ahC:aae 49=true:=by kernel_rfl
theorem ahD:aae 50=true:=by kernel_rfl
theorem ahE:aae 51=true:=by kernel_rfl
end Ck
end
