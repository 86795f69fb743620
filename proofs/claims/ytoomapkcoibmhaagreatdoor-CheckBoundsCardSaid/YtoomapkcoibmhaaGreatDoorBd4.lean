/- A part of the proof. -/
import Derived.Test.YtoomapkcoibmhaaGreatDoorBd1
set_option maxRecDepth 100000
set_option maxHeartbeats 12800000
set_option linter.all false
section
namespace Ck
theorem ahF:aae 52=true:=by kernel_rfl
theorem ahG:aae 53=true:=by kernel_rfl
theorem ahH:aae 54=true:=by kernel_rfl
theorem ahI:aae 55=true:=by kernel_rfl
theorem ahJ:aae 56=true:=by kernel_rfl
theorem ahK:aae 57=true:=by kernel_rfl
theorem ahL:aae 58=true:=by kernel_rfl
theorem ahM:aae 59=true:=by kernel_rfl
theorem ahN:aae 60=true:=by kernel_rfl
theorem ahO:aae 61=true:=by kernel_rfl
theorem ahP:aae 62=true:=by kernel_rfl
end Ck
end
