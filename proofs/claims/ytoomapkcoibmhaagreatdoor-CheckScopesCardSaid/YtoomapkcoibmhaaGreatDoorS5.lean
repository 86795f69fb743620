/- A part of the proof. -/
import Derived.Test.YtoomapkcoibmhaaGreatDoorS1
set_option maxRecDepth 100000
set_option maxHeartbeats 12800000
set_option linter.all false
section
namespace Ck
theorem Zx:ay 37 6=true:=by kernel_rfl
theorem Zy:ay 38 0=true:=by kernel_rfl
theorem Zz:ay 38 1=true:=by kernel_rfl
theorem ZA:ay 38 2=true:=by kernel_rfl
theorem ZB:ay 38 3=true:=by kernel_rfl
theorem ZC:ay 38 4=true:=by kernel_rfl
theorem ZE:ay 38 5=true:=by kernel_rfl
theorem ZF:ay 38 6=true:=by kernel_rfl
theorem ZG:ay 39 0=true:=by kernel_rfl
theorem ZH:ay 39 1=true:=by kernel_rfl
theorem ZI:ay 39 2=true:=by kernel_rfl
theorem ZJ:ay 39 3=true:=by kernel_rfl
theorem ZK:ay 39 4=true:=by kernel_rfl
theorem ZL:ay 39 5=true:=by kernel_rfl
theorem ZM:ay 39 6=true:=by kernel_rfl
theorem ZN:ay 40 0=true:=by kernel_rfl
theorem ZO:ay 40 1=true:=by kernel_rfl
theorem ZP:ay 40 2=true:=by kernel_rfl
theorem ZQ:ay 40 3=true:=by kernel_rfl
theorem ZR:ay 40 4=true:=by kernel_rfl
theorem ZT:ay 40 5=true:=by kernel_rfl
theorem ZU:ay 40 6=true:=by kernel_rfl
end Ck
end
