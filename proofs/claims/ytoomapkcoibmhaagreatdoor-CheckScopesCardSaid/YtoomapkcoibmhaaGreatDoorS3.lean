/- A part of the proof. -/
import Derived.Test.YtoomapkcoibmhaaGreatDoorS1
set_option maxRecDepth 100000
set_option maxHeartbeats 12800000
set_option linter.all false
section
namespace Ck
theorem Yy:ay 28 0=true:=by kernel_rfl
theorem Yz:ay 28 1=true:=by kernel_rfl
theorem YA:ay 28 2=true:=by kernel_rfl
theorem YB:ay 28 3=true:=by kernel_rfl
theorem YC:ay 28 4=true:=by kernel_rfl
theorem YD:ay 29 0=true:=by kernel_rfl
theorem YE:ay 29 1=true:=by kernel_rfl
theorem YF:ay 29 2=true:=by kernel_rfl
theorem YG:ay 29 3=true:=by kernel_rfl
theorem YH:ay 29 4=true:=by kernel_rfl
theorem YI:ay 30 0=true:=by kernel_rfl
theorem YJ:ay 30 1=true:=by kernel_rfl
theorem YK:ay 30 2=true:=by kernel_rfl
theorem YL:ay 30 3=true:=by kernel_rfl
theorem YM:ay 30 4=true:=by kernel_rfl
theorem YN:ay 30 5=true:=by kernel_rfl
theorem YO:ay 31 0=true:=by kernel_rfl
theorem YP:ay 31 1=true:=by kernel_rfl
theorem YQ:ay 31 2=true:=by kernel_rfl
theorem YR:ay 31 3=true:=by kernel_rfl
theorem YS:ay 31 4=true:=by kernel_rfl
theorem YT:ay 31 5=true:=by kernel_rfl
theorem YU:ay 32 0=true:=by kernel_rfl
theorem YV:ay 32 1=true:=by kernel_rfl
theorem YW:ay 32 2=true:=by kernel_rfl
theorem YX:ay 32 3=true:=by kernel_rfl
theorem YZ:ay 32 4=true:=by kernel_rfl
theorem Y0:ay 32 5=true:=by kernel_rfl
theorem Y1:ay 33 0=true:=by kernel_rfl
theorem Y2:ay 33 1=true:=by kernel_rfl
theorem Y3:ay 33 2=true:=by kernel_rfl
theorem Y4:ay 33 3=true:=by kernel_rfl
theorem Y5:ay 33 4=true:=by kernel_rfl
theorem Y6:ay 33 5=true:=by kernel_rfl
end Ck
end
