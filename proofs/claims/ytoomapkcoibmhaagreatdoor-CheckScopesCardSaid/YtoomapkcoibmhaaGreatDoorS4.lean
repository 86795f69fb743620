/- A part of the proof. -/
import Derived.Test.YtoomapkcoibmhaaGreatDoorS1
set_option maxRecDepth 100000
set_option maxHeartbeats 12800000
set_option linter.all false
section
namespace Ck
theorem Y7:ay 34 0=true:=by kernel_rfl
theorem Y8:ay 34 1=true:=by kernel_rfl
theorem Y9:ay 34 2=true:=by kernel_rfl
theorem Za:ay 34 3=true:=by kernel_rfl
theorem Zb:ay 34 4=true:=by kernel_rfl
theorem Zc:ay 34 5=true:=by kernel_rfl
theorem Zd:ay 35 0=true:=by kernel_rfl
theorem Ze:ay 35 1=true:=by kernel_rfl
theorem Zf:ay 35 2=true:=by kernel_rfl
theorem Zg:ay 35 3=true:=by kernel_rfl
theorem Zh:ay 35 4=true:=by kernel_rfl
theorem Zi:ay 35 5=true:=by kernel_rfl
theorem Zj:ay 36 0=true:=by kernel_rfl
theorem Zk:ay 36 1=true:=by kernel_rfl
theorem Zl:ay 36 2=true:=by kernel_rfl
theorem Zm:ay 36 3=true:=by kernel_rfl
theorem Zn:ay 36 4=true:=by kernel_rfl
theorem Zo:ay 36 5=true:=by kernel_rfl
theorem Zp:ay 36 6=true:=by kernel_rfl
theorem Zq:ay 37 0=true:=by kernel_rfl
theorem Zr:ay 37 1=true:=by kernel_rfl
theorem Zt:ay 37 2=true:=by kernel_rfl
theorem Zu:ay 37 3=true:=by kernel_rfl
theorem Zv:ay 37 4=true:=by kernel_rfl
theorem Zw:ay 37 5=true:=by kernel_rfl
end Ck
end
