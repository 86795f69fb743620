/- A part of the proof. -/
import Derived.Test.YtoomapkcoibmhaaGreatDoorBd1
set_option maxRecDepth 100000
set_option maxHeartbeats 12800000
set_option linter.all false
section
namespace Ck
theorem bd0:aae 0=true:=by kernel_rfl
theorem bd1:aae 1=true:=by kernel_rfl
theorem bd2:aae 2=true:=by kernel_rfl
theorem bd3:aae 3=true:=by kernel_rfl
theorem bd4:aae 4=true:=by kernel_rfl
theorem bd5:aae 5=true:=by kernel_rfl
theorem bd6:aae 6=true:=by kernel_rfl
theorem bd7:aae 7=true:=by kernel_rfl
theorem bd8:aae 8=true:=by kernel_rfl
theorem bd9:aae 9=true:=by kernel_rfl
theorem agY:aae 10=true:=by kernel_rfl
theorem agZ:aae 11=true:=by kernel_rfl
theorem ag0:aae 12=true:=by kernel_rfl
theorem ag1:aae 13=true:=by kernel_rfl
theorem ag2:aae 14=true:=by kernel_rfl
theorem ag3:aae 15=true:=by kernel_rfl
theorem ag4:aae 16=true:=by kernel_rfl
theorem ag5:aae 17=true:=by kernel_rfl
theorem ag6:aae 18=true:=by kernel_rfl
theorem ag7:aae 19=true:=by kernel_rfl
theorem ag8:aae 20=true:=by kernel_rfl
theorem ag9:aae 21=true:=by kernel_rfl
theorem aha:aae 22=true:=by kernel_rfl
theorem ahb:aae 23=true:=by kernel_rfl
theorem ahc:aae 24=true:=by kernel_rfl
theorem ahe:aae 25=true:=by kernel_rfl
theorem ahf:aae 26=true:=by kernel_rfl
theorem ahg:aae 27=true:=by kernel_rfl
theorem ahh:aae 28=true:=by kernel_rfl
theorem ahi:aae 29=true:=by kernel_rfl
theorem ahj:aae 30=true:=by kernel_rfl
theorem ahk:aae 31=true:=by kernel_rfl
theorem ahl:aae 32=true:=by kernel_rfl
theorem ahm:aae 33=true:=by kernel_rfl
theorem ahn:aae 34=true:=by kernel_rfl
theorem aho:aae 35=true:=by kernel_rfl
theorem ahp:aae 36=true:=by kernel_rfl
theorem ahq:aae 37=true:=by kernel_rfl
end Ck
end
