/- A part of the proof. -/
import Derived.Test.YtoomapkcoibmhaaGreatDoorQ41
set_option maxRecDepth 100000
set_option maxHeartbeats 12800000
set_option linter.all false
section
namespace Ck
theorem c0_0:scSix 0 0=true:=by kernel_rfl
theorem c1_0:scSix 1 0=true:=by kernel_rfl
theorem c2_0:scSix 2 0=true:=by kernel_rfl
theorem c3_0:scSix 3 0=true:=by kernel_rfl
theorem c4_0:scSix 4 0=true:=by kernel_rfl
theorem c5_0:scSix 5 0=true:=by kernel_rfl
theorem c6_0:scSix 6 0=true:=by kernel_rfl
theorem c6_1:scSix 6 1=true:=by kernel_rfl
theorem c7_0:scSix 7 0=true:=by kernel_rfl
theorem c7_1:scSix 7 1=true:=by kernel_rfl
theorem c8_0:scSix 8 0=true:=by kernel_rfl
theorem c8_1:scSix 8 1=true:=by kernel_rfl
theorem c9_0:scSix 9 0=true:=by kernel_rfl
theorem c9_1:scSix 9 1=true:=by kernel_rfl
theorem c10_0:scSix 10 0=true:=by kernel_rfl
theorem c10_1:scSix 10 1=true:=by kernel_rfl
theorem c11_0:scSix 11 0=true:=by kernel_rfl
theorem c11_1:scSix 11 1=true:=by kernel_rfl
theorem c12_0:scSix 12 0=true:=by kernel_rfl
theorem c12_1:scSix 12 1=true:=by kernel_rfl
theorem c12_2:scSix 12 2=true:=by kernel_rfl
theorem c13_0:scSix 13 0=true:=by kernel_rfl
theorem c13_1:scSix 13 1=true:=by kernel_rfl
theorem c13_2:scSix 13 2=true:=by kernel_rfl
theorem c14_0:scSix 14 0=true:=by kernel_rfl
theorem c14_1:scSix 14 1=true:=by kernel_rfl
theorem c14_2:scSix 14 2=true:=by kernel_rfl
theorem c15_0:scSix 15 0=true:=by kernel_rfl
theorem c15_1:scSix 15 1=true:=by kernel_rfl
theorem c15_2:scSix 15 2=true:=by kernel_rfl
theorem c16_0:scSix 16 0=true:=by kernel_rfl
theorem c16_1:scSix 16 1=true:=by kernel_rfl
theorem c16_2:scSix 16 2=true:=by kernel_rfl
theorem c17_0:scSix 17 0=true:=by kernel_rfl
theorem c17_1:scSix 17 1=true:=by kernel_rfl
theorem c17_2:scSix 17 2=true:=by kernel_rfl
theorem c18_0:scSix 18 0=true:=by kernel_rfl
theorem c18_1:scSix 18 1=true:=by kernel_rfl
theorem c18_2:scSix 18 2=true:=by kernel_rfl
theorem c18_3:scSix 18 3=true:=by kernel_rfl
theorem c19_0:scSix 19 0=true:=by kernel_rfl
theorem c19_1:scSix 19 1=true:=by kernel_rfl
theorem c19_2:scSix 19 2=true:=by kernel_rfl
theorem c19_3:scSix 19 3=true:=by kernel_rfl
theorem c20_0:scSix 20 0=true:=by kernel_rfl
theorem c20_1:scSix 20 1=true:=by kernel_rfl
theorem c20_2:scSix 20 2=true:=by kernel_rfl
theorem c20_3:scSix 20 3=true:=by kernel_rfl
theorem c21_0:scSix 21 0=true:=by kernel_rfl
theorem c21_1:scSix 21 1=true:=by kernel_rfl
theorem c21_2:scSix 21 2=true:=by kernel_rfl
theorem c21_3:scSix 21 3=true:=by kernel_rfl
theorem c22_0:scSix 22 0=true:=by kernel_rfl
theorem c22_1:scSix 22 1=true:=by kernel_rfl
theorem c22_2:scSix 22 2=true:=by kernel_rfl
theorem c22_3:scSix 22 3=true:=by kernel_rfl
theorem c23_0:scSix 23 0=true:=by kernel_rfl
theorem c23_1:scSix 23 1=true:=by kernel_rfl
theorem c23_2:scSix 23 2=true:=by kernel_rfl
theorem c23_3:scSix 23 3=true:=by kernel_rfl
theorem c24_0:scSix 24 0=true:=by kernel_rfl
theorem c24_1:scSix 24 1=true:=by kernel_rfl
theorem c24_2:scSix 24 2=true:=by kernel_rfl
theorem c24_3:scSix 24 3=true:=by kernel_rfl
theorem c24_4:scSix 24 4=true:=by kernel_rfl
theorem c25_0:scSix 25 0=true:=by kernel_rfl
theorem c25_1:scSix 25 1=true:=by kernel_rfl
theorem c25_2:scSix 25 2=true:=by kernel_rfl
theorem c25_3:scSix 25 3=true:=by kernel_rfl
theorem c25_4:scSix 25 4=true:=by kernel_rfl
theorem c26_0:scSix 26 0=true:=by kernel_rfl
theorem c26_1:scSix 26 1=true:=by kernel_rfl
theorem c26_2:scSix 26 2=true:=by kernel_rfl
theorem c26_3:scSix 26 3=true:=by kernel_rfl
theorem c26_4:scSix 26 4=true:=by kernel_rfl
theorem c27_0:scSix 27 0=true:=by kernel_rfl
theorem c27_1:scSix 27 1=true:=by kernel_rfl
theorem c27_2:scSix 27 2=true:=by kernel_rfl
theorem c27_3:scSix 27 3=true:=by kernel_rfl
theorem c27_4:scSix 27 4=true:=by kernel_rfl
end Ck
end
