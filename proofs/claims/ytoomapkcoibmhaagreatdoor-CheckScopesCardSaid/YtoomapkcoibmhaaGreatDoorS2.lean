/- A part of the proof. -/
import Derived.Test.YtoomapkcoibmhaaGreatDoorS1
set_option maxRecDepth 100000
set_option maxHeartbeats 12800000
set_option linter.all false
section
namespace Ck
theorem acs:ay 0 0=true:=by kernel_rfl
theorem acu:ay 1 0=true:=by kernel_rfl
theorem acv:ay 2 0=true:=by kernel_rfl
theorem acw:ay 3 0=true:=by kernel_rfl
theorem acy:ay 4 0=true:=by kernel_rfl
theorem acz:ay 5 0=true:=by kernel_rfl
theorem acA:ay 6 0=true:=by kernel_rfl
theorem acB:ay 6 1=true:=by kernel_rfl
theorem acC:ay 7 0=true:=by kernel_rfl
theorem acD:ay 7 1=true:=by kernel_rfl
theorem acE:ay 8 0=true:=by kernel_rfl
theorem acF:ay 8 1=true:=by kernel_rfl
theorem acG:ay 9 0=true:=by kernel_rfl
theorem acH:ay 9 1=true:=by kernel_rfl
theorem Xn:ay 10 0=true:=by kernel_rfl
theorem Xo:ay 10 1=true:=by kernel_rfl
theorem Xp:ay 11 0=true:=by kernel_rfl
theorem Xq:ay 11 1=true:=by kernel_rfl
theorem Xr:ay 12 0=true:=by kernel_rfl
theorem Xt:ay 12 1=true:=by kernel_rfl
theorem Xu:ay 12 2=true:=by kernel_rfl
theorem Xv:ay 13 0=true:=by kernel_rfl
theorem Xw:ay 13 1=true:=by kernel_rfl
theorem Xx:ay 13 2=true:=by kernel_rfl
theorem Xy:ay 14 0=true:=by kernel_rfl
theorem Xz:ay 14 1=true:=by kernel_rfl
theorem XA:ay 14 2=true:=by kernel_rfl
theorem XB:ay 15 0=true:=by kernel_rfl
theorem XC:ay 15 1=true:=by kernel_rfl
theorem XD:ay 15 2=true:=by kernel_rfl
theorem XE:ay 16 0=true:=by kernel_rfl
theorem XF:ay 16 1=true:=by kernel_rfl
theorem XG:ay 16 2=true:=by kernel_rfl
theorem XH:ay 17 0=true:=by kernel_rfl
theorem XI:ay 17 1=true:=by kernel_rfl
theorem XJ:ay 17 2=true:=by kernel_rfl
theorem XK:ay 18 0=true:=by kernel_rfl
theorem XL:ay 18 1=true:=by kernel_rfl
theorem XM:ay 18 2=true:=by kernel_rfl
theorem XO:ay 18 3=true:=by kernel_rfl
theorem XP:ay 19 0=true:=by kernel_rfl
theorem XQ:ay 19 1=true:=by kernel_rfl
theorem XR:ay 19 2=true:=by kernel_rfl
theorem XT:ay 19 3=true:=by kernel_rfl
theorem XU:ay 20 0=true:=by kernel_rfl
theorem XV:ay 20 1=true:=by kernel_rfl
theorem XW:ay 20 2=true:=by kernel_rfl
theorem XY:ay 20 3=true:=by kernel_rfl
theorem XZ:ay 21 0=true:=by kernel_rfl
theorem X0:ay 21 1=true:=by kernel_rfl
theorem X3:ay 21 2=true:=by kernel_rfl
theorem X4:ay 21 3=true:=by kernel_rfl
theorem X5:ay 22 0=true:=by kernel_rfl
theorem X6:ay 22 1=true:=by kernel_rfl
theorem X7:ay 22 2=true:=by kernel_rfl
theorem X8:ay 22 3=true:=by kernel_rfl
theorem X9:ay 23 0=true:=by kernel_rfl
theorem Ya:ay 23 1=true:=by kernel_rfl
theorem Yb:ay 23 2=true:=by kernel_rfl
theorem Yc:ay 23 3=true:=by kernel_rfl
theorem Yd:ay 24 0=true:=by kernel_rfl
theorem Ye:ay 24 1=true:=by kernel_rfl
theorem Yf:ay 24 2=true:=by kernel_rfl
theorem Yg:ay 24 3=true:=by kernel_rfl
theorem Yh:ay 24 4=true:=by kernel_rfl
theorem Yi:ay 25 0=true:=by kernel_rfl
theorem Yj:ay 25 1=true:=by kernel_rfl
theorem Yk:ay 25 2=true:=by kernel_rfl
theorem Yl:ay 25 3=true:=by kernel_rfl
theorem Ym:ay 25 4=true:=by kernel_rfl
theorem Yn:ay 26 0=true:=by kernel_rfl
theorem Yo:ay 26 1=true:=by kernel_rfl
theorem Yp:ay 26 2=true:=by kernel_rfl
theorem Yq:ay 26 3=true:=by kernel_rfl
theorem Yr:ay 26 4=true:=by kernel_rfl
theorem Yt:ay 27 0=true:=by kernel_rfl
theorem Yu:ay 27 1=true:=by kernel_rfl
theorem Yv:ay 27 2=true:=by kernel_rfl
theorem Yw:ay 27 3=true:=by kernel_rfl
theorem Yx:ay 27 4=true:=by kernel_rfl
end Ck
end
