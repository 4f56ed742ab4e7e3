import Derived.Test.YtjflgemfeofciaaGreatDoorMX1
import Derived.Test.YtjflgemfeofciaaGreatDoorProg
import Derived.KernelRfl
/- Facts on this program's types. -/
namespace Go.Proofs.YtjflgemfeofciaaGreatDoor
open Go.Ev
set_option maxRecDepth 10000
theorem a_1 : aggO Tryz.prog 1 = some false := by kernel_rfl
theorem s_1 : szO Tryz.prog 1 = some 1 := by kernel_rfl
theorem z_1 : zcO Tryz.prog 1 = some [V.nf] := by kernel_rfl
theorem el_1 : elO Tryz.prog 1 = some (1, 8, [V.nf]) := by kernel_rfl
theorem a_2 : aggO Tryz.prog 2 = some false := by kernel_rfl
theorem s_2 : szO Tryz.prog 2 = some 1 := by kernel_rfl
theorem z_2 : zcO Tryz.prog 2 = some [V.i .i64 0] := by kernel_rfl
theorem el_2 : elO Tryz.prog 2 = some (1, 8, [V.i .i64 0]) := by kernel_rfl
theorem a_3 : aggO Tryz.prog 3 = some false := by kernel_rfl
theorem s_3 : szO Tryz.prog 3 = some 1 := by kernel_rfl
theorem z_3 : zcO Tryz.prog 3 = some [V.i .i64 0] := by kernel_rfl
theorem el_3 : elO Tryz.prog 3 = some (1, 8, [V.i .i64 0]) := by kernel_rfl
theorem a_4 : aggO Tryz.prog 4 = some false := by kernel_rfl
theorem s_4 : szO Tryz.prog 4 = some 1 := by kernel_rfl
theorem z_4 : zcO Tryz.prog 4 = some [V.b false] := by kernel_rfl
theorem el_4 : elO Tryz.prog 4 = some (1, 1, [V.b false]) := by kernel_rfl
theorem a_5 : aggO Tryz.prog 5 = some false := by kernel_rfl
theorem s_5 : szO Tryz.prog 5 = some 1 := by kernel_rfl
theorem z_5 : zcO Tryz.prog 5 = some [V.i .u8 0] := by kernel_rfl
theorem el_5 : elO Tryz.prog 5 = some (1, 1, [V.i .u8 0]) := by kernel_rfl
theorem a_6 : aggO Tryz.prog 6 = some false := by kernel_rfl
theorem s_6 : szO Tryz.prog 6 = some 1 := by kernel_rfl
theorem z_6 : zcO Tryz.prog 6 = some [V.i .u8 0] := by kernel_rfl
theorem el_6 : elO Tryz.prog 6 = some (1, 1, [V.i .u8 0]) := by kernel_rfl
theorem a_7 : aggO Tryz.prog 7 = some true := by kernel_rfl
theorem s_7 : szO Tryz.prog 7 = some 4 := by kernel_rfl
theorem z_7 : zcO Tryz.prog 7 = some [V.i .i64 0, V.i .i64 0, V.b false, V.i .u8 0] := by kernel_rfl
theorem el_7 : elO Tryz.prog 7 = some (4, 24, [V.i .i64 0, V.i .i64 0, V.b false, V.i .u8 0]) := by kernel_rfl
theorem f_7_0 : faO Tryz.prog 7 0 = some 0 := by kernel_rfl
theorem f_7_1 : faO Tryz.prog 7 1 = some 1 := by kernel_rfl
theorem f_7_2 : faO Tryz.prog 7 2 = some 2 := by kernel_rfl
theorem f_7_3 : faO Tryz.prog 7 3 = some 3 := by kernel_rfl
theorem b_7 : bldO Tryz.prog 7 = some ([V.i .i64 0, V.i .i64 0, V.b false, V.i .u8 0], [(0, 1), (1, 1), (2, 1), (3, 1)]) := by kernel_rfl
theorem a_8 : aggO Tryz.prog 8 = some true := by kernel_rfl
theorem s_8 : szO Tryz.prog 8 = some 4 := by kernel_rfl
theorem z_8 : zcO Tryz.prog 8 = some [V.i .i64 0, V.i .i64 0, V.b false, V.i .u8 0] := by kernel_rfl
theorem el_8 : elO Tryz.prog 8 = some (4, 24, [V.i .i64 0, V.i .i64 0, V.b false, V.i .u8 0]) := by kernel_rfl
theorem f_8_0 : faO Tryz.prog 8 0 = some 0 := by kernel_rfl
theorem f_8_1 : faO Tryz.prog 8 1 = some 1 := by kernel_rfl
theorem f_8_2 : faO Tryz.prog 8 2 = some 2 := by kernel_rfl
theorem f_8_3 : faO Tryz.prog 8 3 = some 3 := by kernel_rfl
theorem b_8 : bldO Tryz.prog 8 = some ([V.i .i64 0, V.i .i64 0, V.b false, V.i .u8 0], [(0, 1), (1, 1), (2, 1), (3, 1)]) := by kernel_rfl
theorem a_9 : aggO Tryz.prog 9 = some false := by kernel_rfl
theorem s_9 : szO Tryz.prog 9 = some 1 := by kernel_rfl
theorem z_9 : zcO Tryz.prog 9 = some [V.s []] := by kernel_rfl
theorem el_9 : elO Tryz.prog 9 = some (1, 16, [V.s []]) := by kernel_rfl
theorem str_9 : strO Tryz.prog 9 = true := by kernel_rfl
theorem a_10 : aggO Tryz.prog 10 = some false := by kernel_rfl
theorem s_10 : szO Tryz.prog 10 = some 1 := by kernel_rfl
theorem z_10 : zcO Tryz.prog 10 = some [V.s []] := by kernel_rfl
theorem el_10 : elO Tryz.prog 10 = some (1, 16, [V.s []]) := by kernel_rfl
theorem str_10 : strO Tryz.prog 10 = true := by kernel_rfl
theorem a_11 : aggO Tryz.prog 11 = some false := by kernel_rfl
theorem s_11 : szO Tryz.prog 11 = some 1 := by kernel_rfl
theorem z_11 : zcO Tryz.prog 11 = some [V.s []] := by kernel_rfl
theorem el_11 : elO Tryz.prog 11 = some (1, 16, [V.s []]) := by kernel_rfl
theorem str_11 : strO Tryz.prog 11 = true := by kernel_rfl
theorem a_12 : aggO Tryz.prog 12 = some false := by kernel_rfl
theorem s_12 : szO Tryz.prog 12 = some 1 := by kernel_rfl
theorem z_12 : zcO Tryz.prog 12 = some [V.i .u64 0] := by kernel_rfl
theorem el_12 : elO Tryz.prog 12 = some (1, 8, [V.i .u64 0]) := by kernel_rfl
theorem a_13 : aggO Tryz.prog 13 = some true := by kernel_rfl
theorem s_13 : szO Tryz.prog 13 = some 2 := by kernel_rfl
theorem z_13 : zcO Tryz.prog 13 = some [V.s [], V.i .u64 0] := by kernel_rfl
theorem el_13 : elO Tryz.prog 13 = some (2, 24, [V.s [], V.i .u64 0]) := by kernel_rfl
theorem f_13_0 : faO Tryz.prog 13 0 = some 0 := by kernel_rfl
theorem f_13_1 : faO Tryz.prog 13 1 = some 1 := by kernel_rfl
theorem b_13 : bldO Tryz.prog 13 = some ([V.s [], V.i .u64 0], [(0, 1), (1, 1)]) := by kernel_rfl
theorem a_14 : aggO Tryz.prog 14 = some true := by kernel_rfl
theorem s_14 : szO Tryz.prog 14 = some 2 := by kernel_rfl
theorem z_14 : zcO Tryz.prog 14 = some [V.s [], V.i .u64 0] := by kernel_rfl
theorem el_14 : elO Tryz.prog 14 = some (2, 24, [V.s [], V.i .u64 0]) := by kernel_rfl
theorem f_14_0 : faO Tryz.prog 14 0 = some 0 := by kernel_rfl
theorem f_14_1 : faO Tryz.prog 14 1 = some 1 := by kernel_rfl
theorem b_14 : bldO Tryz.prog 14 = some ([V.s [], V.i .u64 0], [(0, 1), (1, 1)]) := by kernel_rfl
theorem a_15 : aggO Tryz.prog 15 = some false := by kernel_rfl
theorem s_15 : szO Tryz.prog 15 = some 1 := by kernel_rfl
theorem z_15 : zcO Tryz.prog 15 = some [V.p0] := by kernel_rfl
theorem el_15 : elO Tryz.prog 15 = some (1, 8, [V.p0]) := by kernel_rfl
theorem a_16 : aggO Tryz.prog 16 = some false := by kernel_rfl
theorem s_16 : szO Tryz.prog 16 = some 1 := by kernel_rfl
theorem z_16 : zcO Tryz.prog 16 = some [V.p0] := by kernel_rfl
theorem el_16 : elO Tryz.prog 16 = some (1, 8, [V.p0]) := by kernel_rfl
theorem a_17 : aggO Tryz.prog 17 = some false := by kernel_rfl
theorem s_17 : szO Tryz.prog 17 = some 1 := by kernel_rfl
theorem z_17 : zcO Tryz.prog 17 = some [V.p0] := by kernel_rfl
theorem el_17 : elO Tryz.prog 17 = some (1, 8, [V.p0]) := by kernel_rfl
theorem a_18 : aggO Tryz.prog 18 = some true := by kernel_rfl
theorem s_18 : szO Tryz.prog 18 = some 1 := by kernel_rfl
theorem z_18 : zcO Tryz.prog 18 = some [V.p0] := by kernel_rfl
theorem el_18 : elO Tryz.prog 18 = some (1, 8, [V.p0]) := by kernel_rfl
theorem f_18_0 : faO Tryz.prog 18 0 = some 0 := by kernel_rfl
theorem b_18 : bldO Tryz.prog 18 = some ([V.p0], [(0, 1)]) := by kernel_rfl
theorem a_19 : aggO Tryz.prog 19 = some true := by kernel_rfl
theorem s_19 : szO Tryz.prog 19 = some 1 := by kernel_rfl
theorem z_19 : zcO Tryz.prog 19 = some [V.p0] := by kernel_rfl
theorem el_19 : elO Tryz.prog 19 = some (1, 8, [V.p0]) := by kernel_rfl
theorem f_19_0 : faO Tryz.prog 19 0 = some 0 := by kernel_rfl
theorem b_19 : bldO Tryz.prog 19 = some ([V.p0], [(0, 1)]) := by kernel_rfl
theorem a_20 : aggO Tryz.prog 20 = some false := by kernel_rfl
theorem s_20 : szO Tryz.prog 20 = some 1 := by kernel_rfl
theorem z_20 : zcO Tryz.prog 20 = some [V.ni] := by kernel_rfl
theorem el_20 : elO Tryz.prog 20 = some (1, 16, [V.ni]) := by kernel_rfl
theorem a_21 : aggO Tryz.prog 21 = some false := by kernel_rfl
theorem s_21 : szO Tryz.prog 21 = some 1 := by kernel_rfl
theorem z_21 : zcO Tryz.prog 21 = some [V.i .i32 0] := by kernel_rfl
theorem el_21 : elO Tryz.prog 21 = some (1, 4, [V.i .i32 0]) := by kernel_rfl
theorem a_22 : aggO Tryz.prog 22 = some false := by kernel_rfl
theorem s_22 : szO Tryz.prog 22 = some 1 := by kernel_rfl
theorem z_22 : zcO Tryz.prog 22 = some [V.sn] := by kernel_rfl
theorem el_22 : elO Tryz.prog 22 = some (1, 24, [V.sn]) := by kernel_rfl
theorem sl_22 : slO Tryz.prog 22 = some 97 := by kernel_rfl
theorem e_22 : seO Tryz.prog 22 = some 12 := by kernel_rfl
theorem a_23 : aggO Tryz.prog 23 = some true := by kernel_rfl
theorem s_23 : szO Tryz.prog 23 = some 2 := by kernel_rfl
theorem z_23 : zcO Tryz.prog 23 = some [V.s [], V.sn] := by kernel_rfl
theorem el_23 : elO Tryz.prog 23 = some (2, 40, [V.s [], V.sn]) := by kernel_rfl
theorem f_23_0 : faO Tryz.prog 23 0 = some 0 := by kernel_rfl
theorem f_23_1 : faO Tryz.prog 23 1 = some 1 := by kernel_rfl
theorem b_23 : bldO Tryz.prog 23 = some ([V.s [], V.sn], [(0, 1), (1, 1)]) := by kernel_rfl
theorem a_24 : aggO Tryz.prog 24 = some true := by kernel_rfl
theorem s_24 : szO Tryz.prog 24 = some 2 := by kernel_rfl
theorem z_24 : zcO Tryz.prog 24 = some [V.s [], V.sn] := by kernel_rfl
theorem el_24 : elO Tryz.prog 24 = some (2, 40, [V.s [], V.sn]) := by kernel_rfl
theorem f_24_0 : faO Tryz.prog 24 0 = some 0 := by kernel_rfl
theorem f_24_1 : faO Tryz.prog 24 1 = some 1 := by kernel_rfl
theorem b_24 : bldO Tryz.prog 24 = some ([V.s [], V.sn], [(0, 1), (1, 1)]) := by kernel_rfl
theorem a_25 : aggO Tryz.prog 25 = some false := by kernel_rfl
theorem s_25 : szO Tryz.prog 25 = some 1 := by kernel_rfl
theorem z_25 : zcO Tryz.prog 25 = some [V.sn] := by kernel_rfl
theorem el_25 : elO Tryz.prog 25 = some (1, 24, [V.sn]) := by kernel_rfl
theorem sl_25 : slO Tryz.prog 25 = some 29 := by kernel_rfl
theorem e_25 : seO Tryz.prog 25 = some 6 := by kernel_rfl
theorem a_26 : aggO Tryz.prog 26 = some true := by kernel_rfl
theorem s_26 : szO Tryz.prog 26 = some 2 := by kernel_rfl
theorem z_26 : zcO Tryz.prog 26 = some [V.i .i64 0, V.i .i64 0] := by kernel_rfl
theorem el_26 : elO Tryz.prog 26 = some (2, 16, [V.i .i64 0, V.i .i64 0]) := by kernel_rfl
theorem f_26_0 : faO Tryz.prog 26 0 = some 0 := by kernel_rfl
theorem f_26_1 : faO Tryz.prog 26 1 = some 1 := by kernel_rfl
theorem b_26 : bldO Tryz.prog 26 = some ([V.i .i64 0, V.i .i64 0], [(0, 1), (1, 1)]) := by kernel_rfl
theorem a_27 : aggO Tryz.prog 27 = some true := by kernel_rfl
theorem s_27 : szO Tryz.prog 27 = some 2 := by kernel_rfl
theorem z_27 : zcO Tryz.prog 27 = some [V.i .i64 0, V.i .i64 0] := by kernel_rfl
theorem el_27 : elO Tryz.prog 27 = some (2, 16, [V.i .i64 0, V.i .i64 0]) := by kernel_rfl
theorem f_27_0 : faO Tryz.prog 27 0 = some 0 := by kernel_rfl
theorem f_27_1 : faO Tryz.prog 27 1 = some 1 := by kernel_rfl
theorem b_27 : bldO Tryz.prog 27 = some ([V.i .i64 0, V.i .i64 0], [(0, 1), (1, 1)]) := by kernel_rfl
theorem a_28 : aggO Tryz.prog 28 = some true := by kernel_rfl
theorem s_28 : szO Tryz.prog 28 = some 6 := by kernel_rfl
theorem z_28 : zcO Tryz.prog 28 = some [V.i .i64 0, V.i .i64 0, V.i .i64 0, V.i .i64 0, V.i .i64 0, V.i .i64 0] := by kernel_rfl
theorem el_28 : elO Tryz.prog 28 = some (6, 48, [V.i .i64 0, V.i .i64 0, V.i .i64 0, V.i .i64 0, V.i .i64 0, V.i .i64 0]) := by kernel_rfl
theorem f_28_0 : faO Tryz.prog 28 0 = some 0 := by kernel_rfl
theorem f_28_1 : faO Tryz.prog 28 1 = some 1 := by kernel_rfl
theorem f_28_2 : faO Tryz.prog 28 2 = some 2 := by kernel_rfl
theorem f_28_3 : faO Tryz.prog 28 3 = some 3 := by kernel_rfl
theorem f_28_4 : faO Tryz.prog 28 4 = some 4 := by kernel_rfl
theorem b_28 : bldO Tryz.prog 28 = some ([V.i .i64 0, V.i .i64 0, V.i .i64 0, V.i .i64 0, V.i .i64 0, V.i .i64 0], [(0, 1), (1, 1), (2, 1), (3, 1), (4, 2)]) := by kernel_rfl
theorem a_29 : aggO Tryz.prog 29 = some true := by kernel_rfl
theorem s_29 : szO Tryz.prog 29 = some 6 := by kernel_rfl
theorem z_29 : zcO Tryz.prog 29 = some [V.i .i64 0, V.i .i64 0, V.i .i64 0, V.i .i64 0, V.i .i64 0, V.i .i64 0] := by kernel_rfl
theorem el_29 : elO Tryz.prog 29 = some (6, 48, [V.i .i64 0, V.i .i64 0, V.i .i64 0, V.i .i64 0, V.i .i64 0, V.i .i64 0]) := by kernel_rfl
theorem f_29_0 : faO Tryz.prog 29 0 = some 0 := by kernel_rfl
theorem f_29_1 : faO Tryz.prog 29 1 = some 1 := by kernel_rfl
theorem f_29_2 : faO Tryz.prog 29 2 = some 2 := by kernel_rfl
theorem f_29_3 : faO Tryz.prog 29 3 = some 3 := by kernel_rfl
theorem f_29_4 : faO Tryz.prog 29 4 = some 4 := by kernel_rfl
theorem b_29 : bldO Tryz.prog 29 = some ([V.i .i64 0, V.i .i64 0, V.i .i64 0, V.i .i64 0, V.i .i64 0, V.i .i64 0], [(0, 1), (1, 1), (2, 1), (3, 1), (4, 2)]) := by kernel_rfl
theorem a_30 : aggO Tryz.prog 30 = some false := by kernel_rfl
theorem s_30 : szO Tryz.prog 30 = some 1 := by kernel_rfl
theorem z_30 : zcO Tryz.prog 30 = some [V.i .i64 0] := by kernel_rfl
theorem el_30 : elO Tryz.prog 30 = some (1, 8, [V.i .i64 0]) := by kernel_rfl
theorem a_31 : aggO Tryz.prog 31 = some false := by kernel_rfl
theorem s_31 : szO Tryz.prog 31 = some 1 := by kernel_rfl
theorem z_31 : zcO Tryz.prog 31 = some [V.nf] := by kernel_rfl
theorem el_31 : elO Tryz.prog 31 = some (1, 8, [V.nf]) := by kernel_rfl
theorem a_32 : aggO Tryz.prog 32 = some false := by kernel_rfl
theorem s_32 : szO Tryz.prog 32 = some 1 := by kernel_rfl
theorem z_32 : zcO Tryz.prog 32 = some [V.nf] := by kernel_rfl
theorem el_32 : elO Tryz.prog 32 = some (1, 8, [V.nf]) := by kernel_rfl
theorem a_33 : aggO Tryz.prog 33 = some false := by kernel_rfl
theorem s_33 : szO Tryz.prog 33 = some 1 := by kernel_rfl
theorem z_33 : zcO Tryz.prog 33 = some [V.nf] := by kernel_rfl
theorem el_33 : elO Tryz.prog 33 = some (1, 8, [V.nf]) := by kernel_rfl
theorem a_34 : aggO Tryz.prog 34 = some false := by kernel_rfl
theorem s_34 : szO Tryz.prog 34 = some 1 := by kernel_rfl
theorem z_34 : zcO Tryz.prog 34 = some [V.nf] := by kernel_rfl
theorem el_34 : elO Tryz.prog 34 = some (1, 8, [V.nf]) := by kernel_rfl
theorem a_35 : aggO Tryz.prog 35 = some false := by kernel_rfl
theorem s_35 : szO Tryz.prog 35 = some 1 := by kernel_rfl
theorem z_35 : zcO Tryz.prog 35 = some [V.nf] := by kernel_rfl
theorem el_35 : elO Tryz.prog 35 = some (1, 8, [V.nf]) := by kernel_rfl
theorem a_36 : aggO Tryz.prog 36 = some true := by kernel_rfl
theorem s_36 : szO Tryz.prog 36 = some 3 := by kernel_rfl
theorem z_36 : zcO Tryz.prog 36 = some [V.i .i64 0, V.i .i64 0, V.sn] := by kernel_rfl
theorem el_36 : elO Tryz.prog 36 = some (3, 40, [V.i .i64 0, V.i .i64 0, V.sn]) := by kernel_rfl
theorem f_36_0 : faO Tryz.prog 36 0 = some 0 := by kernel_rfl
theorem f_36_1 : faO Tryz.prog 36 1 = some 1 := by kernel_rfl
theorem f_36_2 : faO Tryz.prog 36 2 = some 2 := by kernel_rfl
theorem b_36 : bldO Tryz.prog 36 = some ([V.i .i64 0, V.i .i64 0, V.sn], [(0, 1), (1, 1), (2, 1)]) := by kernel_rfl
theorem a_37 : aggO Tryz.prog 37 = some true := by kernel_rfl
theorem s_37 : szO Tryz.prog 37 = some 3 := by kernel_rfl
theorem z_37 : zcO Tryz.prog 37 = some [V.i .i64 0, V.i .i64 0, V.sn] := by kernel_rfl
theorem el_37 : elO Tryz.prog 37 = some (3, 40, [V.i .i64 0, V.i .i64 0, V.sn]) := by kernel_rfl
theorem f_37_0 : faO Tryz.prog 37 0 = some 0 := by kernel_rfl
theorem f_37_1 : faO Tryz.prog 37 1 = some 1 := by kernel_rfl
theorem f_37_2 : faO Tryz.prog 37 2 = some 2 := by kernel_rfl
theorem b_37 : bldO Tryz.prog 37 = some ([V.i .i64 0, V.i .i64 0, V.sn], [(0, 1), (1, 1), (2, 1)]) := by kernel_rfl
theorem a_38 : aggO Tryz.prog 38 = some true := by kernel_rfl
theorem s_38 : szO Tryz.prog 38 = some 5 := by kernel_rfl
theorem z_38 : zcO Tryz.prog 38 = some [V.i .i64 0, V.i .i64 0, V.i .i64 0, V.i .i64 0, V.i .i64 0] := by kernel_rfl
theorem el_38 : elO Tryz.prog 38 = some (5, 40, [V.i .i64 0, V.i .i64 0, V.i .i64 0, V.i .i64 0, V.i .i64 0]) := by kernel_rfl
theorem ar_38 : arO Tryz.prog 38 = some (5, 3) := by kernel_rfl
theorem ae_38 : aeO Tryz.prog 38 = some (5, 1) := by kernel_rfl
theorem b_38 : bldO Tryz.prog 38 = some ([V.i .i64 0, V.i .i64 0, V.i .i64 0, V.i .i64 0, V.i .i64 0], [(0, 1), (1, 1), (2, 1), (3, 1), (4, 1)]) := by kernel_rfl
theorem a_39 : aggO Tryz.prog 39 = some true := by kernel_rfl
theorem s_39 : szO Tryz.prog 39 = some 6 := by kernel_rfl
theorem z_39 : zcO Tryz.prog 39 = some [V.i .i64 0, V.i .i64 0, V.i .i64 0, V.i .i64 0, V.i .i64 0, V.i .i64 0] := by kernel_rfl
theorem el_39 : elO Tryz.prog 39 = some (6, 48, [V.i .i64 0, V.i .i64 0, V.i .i64 0, V.i .i64 0, V.i .i64 0, V.i .i64 0]) := by kernel_rfl
theorem f_39_0 : faO Tryz.prog 39 0 = some 0 := by kernel_rfl
theorem f_39_1 : faO Tryz.prog 39 1 = some 1 := by kernel_rfl
theorem b_39 : bldO Tryz.prog 39 = some ([V.i .i64 0, V.i .i64 0, V.i .i64 0, V.i .i64 0, V.i .i64 0, V.i .i64 0], [(0, 1), (1, 5)]) := by kernel_rfl
theorem a_40 : aggO Tryz.prog 40 = some true := by kernel_rfl
theorem s_40 : szO Tryz.prog 40 = some 6 := by kernel_rfl
theorem z_40 : zcO Tryz.prog 40 = some [V.i .i64 0, V.i .i64 0, V.i .i64 0, V.i .i64 0, V.i .i64 0, V.i .i64 0] := by kernel_rfl
theorem el_40 : elO Tryz.prog 40 = some (6, 48, [V.i .i64 0, V.i .i64 0, V.i .i64 0, V.i .i64 0, V.i .i64 0, V.i .i64 0]) := by kernel_rfl
theorem f_40_0 : faO Tryz.prog 40 0 = some 0 := by kernel_rfl
theorem f_40_1 : faO Tryz.prog 40 1 = some 1 := by kernel_rfl
theorem b_40 : bldO Tryz.prog 40 = some ([V.i .i64 0, V.i .i64 0, V.i .i64 0, V.i .i64 0, V.i .i64 0, V.i .i64 0], [(0, 1), (1, 5)]) := by kernel_rfl
theorem a_41 : aggO Tryz.prog 41 = some true := by kernel_rfl
theorem s_41 : szO Tryz.prog 41 = some 12 := by kernel_rfl
theorem z_41 : zcO Tryz.prog 41 = some [V.i .i64 0, V.i .i64 0, V.i .i64 0, V.i .i64 0, V.i .i64 0, V.i .i64 0, V.i .i64 0, V.i .i64 0, V.i .i64 0, V.i .i64 0, V.i .i64 0, V.i .i64 0] := by kernel_rfl
theorem el_41 : elO Tryz.prog 41 = some (12, 96, [V.i .i64 0, V.i .i64 0, V.i .i64 0, V.i .i64 0, V.i .i64 0, V.i .i64 0, V.i .i64 0, V.i .i64 0, V.i .i64 0, V.i .i64 0, V.i .i64 0, V.i .i64 0]) := by kernel_rfl
theorem ar_41 : arO Tryz.prog 41 = some (2, 40) := by kernel_rfl
theorem ae_41 : aeO Tryz.prog 41 = some (2, 6) := by kernel_rfl
theorem b_41 : bldO Tryz.prog 41 = some ([V.i .i64 0, V.i .i64 0, V.i .i64 0, V.i .i64 0, V.i .i64 0, V.i .i64 0, V.i .i64 0, V.i .i64 0, V.i .i64 0, V.i .i64 0, V.i .i64 0, V.i .i64 0], [(0, 6), (6, 6)]) := by kernel_rfl
theorem a_43 : aggO Tryz.prog 43 = some false := by kernel_rfl
theorem s_43 : szO Tryz.prog 43 = some 1 := by kernel_rfl
theorem z_43 : zcO Tryz.prog 43 = some [V.nf] := by kernel_rfl
theorem el_43 : elO Tryz.prog 43 = some (1, 8, [V.nf]) := by kernel_rfl
theorem a_45 : aggO Tryz.prog 45 = some false := by kernel_rfl
theorem s_45 : szO Tryz.prog 45 = some 1 := by kernel_rfl
theorem z_45 : zcO Tryz.prog 45 = some [V.nf] := by kernel_rfl
theorem el_45 : elO Tryz.prog 45 = some (1, 8, [V.nf]) := by kernel_rfl
theorem a_46 : aggO Tryz.prog 46 = some false := by kernel_rfl
theorem s_46 : szO Tryz.prog 46 = some 1 := by kernel_rfl
theorem z_46 : zcO Tryz.prog 46 = some [V.nf] := by kernel_rfl
theorem el_46 : elO Tryz.prog 46 = some (1, 8, [V.nf]) := by kernel_rfl
theorem a_47 : aggO Tryz.prog 47 = some false := by kernel_rfl
theorem s_47 : szO Tryz.prog 47 = some 1 := by kernel_rfl
theorem z_47 : zcO Tryz.prog 47 = some [V.nf] := by kernel_rfl
theorem el_47 : elO Tryz.prog 47 = some (1, 8, [V.nf]) := by kernel_rfl
theorem a_48 : aggO Tryz.prog 48 = some true := by kernel_rfl
theorem s_48 : szO Tryz.prog 48 = some 9 := by kernel_rfl
theorem z_48 : zcO Tryz.prog 48 = some [V.i .i64 0, V.i .i64 0, V.i .i64 0, V.i .i64 0, V.i .i64 0, V.i .i64 0, V.i .i64 0, V.i .i64 0, V.i .i64 0] := by kernel_rfl
theorem el_48 : elO Tryz.prog 48 = some (9, 72, [V.i .i64 0, V.i .i64 0, V.i .i64 0, V.i .i64 0, V.i .i64 0, V.i .i64 0, V.i .i64 0, V.i .i64 0, V.i .i64 0]) := by kernel_rfl
theorem f_48_0 : faO Tryz.prog 48 0 = some 0 := by kernel_rfl
theorem f_48_1 : faO Tryz.prog 48 1 = some 1 := by kernel_rfl
theorem f_48_2 : faO Tryz.prog 48 2 = some 2 := by kernel_rfl
theorem f_48_3 : faO Tryz.prog 48 3 = some 3 := by kernel_rfl
theorem f_48_4 : faO Tryz.prog 48 4 = some 4 := by kernel_rfl
theorem b_48 : bldO Tryz.prog 48 = some ([V.i .i64 0, V.i .i64 0, V.i .i64 0, V.i .i64 0, V.i .i64 0, V.i .i64 0, V.i .i64 0, V.i .i64 0, V.i .i64 0], [(0, 1), (1, 1), (2, 1), (3, 1), (4, 5)]) := by kernel_rfl
theorem a_49 : aggO Tryz.prog 49 = some true := by kernel_rfl
theorem s_49 : szO Tryz.prog 49 = some 9 := by kernel_rfl
theorem z_49 : zcO Tryz.prog 49 = some [V.i .i64 0, V.i .i64 0, V.i .i64 0, V.i .i64 0, V.i .i64 0, V.i .i64 0, V.i .i64 0, V.i .i64 0, V.i .i64 0] := by kernel_rfl
theorem el_49 : elO Tryz.prog 49 = some (9, 72, [V.i .i64 0, V.i .i64 0, V.i .i64 0, V.i .i64 0, V.i .i64 0, V.i .i64 0, V.i .i64 0, V.i .i64 0, V.i .i64 0]) := by kernel_rfl
theorem f_49_0 : faO Tryz.prog 49 0 = some 0 := by kernel_rfl
theorem f_49_1 : faO Tryz.prog 49 1 = some 1 := by kernel_rfl
theorem f_49_2 : faO Tryz.prog 49 2 = some 2 := by kernel_rfl
theorem f_49_3 : faO Tryz.prog 49 3 = some 3 := by kernel_rfl
theorem f_49_4 : faO Tryz.prog 49 4 = some 4 := by kernel_rfl
theorem b_49 : bldO Tryz.prog 49 = some ([V.i .i64 0, V.i .i64 0, V.i .i64 0, V.i .i64 0, V.i .i64 0, V.i .i64 0, V.i .i64 0, V.i .i64 0, V.i .i64 0], [(0, 1), (1, 1), (2, 1), (3, 1), (4, 5)]) := by kernel_rfl
theorem a_51 : aggO Tryz.prog 51 = some false := by kernel_rfl
theorem s_51 : szO Tryz.prog 51 = some 1 := by kernel_rfl
theorem z_51 : zcO Tryz.prog 51 = some [V.nf] := by kernel_rfl
theorem el_51 : elO Tryz.prog 51 = some (1, 8, [V.nf]) := by kernel_rfl
theorem a_52 : aggO Tryz.prog 52 = some false := by kernel_rfl
theorem s_52 : szO Tryz.prog 52 = some 1 := by kernel_rfl
theorem z_52 : zcO Tryz.prog 52 = some [V.nf] := by kernel_rfl
theorem el_52 : elO Tryz.prog 52 = some (1, 8, [V.nf]) := by kernel_rfl
theorem a_53 : aggO Tryz.prog 53 = some true := by kernel_rfl
theorem s_53 : szO Tryz.prog 53 = some 2 := by kernel_rfl
theorem z_53 : zcO Tryz.prog 53 = some [V.i .i64 0, V.i .i64 0] := by kernel_rfl
theorem el_53 : elO Tryz.prog 53 = some (2, 16, [V.i .i64 0, V.i .i64 0]) := by kernel_rfl
theorem ar_53 : arO Tryz.prog 53 = some (2, 3) := by kernel_rfl
theorem ae_53 : aeO Tryz.prog 53 = some (2, 1) := by kernel_rfl
theorem b_53 : bldO Tryz.prog 53 = some ([V.i .i64 0, V.i .i64 0], [(0, 1), (1, 1)]) := by kernel_rfl
theorem a_54 : aggO Tryz.prog 54 = some false := by kernel_rfl
theorem s_54 : szO Tryz.prog 54 = some 1 := by kernel_rfl
theorem z_54 : zcO Tryz.prog 54 = some [V.nf] := by kernel_rfl
theorem el_54 : elO Tryz.prog 54 = some (1, 8, [V.nf]) := by kernel_rfl
theorem a_55 : aggO Tryz.prog 55 = some false := by kernel_rfl
theorem s_55 : szO Tryz.prog 55 = some 1 := by kernel_rfl
theorem z_55 : zcO Tryz.prog 55 = some [V.nf] := by kernel_rfl
theorem el_55 : elO Tryz.prog 55 = some (1, 8, [V.nf]) := by kernel_rfl
theorem a_56 : aggO Tryz.prog 56 = some false := by kernel_rfl
theorem s_56 : szO Tryz.prog 56 = some 1 := by kernel_rfl
theorem z_56 : zcO Tryz.prog 56 = some [V.sn] := by kernel_rfl
theorem el_56 : elO Tryz.prog 56 = some (1, 24, [V.sn]) := by kernel_rfl
theorem sl_56 : slO Tryz.prog 56 = some 111 := by kernel_rfl
theorem e_56 : seO Tryz.prog 56 = some 17 := by kernel_rfl
theorem a_58 : aggO Tryz.prog 58 = some false := by kernel_rfl
theorem s_58 : szO Tryz.prog 58 = some 1 := by kernel_rfl
theorem z_58 : zcO Tryz.prog 58 = some [V.nf] := by kernel_rfl
theorem el_58 : elO Tryz.prog 58 = some (1, 8, [V.nf]) := by kernel_rfl
theorem a_59 : aggO Tryz.prog 59 = some false := by kernel_rfl
theorem s_59 : szO Tryz.prog 59 = some 1 := by kernel_rfl
theorem z_59 : zcO Tryz.prog 59 = some [V.nf] := by kernel_rfl
theorem el_59 : elO Tryz.prog 59 = some (1, 8, [V.nf]) := by kernel_rfl
theorem a_60 : aggO Tryz.prog 60 = some false := by kernel_rfl
theorem s_60 : szO Tryz.prog 60 = some 1 := by kernel_rfl
theorem z_60 : zcO Tryz.prog 60 = some [V.sn] := by kernel_rfl
theorem el_60 : elO Tryz.prog 60 = some (1, 24, [V.sn]) := by kernel_rfl
theorem sl_60 : slO Tryz.prog 60 = some 124 := by kernel_rfl
theorem e_60 : seO Tryz.prog 60 = some 3 := by kernel_rfl
theorem a_62 : aggO Tryz.prog 62 = some false := by kernel_rfl
theorem s_62 : szO Tryz.prog 62 = some 1 := by kernel_rfl
theorem z_62 : zcO Tryz.prog 62 = some [V.nf] := by kernel_rfl
theorem el_62 : elO Tryz.prog 62 = some (1, 8, [V.nf]) := by kernel_rfl
theorem a_63 : aggO Tryz.prog 63 = some false := by kernel_rfl
theorem s_63 : szO Tryz.prog 63 = some 1 := by kernel_rfl
theorem z_63 : zcO Tryz.prog 63 = some [V.nf] := by kernel_rfl
theorem el_63 : elO Tryz.prog 63 = some (1, 8, [V.nf]) := by kernel_rfl
theorem a_64 : aggO Tryz.prog 64 = some false := by kernel_rfl
theorem s_64 : szO Tryz.prog 64 = some 1 := by kernel_rfl
theorem z_64 : zcO Tryz.prog 64 = some [V.nf] := by kernel_rfl
theorem el_64 : elO Tryz.prog 64 = some (1, 8, [V.nf]) := by kernel_rfl
theorem a_65 : aggO Tryz.prog 65 = some false := by kernel_rfl
theorem s_65 : szO Tryz.prog 65 = some 1 := by kernel_rfl
theorem z_65 : zcO Tryz.prog 65 = some [V.nf] := by kernel_rfl
theorem el_65 : elO Tryz.prog 65 = some (1, 8, [V.nf]) := by kernel_rfl
theorem a_66 : aggO Tryz.prog 66 = some false := by kernel_rfl
theorem s_66 : szO Tryz.prog 66 = some 1 := by kernel_rfl
theorem z_66 : zcO Tryz.prog 66 = some [V.sn] := by kernel_rfl
theorem el_66 : elO Tryz.prog 66 = some (1, 24, [V.sn]) := by kernel_rfl
theorem sl_66 : slO Tryz.prog 66 = some 3 := by kernel_rfl
theorem e_66 : seO Tryz.prog 66 = some 1 := by kernel_rfl
theorem a_68 : aggO Tryz.prog 68 = some false := by kernel_rfl
theorem s_68 : szO Tryz.prog 68 = some 1 := by kernel_rfl
theorem z_68 : zcO Tryz.prog 68 = some [V.nf] := by kernel_rfl
theorem el_68 : elO Tryz.prog 68 = some (1, 8, [V.nf]) := by kernel_rfl
theorem a_69 : aggO Tryz.prog 69 = some false := by kernel_rfl
theorem s_69 : szO Tryz.prog 69 = some 1 := by kernel_rfl
theorem z_69 : zcO Tryz.prog 69 = some [V.nf] := by kernel_rfl
theorem el_69 : elO Tryz.prog 69 = some (1, 8, [V.nf]) := by kernel_rfl
theorem a_70 : aggO Tryz.prog 70 = some false := by kernel_rfl
theorem s_70 : szO Tryz.prog 70 = some 1 := by kernel_rfl
theorem z_70 : zcO Tryz.prog 70 = some [V.nf] := by kernel_rfl
theorem el_70 : elO Tryz.prog 70 = some (1, 8, [V.nf]) := by kernel_rfl
theorem a_71 : aggO Tryz.prog 71 = some false := by kernel_rfl
theorem s_71 : szO Tryz.prog 71 = some 1 := by kernel_rfl
theorem z_71 : zcO Tryz.prog 71 = some [V.nf] := by kernel_rfl
theorem el_71 : elO Tryz.prog 71 = some (1, 8, [V.nf]) := by kernel_rfl
theorem a_72 : aggO Tryz.prog 72 = some false := by kernel_rfl
theorem s_72 : szO Tryz.prog 72 = some 1 := by kernel_rfl
theorem z_72 : zcO Tryz.prog 72 = some [V.sn] := by kernel_rfl
theorem el_72 : elO Tryz.prog 72 = some (1, 24, [V.sn]) := by kernel_rfl
theorem sl_72 : slO Tryz.prog 72 = some 105 := by kernel_rfl
theorem e_72 : seO Tryz.prog 72 = some 3 := by kernel_rfl
theorem a_73 : aggO Tryz.prog 73 = some false := by kernel_rfl
theorem s_73 : szO Tryz.prog 73 = some 1 := by kernel_rfl
theorem z_73 : zcO Tryz.prog 73 = some [V.sn] := by kernel_rfl
theorem el_73 : elO Tryz.prog 73 = some (1, 24, [V.sn]) := by kernel_rfl
theorem sl_73 : slO Tryz.prog 73 = some 38 := by kernel_rfl
theorem e_73 : seO Tryz.prog 73 = some 5 := by kernel_rfl
theorem a_74 : aggO Tryz.prog 74 = some true := by kernel_rfl
theorem s_74 : szO Tryz.prog 74 = some 3 := by kernel_rfl
theorem z_74 : zcO Tryz.prog 74 = some [V.i .i64 0, V.i .i64 0, V.sn] := by kernel_rfl
theorem el_74 : elO Tryz.prog 74 = some (3, 40, [V.i .i64 0, V.i .i64 0, V.sn]) := by kernel_rfl
theorem f_74_0 : faO Tryz.prog 74 0 = some 0 := by kernel_rfl
theorem f_74_1 : faO Tryz.prog 74 1 = some 1 := by kernel_rfl
theorem f_74_2 : faO Tryz.prog 74 2 = some 2 := by kernel_rfl
theorem b_74 : bldO Tryz.prog 74 = some ([V.i .i64 0, V.i .i64 0, V.sn], [(0, 1), (1, 1), (2, 1)]) := by kernel_rfl
theorem a_75 : aggO Tryz.prog 75 = some true := by kernel_rfl
theorem s_75 : szO Tryz.prog 75 = some 3 := by kernel_rfl
theorem z_75 : zcO Tryz.prog 75 = some [V.i .i64 0, V.i .i64 0, V.sn] := by kernel_rfl
theorem el_75 : elO Tryz.prog 75 = some (3, 40, [V.i .i64 0, V.i .i64 0, V.sn]) := by kernel_rfl
theorem f_75_0 : faO Tryz.prog 75 0 = some 0 := by kernel_rfl
theorem f_75_1 : faO Tryz.prog 75 1 = some 1 := by kernel_rfl
theorem f_75_2 : faO Tryz.prog 75 2 = some 2 := by kernel_rfl
theorem b_75 : bldO Tryz.prog 75 = some ([V.i .i64 0, V.i .i64 0, V.sn], [(0, 1), (1, 1), (2, 1)]) := by kernel_rfl
theorem a_77 : aggO Tryz.prog 77 = some false := by kernel_rfl
theorem s_77 : szO Tryz.prog 77 = some 1 := by kernel_rfl
theorem z_77 : zcO Tryz.prog 77 = some [V.nf] := by kernel_rfl
theorem el_77 : elO Tryz.prog 77 = some (1, 8, [V.nf]) := by kernel_rfl
theorem a_78 : aggO Tryz.prog 78 = some false := by kernel_rfl
theorem s_78 : szO Tryz.prog 78 = some 1 := by kernel_rfl
theorem z_78 : zcO Tryz.prog 78 = some [V.nf] := by kernel_rfl
theorem el_78 : elO Tryz.prog 78 = some (1, 8, [V.nf]) := by kernel_rfl
theorem a_79 : aggO Tryz.prog 79 = some false := by kernel_rfl
theorem s_79 : szO Tryz.prog 79 = some 1 := by kernel_rfl
theorem z_79 : zcO Tryz.prog 79 = some [V.nf] := by kernel_rfl
theorem el_79 : elO Tryz.prog 79 = some (1, 8, [V.nf]) := by kernel_rfl
theorem a_80 : aggO Tryz.prog 80 = some false := by kernel_rfl
theorem s_80 : szO Tryz.prog 80 = some 1 := by kernel_rfl
theorem z_80 : zcO Tryz.prog 80 = some [V.nf] := by kernel_rfl
theorem el_80 : elO Tryz.prog 80 = some (1, 8, [V.nf]) := by kernel_rfl
theorem a_81 : aggO Tryz.prog 81 = some true := by kernel_rfl
theorem s_81 : szO Tryz.prog 81 = some 4 := by kernel_rfl
theorem z_81 : zcO Tryz.prog 81 = some [V.i .i64 0, V.sn, V.i .i64 0, V.i .i64 0] := by kernel_rfl
theorem el_81 : elO Tryz.prog 81 = some (4, 48, [V.i .i64 0, V.sn, V.i .i64 0, V.i .i64 0]) := by kernel_rfl
theorem f_81_0 : faO Tryz.prog 81 0 = some 0 := by kernel_rfl
theorem f_81_1 : faO Tryz.prog 81 1 = some 1 := by kernel_rfl
theorem f_81_2 : faO Tryz.prog 81 2 = some 2 := by kernel_rfl
theorem b_81 : bldO Tryz.prog 81 = some ([V.i .i64 0, V.sn, V.i .i64 0, V.i .i64 0], [(0, 1), (1, 1), (2, 2)]) := by kernel_rfl
theorem a_82 : aggO Tryz.prog 82 = some true := by kernel_rfl
theorem s_82 : szO Tryz.prog 82 = some 4 := by kernel_rfl
theorem z_82 : zcO Tryz.prog 82 = some [V.i .i64 0, V.sn, V.i .i64 0, V.i .i64 0] := by kernel_rfl
theorem el_82 : elO Tryz.prog 82 = some (4, 48, [V.i .i64 0, V.sn, V.i .i64 0, V.i .i64 0]) := by kernel_rfl
theorem f_82_0 : faO Tryz.prog 82 0 = some 0 := by kernel_rfl
theorem f_82_1 : faO Tryz.prog 82 1 = some 1 := by kernel_rfl
theorem f_82_2 : faO Tryz.prog 82 2 = some 2 := by kernel_rfl
theorem b_82 : bldO Tryz.prog 82 = some ([V.i .i64 0, V.sn, V.i .i64 0, V.i .i64 0], [(0, 1), (1, 1), (2, 2)]) := by kernel_rfl
theorem a_83 : aggO Tryz.prog 83 = some true := by kernel_rfl
theorem s_83 : szO Tryz.prog 83 = some 20 := by kernel_rfl
theorem z_83 : zcO Tryz.prog 83 = some [V.i .i64 0, V.sn, V.i .i64 0, V.i .i64 0, V.i .i64 0, V.sn, V.i .i64 0, V.i .i64 0, V.i .i64 0, V.sn, V.i .i64 0, V.i .i64 0, V.i .i64 0, V.sn, V.i .i64 0, V.i .i64 0, V.i .i64 0, V.sn, V.i .i64 0, V.i .i64 0] := by kernel_rfl
theorem el_83 : elO Tryz.prog 83 = some (20, 240, [V.i .i64 0, V.sn, V.i .i64 0, V.i .i64 0, V.i .i64 0, V.sn, V.i .i64 0, V.i .i64 0, V.i .i64 0, V.sn, V.i .i64 0, V.i .i64 0, V.i .i64 0, V.sn, V.i .i64 0, V.i .i64 0, V.i .i64 0, V.sn, V.i .i64 0, V.i .i64 0]) := by kernel_rfl
theorem ar_83 : arO Tryz.prog 83 = some (5, 82) := by kernel_rfl
theorem ae_83 : aeO Tryz.prog 83 = some (5, 4) := by kernel_rfl
theorem b_83 : bldO Tryz.prog 83 = some ([V.i .i64 0, V.sn, V.i .i64 0, V.i .i64 0, V.i .i64 0, V.sn, V.i .i64 0, V.i .i64 0, V.i .i64 0, V.sn, V.i .i64 0, V.i .i64 0, V.i .i64 0, V.sn, V.i .i64 0, V.i .i64 0, V.i .i64 0, V.sn, V.i .i64 0, V.i .i64 0], [(0, 4), (4, 4), (8, 4), (12, 4), (16, 4)]) := by kernel_rfl
theorem a_84 : aggO Tryz.prog 84 = some true := by kernel_rfl
theorem s_84 : szO Tryz.prog 84 = some 22 := by kernel_rfl
theorem z_84 : zcO Tryz.prog 84 = some [V.i .i64 0, V.i .i64 0, V.sn, V.i .i64 0, V.i .i64 0, V.i .i64 0, V.sn, V.i .i64 0, V.i .i64 0, V.i .i64 0, V.sn, V.i .i64 0, V.i .i64 0, V.i .i64 0, V.sn, V.i .i64 0, V.i .i64 0, V.i .i64 0, V.sn, V.i .i64 0, V.i .i64 0, V.sn] := by kernel_rfl
theorem el_84 : elO Tryz.prog 84 = some (22, 272, [V.i .i64 0, V.i .i64 0, V.sn, V.i .i64 0, V.i .i64 0, V.i .i64 0, V.sn, V.i .i64 0, V.i .i64 0, V.i .i64 0, V.sn, V.i .i64 0, V.i .i64 0, V.i .i64 0, V.sn, V.i .i64 0, V.i .i64 0, V.i .i64 0, V.sn, V.i .i64 0, V.i .i64 0, V.sn]) := by kernel_rfl
theorem f_84_0 : faO Tryz.prog 84 0 = some 0 := by kernel_rfl
theorem f_84_1 : faO Tryz.prog 84 1 = some 1 := by kernel_rfl
theorem f_84_2 : faO Tryz.prog 84 2 = some 21 := by kernel_rfl
theorem b_84 : bldO Tryz.prog 84 = some ([V.i .i64 0, V.i .i64 0, V.sn, V.i .i64 0, V.i .i64 0, V.i .i64 0, V.sn, V.i .i64 0, V.i .i64 0, V.i .i64 0, V.sn, V.i .i64 0, V.i .i64 0, V.i .i64 0, V.sn, V.i .i64 0, V.i .i64 0, V.i .i64 0, V.sn, V.i .i64 0, V.i .i64 0, V.sn], [(0, 1), (1, 20), (21, 1)]) := by kernel_rfl
theorem a_85 : aggO Tryz.prog 85 = some true := by kernel_rfl
theorem s_85 : szO Tryz.prog 85 = some 22 := by kernel_rfl
theorem z_85 : zcO Tryz.prog 85 = some [V.i .i64 0, V.i .i64 0, V.sn, V.i .i64 0, V.i .i64 0, V.i .i64 0, V.sn, V.i .i64 0, V.i .i64 0, V.i .i64 0, V.sn, V.i .i64 0, V.i .i64 0, V.i .i64 0, V.sn, V.i .i64 0, V.i .i64 0, V.i .i64 0, V.sn, V.i .i64 0, V.i .i64 0, V.sn] := by kernel_rfl
theorem el_85 : elO Tryz.prog 85 = some (22, 272, [V.i .i64 0, V.i .i64 0, V.sn, V.i .i64 0, V.i .i64 0, V.i .i64 0, V.sn, V.i .i64 0, V.i .i64 0, V.i .i64 0, V.sn, V.i .i64 0, V.i .i64 0, V.i .i64 0, V.sn, V.i .i64 0, V.i .i64 0, V.i .i64 0, V.sn, V.i .i64 0, V.i .i64 0, V.sn]) := by kernel_rfl
theorem f_85_0 : faO Tryz.prog 85 0 = some 0 := by kernel_rfl
theorem f_85_1 : faO Tryz.prog 85 1 = some 1 := by kernel_rfl
theorem f_85_2 : faO Tryz.prog 85 2 = some 21 := by kernel_rfl
theorem b_85 : bldO Tryz.prog 85 = some ([V.i .i64 0, V.i .i64 0, V.sn, V.i .i64 0, V.i .i64 0, V.i .i64 0, V.sn, V.i .i64 0, V.i .i64 0, V.i .i64 0, V.sn, V.i .i64 0, V.i .i64 0, V.i .i64 0, V.sn, V.i .i64 0, V.i .i64 0, V.i .i64 0, V.sn, V.i .i64 0, V.i .i64 0, V.sn], [(0, 1), (1, 20), (21, 1)]) := by kernel_rfl
theorem a_87 : aggO Tryz.prog 87 = some false := by kernel_rfl
theorem s_87 : szO Tryz.prog 87 = some 1 := by kernel_rfl
theorem z_87 : zcO Tryz.prog 87 = some [V.nf] := by kernel_rfl
theorem el_87 : elO Tryz.prog 87 = some (1, 8, [V.nf]) := by kernel_rfl
theorem a_88 : aggO Tryz.prog 88 = some false := by kernel_rfl
theorem s_88 : szO Tryz.prog 88 = some 1 := by kernel_rfl
theorem z_88 : zcO Tryz.prog 88 = some [V.nf] := by kernel_rfl
theorem el_88 : elO Tryz.prog 88 = some (1, 8, [V.nf]) := by kernel_rfl
theorem a_90 : aggO Tryz.prog 90 = some false := by kernel_rfl
theorem s_90 : szO Tryz.prog 90 = some 1 := by kernel_rfl
theorem z_90 : zcO Tryz.prog 90 = some [V.nf] := by kernel_rfl
theorem el_90 : elO Tryz.prog 90 = some (1, 8, [V.nf]) := by kernel_rfl
theorem a_91 : aggO Tryz.prog 91 = some false := by kernel_rfl
theorem s_91 : szO Tryz.prog 91 = some 1 := by kernel_rfl
theorem z_91 : zcO Tryz.prog 91 = some [V.nf] := by kernel_rfl
theorem el_91 : elO Tryz.prog 91 = some (1, 8, [V.nf]) := by kernel_rfl
theorem a_92 : aggO Tryz.prog 92 = some false := by kernel_rfl
theorem s_92 : szO Tryz.prog 92 = some 1 := by kernel_rfl
theorem z_92 : zcO Tryz.prog 92 = some [V.sn] := by kernel_rfl
theorem el_92 : elO Tryz.prog 92 = some (1, 24, [V.sn]) := by kernel_rfl
theorem sl_92 : slO Tryz.prog 92 = some 170 := by kernel_rfl
theorem e_92 : seO Tryz.prog 92 = some 2 := by kernel_rfl
theorem a_93 : aggO Tryz.prog 93 = some false := by kernel_rfl
theorem s_93 : szO Tryz.prog 93 = some 1 := by kernel_rfl
theorem z_93 : zcO Tryz.prog 93 = some [V.sn] := by kernel_rfl
theorem el_93 : elO Tryz.prog 93 = some (1, 24, [V.sn]) := by kernel_rfl
theorem sl_93 : slO Tryz.prog 93 = some 157 := by kernel_rfl
theorem e_93 : seO Tryz.prog 93 = some 3 := by kernel_rfl
theorem a_94 : aggO Tryz.prog 94 = some true := by kernel_rfl
theorem s_94 : szO Tryz.prog 94 = some 5 := by kernel_rfl
theorem z_94 : zcO Tryz.prog 94 = some [V.sn, V.sn, V.sn, V.sn, V.sn] := by kernel_rfl
theorem el_94 : elO Tryz.prog 94 = some (5, 120, [V.sn, V.sn, V.sn, V.sn, V.sn]) := by kernel_rfl
theorem ar_94 : arO Tryz.prog 94 = some (5, 93) := by kernel_rfl
theorem ae_94 : aeO Tryz.prog 94 = some (5, 1) := by kernel_rfl
theorem b_94 : bldO Tryz.prog 94 = some ([V.sn, V.sn, V.sn, V.sn, V.sn], [(0, 1), (1, 1), (2, 1), (3, 1), (4, 1)]) := by kernel_rfl
theorem a_95 : aggO Tryz.prog 95 = some true := by kernel_rfl
theorem s_95 : szO Tryz.prog 95 = some 10 := by kernel_rfl
theorem z_95 : zcO Tryz.prog 95 = some [V.sn, V.sn, V.sn, V.sn, V.sn, V.sn, V.sn, V.sn, V.sn, V.sn] := by kernel_rfl
theorem el_95 : elO Tryz.prog 95 = some (10, 240, [V.sn, V.sn, V.sn, V.sn, V.sn, V.sn, V.sn, V.sn, V.sn, V.sn]) := by kernel_rfl
theorem ar_95 : arO Tryz.prog 95 = some (2, 94) := by kernel_rfl
theorem ae_95 : aeO Tryz.prog 95 = some (2, 5) := by kernel_rfl
theorem b_95 : bldO Tryz.prog 95 = some ([V.sn, V.sn, V.sn, V.sn, V.sn, V.sn, V.sn, V.sn, V.sn, V.sn], [(0, 5), (5, 5)]) := by kernel_rfl
theorem a_96 : aggO Tryz.prog 96 = some true := by kernel_rfl
theorem s_96 : szO Tryz.prog 96 = some 12 := by kernel_rfl
theorem z_96 : zcO Tryz.prog 96 = some [V.i .i64 0, V.sn, V.sn, V.sn, V.sn, V.sn, V.sn, V.sn, V.sn, V.sn, V.sn, V.sn] := by kernel_rfl
theorem el_96 : elO Tryz.prog 96 = some (12, 272, [V.i .i64 0, V.sn, V.sn, V.sn, V.sn, V.sn, V.sn, V.sn, V.sn, V.sn, V.sn, V.sn]) := by kernel_rfl
theorem f_96_0 : faO Tryz.prog 96 0 = some 0 := by kernel_rfl
theorem f_96_1 : faO Tryz.prog 96 1 = some 1 := by kernel_rfl
theorem f_96_2 : faO Tryz.prog 96 2 = some 2 := by kernel_rfl
theorem b_96 : bldO Tryz.prog 96 = some ([V.i .i64 0, V.sn, V.sn, V.sn, V.sn, V.sn, V.sn, V.sn, V.sn, V.sn, V.sn, V.sn], [(0, 1), (1, 1), (2, 10)]) := by kernel_rfl
theorem a_97 : aggO Tryz.prog 97 = some true := by kernel_rfl
theorem s_97 : szO Tryz.prog 97 = some 12 := by kernel_rfl
theorem z_97 : zcO Tryz.prog 97 = some [V.i .i64 0, V.sn, V.sn, V.sn, V.sn, V.sn, V.sn, V.sn, V.sn, V.sn, V.sn, V.sn] := by kernel_rfl
theorem el_97 : elO Tryz.prog 97 = some (12, 272, [V.i .i64 0, V.sn, V.sn, V.sn, V.sn, V.sn, V.sn, V.sn, V.sn, V.sn, V.sn, V.sn]) := by kernel_rfl
theorem f_97_0 : faO Tryz.prog 97 0 = some 0 := by kernel_rfl
theorem f_97_1 : faO Tryz.prog 97 1 = some 1 := by kernel_rfl
theorem f_97_2 : faO Tryz.prog 97 2 = some 2 := by kernel_rfl
theorem b_97 : bldO Tryz.prog 97 = some ([V.i .i64 0, V.sn, V.sn, V.sn, V.sn, V.sn, V.sn, V.sn, V.sn, V.sn, V.sn, V.sn], [(0, 1), (1, 1), (2, 10)]) := by kernel_rfl
theorem a_98 : aggO Tryz.prog 98 = some false := by kernel_rfl
theorem s_98 : szO Tryz.prog 98 = some 1 := by kernel_rfl
theorem z_98 : zcO Tryz.prog 98 = some [V.nf] := by kernel_rfl
theorem el_98 : elO Tryz.prog 98 = some (1, 8, [V.nf]) := by kernel_rfl
theorem a_100 : aggO Tryz.prog 100 = some false := by kernel_rfl
theorem s_100 : szO Tryz.prog 100 = some 1 := by kernel_rfl
theorem z_100 : zcO Tryz.prog 100 = some [V.nf] := by kernel_rfl
theorem el_100 : elO Tryz.prog 100 = some (1, 8, [V.nf]) := by kernel_rfl
theorem a_101 : aggO Tryz.prog 101 = some false := by kernel_rfl
theorem s_101 : szO Tryz.prog 101 = some 1 := by kernel_rfl
theorem z_101 : zcO Tryz.prog 101 = some [V.nf] := by kernel_rfl
theorem el_101 : elO Tryz.prog 101 = some (1, 8, [V.nf]) := by kernel_rfl
theorem a_102 : aggO Tryz.prog 102 = some false := by kernel_rfl
theorem s_102 : szO Tryz.prog 102 = some 1 := by kernel_rfl
theorem z_102 : zcO Tryz.prog 102 = some [V.nf] := by kernel_rfl
theorem el_102 : elO Tryz.prog 102 = some (1, 8, [V.nf]) := by kernel_rfl
theorem a_103 : aggO Tryz.prog 103 = some false := by kernel_rfl
theorem s_103 : szO Tryz.prog 103 = some 1 := by kernel_rfl
theorem z_103 : zcO Tryz.prog 103 = some [V.sn] := by kernel_rfl
theorem el_103 : elO Tryz.prog 103 = some (1, 24, [V.sn]) := by kernel_rfl
theorem sl_103 : slO Tryz.prog 103 = some 167 := by kernel_rfl
theorem e_103 : seO Tryz.prog 103 = some 4 := by kernel_rfl
theorem a_104 : aggO Tryz.prog 104 = some true := by kernel_rfl
theorem s_104 : szO Tryz.prog 104 = some 3 := by kernel_rfl
theorem z_104 : zcO Tryz.prog 104 = some [V.i .i64 0, V.sn, V.sn] := by kernel_rfl
theorem el_104 : elO Tryz.prog 104 = some (3, 56, [V.i .i64 0, V.sn, V.sn]) := by kernel_rfl
theorem f_104_0 : faO Tryz.prog 104 0 = some 0 := by kernel_rfl
theorem f_104_1 : faO Tryz.prog 104 1 = some 1 := by kernel_rfl
theorem f_104_2 : faO Tryz.prog 104 2 = some 2 := by kernel_rfl
theorem b_104 : bldO Tryz.prog 104 = some ([V.i .i64 0, V.sn, V.sn], [(0, 1), (1, 1), (2, 1)]) := by kernel_rfl
theorem a_105 : aggO Tryz.prog 105 = some true := by kernel_rfl
theorem s_105 : szO Tryz.prog 105 = some 3 := by kernel_rfl
theorem z_105 : zcO Tryz.prog 105 = some [V.i .i64 0, V.sn, V.sn] := by kernel_rfl
theorem el_105 : elO Tryz.prog 105 = some (3, 56, [V.i .i64 0, V.sn, V.sn]) := by kernel_rfl
theorem f_105_0 : faO Tryz.prog 105 0 = some 0 := by kernel_rfl
theorem f_105_1 : faO Tryz.prog 105 1 = some 1 := by kernel_rfl
theorem f_105_2 : faO Tryz.prog 105 2 = some 2 := by kernel_rfl
theorem b_105 : bldO Tryz.prog 105 = some ([V.i .i64 0, V.sn, V.sn], [(0, 1), (1, 1), (2, 1)]) := by kernel_rfl
theorem a_106 : aggO Tryz.prog 106 = some false := by kernel_rfl
theorem s_106 : szO Tryz.prog 106 = some 1 := by kernel_rfl
theorem z_106 : zcO Tryz.prog 106 = some [V.nf] := by kernel_rfl
theorem el_106 : elO Tryz.prog 106 = some (1, 8, [V.nf]) := by kernel_rfl
theorem a_107 : aggO Tryz.prog 107 = some false := by kernel_rfl
theorem s_107 : szO Tryz.prog 107 = some 1 := by kernel_rfl
theorem z_107 : zcO Tryz.prog 107 = some [V.nf] := by kernel_rfl
theorem el_107 : elO Tryz.prog 107 = some (1, 8, [V.nf]) := by kernel_rfl
theorem a_108 : aggO Tryz.prog 108 = some false := by kernel_rfl
theorem s_108 : szO Tryz.prog 108 = some 1 := by kernel_rfl
theorem z_108 : zcO Tryz.prog 108 = some [V.nf] := by kernel_rfl
theorem el_108 : elO Tryz.prog 108 = some (1, 8, [V.nf]) := by kernel_rfl
theorem a_109 : aggO Tryz.prog 109 = some true := by kernel_rfl
theorem s_109 : szO Tryz.prog 109 = some 10 := by kernel_rfl
theorem z_109 : zcO Tryz.prog 109 = some [V.i .i64 0, V.i .i64 0, V.i .i64 0, V.i .i64 0, V.i .i64 0, V.i .i64 0, V.i .i64 0, V.i .i64 0, V.i .i64 0, V.i .i64 0] := by kernel_rfl
theorem el_109 : elO Tryz.prog 109 = some (10, 80, [V.i .i64 0, V.i .i64 0, V.i .i64 0, V.i .i64 0, V.i .i64 0, V.i .i64 0, V.i .i64 0, V.i .i64 0, V.i .i64 0, V.i .i64 0]) := by kernel_rfl
theorem ar_109 : arO Tryz.prog 109 = some (5, 27) := by kernel_rfl
theorem ae_109 : aeO Tryz.prog 109 = some (5, 2) := by kernel_rfl
theorem b_109 : bldO Tryz.prog 109 = some ([V.i .i64 0, V.i .i64 0, V.i .i64 0, V.i .i64 0, V.i .i64 0, V.i .i64 0, V.i .i64 0, V.i .i64 0, V.i .i64 0, V.i .i64 0], [(0, 2), (2, 2), (4, 2), (6, 2), (8, 2)]) := by kernel_rfl
theorem a_110 : aggO Tryz.prog 110 = some true := by kernel_rfl
theorem s_110 : szO Tryz.prog 110 = some 17 := by kernel_rfl
theorem z_110 : zcO Tryz.prog 110 = some [V.i .i64 0, V.i .i64 0, V.i .i64 0, V.i .i64 0, V.i .i64 0, V.i .i64 0, V.i .i64 0, V.i .i64 0, V.i .i64 0, V.i .i64 0, V.i .i64 0, V.i .i64 0, V.i .i64 0, V.i .i64 0, V.i .i64 0, V.i .i64 0, V.i .i64 0] := by kernel_rfl
theorem el_110 : elO Tryz.prog 110 = some (17, 136, [V.i .i64 0, V.i .i64 0, V.i .i64 0, V.i .i64 0, V.i .i64 0, V.i .i64 0, V.i .i64 0, V.i .i64 0, V.i .i64 0, V.i .i64 0, V.i .i64 0, V.i .i64 0, V.i .i64 0, V.i .i64 0, V.i .i64 0, V.i .i64 0, V.i .i64 0]) := by kernel_rfl
theorem f_110_0 : faO Tryz.prog 110 0 = some 0 := by kernel_rfl
theorem f_110_1 : faO Tryz.prog 110 1 = some 5 := by kernel_rfl
theorem f_110_2 : faO Tryz.prog 110 2 = some 15 := by kernel_rfl
theorem b_110 : bldO Tryz.prog 110 = some ([V.i .i64 0, V.i .i64 0, V.i .i64 0, V.i .i64 0, V.i .i64 0, V.i .i64 0, V.i .i64 0, V.i .i64 0, V.i .i64 0, V.i .i64 0, V.i .i64 0, V.i .i64 0, V.i .i64 0, V.i .i64 0, V.i .i64 0, V.i .i64 0, V.i .i64 0], [(0, 5), (5, 10), (15, 2)]) := by kernel_rfl
theorem a_111 : aggO Tryz.prog 111 = some true := by kernel_rfl
theorem s_111 : szO Tryz.prog 111 = some 17 := by kernel_rfl
theorem z_111 : zcO Tryz.prog 111 = some [V.i .i64 0, V.i .i64 0, V.i .i64 0, V.i .i64 0, V.i .i64 0, V.i .i64 0, V.i .i64 0, V.i .i64 0, V.i .i64 0, V.i .i64 0, V.i .i64 0, V.i .i64 0, V.i .i64 0, V.i .i64 0, V.i .i64 0, V.i .i64 0, V.i .i64 0] := by kernel_rfl
theorem el_111 : elO Tryz.prog 111 = some (17, 136, [V.i .i64 0, V.i .i64 0, V.i .i64 0, V.i .i64 0, V.i .i64 0, V.i .i64 0, V.i .i64 0, V.i .i64 0, V.i .i64 0, V.i .i64 0, V.i .i64 0, V.i .i64 0, V.i .i64 0, V.i .i64 0, V.i .i64 0, V.i .i64 0, V.i .i64 0]) := by kernel_rfl
theorem f_111_0 : faO Tryz.prog 111 0 = some 0 := by kernel_rfl
theorem f_111_1 : faO Tryz.prog 111 1 = some 5 := by kernel_rfl
theorem f_111_2 : faO Tryz.prog 111 2 = some 15 := by kernel_rfl
theorem b_111 : bldO Tryz.prog 111 = some ([V.i .i64 0, V.i .i64 0, V.i .i64 0, V.i .i64 0, V.i .i64 0, V.i .i64 0, V.i .i64 0, V.i .i64 0, V.i .i64 0, V.i .i64 0, V.i .i64 0, V.i .i64 0, V.i .i64 0, V.i .i64 0, V.i .i64 0, V.i .i64 0, V.i .i64 0], [(0, 5), (5, 10), (15, 2)]) := by kernel_rfl
theorem a_112 : aggO Tryz.prog 112 = some false := by kernel_rfl
theorem s_112 : szO Tryz.prog 112 = some 1 := by kernel_rfl
theorem z_112 : zcO Tryz.prog 112 = some [V.nf] := by kernel_rfl
theorem el_112 : elO Tryz.prog 112 = some (1, 8, [V.nf]) := by kernel_rfl
theorem a_114 : aggO Tryz.prog 114 = some false := by kernel_rfl
theorem s_114 : szO Tryz.prog 114 = some 1 := by kernel_rfl
theorem z_114 : zcO Tryz.prog 114 = some [V.nf] := by kernel_rfl
theorem el_114 : elO Tryz.prog 114 = some (1, 8, [V.nf]) := by kernel_rfl
theorem a_116 : aggO Tryz.prog 116 = some false := by kernel_rfl
theorem s_116 : szO Tryz.prog 116 = some 1 := by kernel_rfl
theorem z_116 : zcO Tryz.prog 116 = some [V.nf] := by kernel_rfl
theorem el_116 : elO Tryz.prog 116 = some (1, 8, [V.nf]) := by kernel_rfl
theorem a_117 : aggO Tryz.prog 117 = some false := by kernel_rfl
theorem s_117 : szO Tryz.prog 117 = some 1 := by kernel_rfl
theorem z_117 : zcO Tryz.prog 117 = some [V.nf] := by kernel_rfl
theorem el_117 : elO Tryz.prog 117 = some (1, 8, [V.nf]) := by kernel_rfl
theorem a_118 : aggO Tryz.prog 118 = some false := by kernel_rfl
theorem s_118 : szO Tryz.prog 118 = some 1 := by kernel_rfl
theorem z_118 : zcO Tryz.prog 118 = some [V.nf] := by kernel_rfl
theorem el_118 : elO Tryz.prog 118 = some (1, 8, [V.nf]) := by kernel_rfl
theorem a_119 : aggO Tryz.prog 119 = some false := by kernel_rfl
theorem s_119 : szO Tryz.prog 119 = some 1 := by kernel_rfl
theorem z_119 : zcO Tryz.prog 119 = some [V.nf] := by kernel_rfl
theorem el_119 : elO Tryz.prog 119 = some (1, 8, [V.nf]) := by kernel_rfl
theorem a_120 : aggO Tryz.prog 120 = some false := by kernel_rfl
theorem s_120 : szO Tryz.prog 120 = some 1 := by kernel_rfl
theorem z_120 : zcO Tryz.prog 120 = some [V.nf] := by kernel_rfl
theorem el_120 : elO Tryz.prog 120 = some (1, 8, [V.nf]) := by kernel_rfl
theorem a_121 : aggO Tryz.prog 121 = some false := by kernel_rfl
theorem s_121 : szO Tryz.prog 121 = some 1 := by kernel_rfl
theorem z_121 : zcO Tryz.prog 121 = some [V.nf] := by kernel_rfl
theorem el_121 : elO Tryz.prog 121 = some (1, 8, [V.nf]) := by kernel_rfl
theorem a_122 : aggO Tryz.prog 122 = some false := by kernel_rfl
theorem s_122 : szO Tryz.prog 122 = some 1 := by kernel_rfl
theorem z_122 : zcO Tryz.prog 122 = some [V.nf] := by kernel_rfl
theorem el_122 : elO Tryz.prog 122 = some (1, 8, [V.nf]) := by kernel_rfl
theorem a_123 : aggO Tryz.prog 123 = some true := by kernel_rfl
theorem s_123 : szO Tryz.prog 123 = some 3 := by kernel_rfl
theorem z_123 : zcO Tryz.prog 123 = some [V.i .i64 0, V.i .i64 0, V.i .i64 0] := by kernel_rfl
theorem el_123 : elO Tryz.prog 123 = some (3, 24, [V.i .i64 0, V.i .i64 0, V.i .i64 0]) := by kernel_rfl
theorem f_123_0 : faO Tryz.prog 123 0 = some 0 := by kernel_rfl
theorem f_123_1 : faO Tryz.prog 123 1 = some 1 := by kernel_rfl
theorem f_123_2 : faO Tryz.prog 123 2 = some 2 := by kernel_rfl
theorem b_123 : bldO Tryz.prog 123 = some ([V.i .i64 0, V.i .i64 0, V.i .i64 0], [(0, 1), (1, 1), (2, 1)]) := by kernel_rfl
theorem a_124 : aggO Tryz.prog 124 = some true := by kernel_rfl
theorem s_124 : szO Tryz.prog 124 = some 3 := by kernel_rfl
theorem z_124 : zcO Tryz.prog 124 = some [V.i .i64 0, V.i .i64 0, V.i .i64 0] := by kernel_rfl
theorem el_124 : elO Tryz.prog 124 = some (3, 24, [V.i .i64 0, V.i .i64 0, V.i .i64 0]) := by kernel_rfl
theorem f_124_0 : faO Tryz.prog 124 0 = some 0 := by kernel_rfl
theorem f_124_1 : faO Tryz.prog 124 1 = some 1 := by kernel_rfl
theorem f_124_2 : faO Tryz.prog 124 2 = some 2 := by kernel_rfl
theorem b_124 : bldO Tryz.prog 124 = some ([V.i .i64 0, V.i .i64 0, V.i .i64 0], [(0, 1), (1, 1), (2, 1)]) := by kernel_rfl
theorem a_125 : aggO Tryz.prog 125 = some false := by kernel_rfl
theorem s_125 : szO Tryz.prog 125 = some 1 := by kernel_rfl
theorem z_125 : zcO Tryz.prog 125 = some [V.nf] := by kernel_rfl
theorem el_125 : elO Tryz.prog 125 = some (1, 8, [V.nf]) := by kernel_rfl
theorem a_126 : aggO Tryz.prog 126 = some false := by kernel_rfl
theorem s_126 : szO Tryz.prog 126 = some 1 := by kernel_rfl
theorem z_126 : zcO Tryz.prog 126 = some [V.nf] := by kernel_rfl
theorem el_126 : elO Tryz.prog 126 = some (1, 8, [V.nf]) := by kernel_rfl
theorem a_127 : aggO Tryz.prog 127 = some false := by kernel_rfl
theorem s_127 : szO Tryz.prog 127 = some 1 := by kernel_rfl
theorem z_127 : zcO Tryz.prog 127 = some [V.p0] := by kernel_rfl
theorem el_127 : elO Tryz.prog 127 = some (1, 8, [V.p0]) := by kernel_rfl
theorem a_128 : aggO Tryz.prog 128 = some false := by kernel_rfl
theorem s_128 : szO Tryz.prog 128 = some 1 := by kernel_rfl
theorem z_128 : zcO Tryz.prog 128 = some [V.nf] := by kernel_rfl
theorem el_128 : elO Tryz.prog 128 = some (1, 8, [V.nf]) := by kernel_rfl
theorem a_129 : aggO Tryz.prog 129 = some false := by kernel_rfl
theorem s_129 : szO Tryz.prog 129 = some 1 := by kernel_rfl
theorem z_129 : zcO Tryz.prog 129 = some [V.nf] := by kernel_rfl
theorem el_129 : elO Tryz.prog 129 = some (1, 8, [V.nf]) := by kernel_rfl
theorem a_130 : aggO Tryz.prog 130 = some false := by kernel_rfl
theorem s_130 : szO Tryz.prog 130 = some 1 := by kernel_rfl
theorem z_130 : zcO Tryz.prog 130 = some [V.nf] := by kernel_rfl
theorem el_130 : elO Tryz.prog 130 = some (1, 8, [V.nf]) := by kernel_rfl
theorem a_131 : aggO Tryz.prog 131 = some true := by kernel_rfl
theorem s_131 : szO Tryz.prog 131 = some 16 := by kernel_rfl
theorem z_131 : zcO Tryz.prog 131 = some [V.s [], V.sn, V.i .i64 0, V.sn, V.sn, V.sn, V.sn, V.sn, V.sn, V.sn, V.sn, V.sn, V.sn, V.sn, V.i .i64 0, V.i .i64 0] := by kernel_rfl
theorem el_131 : elO Tryz.prog 131 = some (16, 328, [V.s [], V.sn, V.i .i64 0, V.sn, V.sn, V.sn, V.sn, V.sn, V.sn, V.sn, V.sn, V.sn, V.sn, V.sn, V.i .i64 0, V.i .i64 0]) := by kernel_rfl
theorem f_131_0 : faO Tryz.prog 131 0 = some 0 := by kernel_rfl
theorem f_131_1 : faO Tryz.prog 131 1 = some 2 := by kernel_rfl
theorem f_131_2 : faO Tryz.prog 131 2 = some 14 := by kernel_rfl
theorem f_131_3 : faO Tryz.prog 131 3 = some 15 := by kernel_rfl
theorem b_131 : bldO Tryz.prog 131 = some ([V.s [], V.sn, V.i .i64 0, V.sn, V.sn, V.sn, V.sn, V.sn, V.sn, V.sn, V.sn, V.sn, V.sn, V.sn, V.i .i64 0, V.i .i64 0], [(0, 2), (2, 12), (14, 1), (15, 1)]) := by kernel_rfl
theorem a_132 : aggO Tryz.prog 132 = some true := by kernel_rfl
theorem s_132 : szO Tryz.prog 132 = some 16 := by kernel_rfl
theorem z_132 : zcO Tryz.prog 132 = some [V.s [], V.sn, V.i .i64 0, V.sn, V.sn, V.sn, V.sn, V.sn, V.sn, V.sn, V.sn, V.sn, V.sn, V.sn, V.i .i64 0, V.i .i64 0] := by kernel_rfl
theorem el_132 : elO Tryz.prog 132 = some (16, 328, [V.s [], V.sn, V.i .i64 0, V.sn, V.sn, V.sn, V.sn, V.sn, V.sn, V.sn, V.sn, V.sn, V.sn, V.sn, V.i .i64 0, V.i .i64 0]) := by kernel_rfl
theorem f_132_0 : faO Tryz.prog 132 0 = some 0 := by kernel_rfl
theorem f_132_1 : faO Tryz.prog 132 1 = some 2 := by kernel_rfl
theorem f_132_2 : faO Tryz.prog 132 2 = some 14 := by kernel_rfl
theorem f_132_3 : faO Tryz.prog 132 3 = some 15 := by kernel_rfl
theorem b_132 : bldO Tryz.prog 132 = some ([V.s [], V.sn, V.i .i64 0, V.sn, V.sn, V.sn, V.sn, V.sn, V.sn, V.sn, V.sn, V.sn, V.sn, V.sn, V.i .i64 0, V.i .i64 0], [(0, 2), (2, 12), (14, 1), (15, 1)]) := by kernel_rfl
theorem a_134 : aggO Tryz.prog 134 = some false := by kernel_rfl
theorem s_134 : szO Tryz.prog 134 = some 1 := by kernel_rfl
theorem z_134 : zcO Tryz.prog 134 = some [V.nf] := by kernel_rfl
theorem el_134 : elO Tryz.prog 134 = some (1, 8, [V.nf]) := by kernel_rfl
theorem a_135 : aggO Tryz.prog 135 = some false := by kernel_rfl
theorem s_135 : szO Tryz.prog 135 = some 1 := by kernel_rfl
theorem z_135 : zcO Tryz.prog 135 = some [V.nf] := by kernel_rfl
theorem el_135 : elO Tryz.prog 135 = some (1, 8, [V.nf]) := by kernel_rfl
theorem a_136 : aggO Tryz.prog 136 = some false := by kernel_rfl
theorem s_136 : szO Tryz.prog 136 = some 1 := by kernel_rfl
theorem z_136 : zcO Tryz.prog 136 = some [V.nf] := by kernel_rfl
theorem el_136 : elO Tryz.prog 136 = some (1, 8, [V.nf]) := by kernel_rfl
theorem a_137 : aggO Tryz.prog 137 = some false := by kernel_rfl
theorem s_137 : szO Tryz.prog 137 = some 1 := by kernel_rfl
theorem z_137 : zcO Tryz.prog 137 = some [V.nf] := by kernel_rfl
theorem el_137 : elO Tryz.prog 137 = some (1, 8, [V.nf]) := by kernel_rfl
theorem a_138 : aggO Tryz.prog 138 = some false := by kernel_rfl
theorem s_138 : szO Tryz.prog 138 = some 1 := by kernel_rfl
theorem z_138 : zcO Tryz.prog 138 = some [V.nf] := by kernel_rfl
theorem el_138 : elO Tryz.prog 138 = some (1, 8, [V.nf]) := by kernel_rfl
theorem a_139 : aggO Tryz.prog 139 = some false := by kernel_rfl
theorem s_139 : szO Tryz.prog 139 = some 1 := by kernel_rfl
theorem z_139 : zcO Tryz.prog 139 = some [V.sn] := by kernel_rfl
theorem el_139 : elO Tryz.prog 139 = some (1, 24, [V.sn]) := by kernel_rfl
theorem sl_139 : slO Tryz.prog 139 = some 40 := by kernel_rfl
theorem e_139 : seO Tryz.prog 139 = some 6 := by kernel_rfl
theorem a_140 : aggO Tryz.prog 140 = some false := by kernel_rfl
theorem s_140 : szO Tryz.prog 140 = some 1 := by kernel_rfl
theorem z_140 : zcO Tryz.prog 140 = some [V.nf] := by kernel_rfl
theorem el_140 : elO Tryz.prog 140 = some (1, 8, [V.nf]) := by kernel_rfl
theorem a_141 : aggO Tryz.prog 141 = some false := by kernel_rfl
theorem s_141 : szO Tryz.prog 141 = some 1 := by kernel_rfl
theorem z_141 : zcO Tryz.prog 141 = some [V.nf] := by kernel_rfl
theorem el_141 : elO Tryz.prog 141 = some (1, 8, [V.nf]) := by kernel_rfl
theorem a_142 : aggO Tryz.prog 142 = some false := by kernel_rfl
theorem s_142 : szO Tryz.prog 142 = some 1 := by kernel_rfl
theorem z_142 : zcO Tryz.prog 142 = some [V.nf] := by kernel_rfl
theorem el_142 : elO Tryz.prog 142 = some (1, 8, [V.nf]) := by kernel_rfl
theorem a_143 : aggO Tryz.prog 143 = some false := by kernel_rfl
theorem s_143 : szO Tryz.prog 143 = some 1 := by kernel_rfl
theorem z_143 : zcO Tryz.prog 143 = some [V.nf] := by kernel_rfl
theorem el_143 : elO Tryz.prog 143 = some (1, 8, [V.nf]) := by kernel_rfl
theorem a_144 : aggO Tryz.prog 144 = some false := by kernel_rfl
theorem s_144 : szO Tryz.prog 144 = some 1 := by kernel_rfl
theorem z_144 : zcO Tryz.prog 144 = some [V.nf] := by kernel_rfl
theorem el_144 : elO Tryz.prog 144 = some (1, 8, [V.nf]) := by kernel_rfl
theorem a_145 : aggO Tryz.prog 145 = some false := by kernel_rfl
theorem s_145 : szO Tryz.prog 145 = some 1 := by kernel_rfl
theorem z_145 : zcO Tryz.prog 145 = some [V.nf] := by kernel_rfl
theorem el_145 : elO Tryz.prog 145 = some (1, 8, [V.nf]) := by kernel_rfl
theorem a_146 : aggO Tryz.prog 146 = some false := by kernel_rfl
theorem s_146 : szO Tryz.prog 146 = some 1 := by kernel_rfl
theorem z_146 : zcO Tryz.prog 146 = some [V.nf] := by kernel_rfl
theorem el_146 : elO Tryz.prog 146 = some (1, 8, [V.nf]) := by kernel_rfl
theorem a_147 : aggO Tryz.prog 147 = some false := by kernel_rfl
theorem s_147 : szO Tryz.prog 147 = some 1 := by kernel_rfl
theorem z_147 : zcO Tryz.prog 147 = some [V.nf] := by kernel_rfl
theorem el_147 : elO Tryz.prog 147 = some (1, 8, [V.nf]) := by kernel_rfl
theorem a_148 : aggO Tryz.prog 148 = some false := by kernel_rfl
theorem s_148 : szO Tryz.prog 148 = some 1 := by kernel_rfl
theorem z_148 : zcO Tryz.prog 148 = some [V.sn] := by kernel_rfl
theorem el_148 : elO Tryz.prog 148 = some (1, 24, [V.sn]) := by kernel_rfl
theorem sl_148 : slO Tryz.prog 148 = some 27 := by kernel_rfl
theorem e_148 : seO Tryz.prog 148 = some 2 := by kernel_rfl
theorem a_150 : aggO Tryz.prog 150 = some false := by kernel_rfl
theorem s_150 : szO Tryz.prog 150 = some 1 := by kernel_rfl
theorem z_150 : zcO Tryz.prog 150 = some [V.nf] := by kernel_rfl
theorem el_150 : elO Tryz.prog 150 = some (1, 8, [V.nf]) := by kernel_rfl
theorem a_151 : aggO Tryz.prog 151 = some false := by kernel_rfl
theorem s_151 : szO Tryz.prog 151 = some 1 := by kernel_rfl
theorem z_151 : zcO Tryz.prog 151 = some [V.nf] := by kernel_rfl
theorem el_151 : elO Tryz.prog 151 = some (1, 8, [V.nf]) := by kernel_rfl
theorem a_152 : aggO Tryz.prog 152 = some false := by kernel_rfl
theorem s_152 : szO Tryz.prog 152 = some 1 := by kernel_rfl
theorem z_152 : zcO Tryz.prog 152 = some [V.nf] := by kernel_rfl
theorem el_152 : elO Tryz.prog 152 = some (1, 8, [V.nf]) := by kernel_rfl
theorem a_153 : aggO Tryz.prog 153 = some false := by kernel_rfl
theorem s_153 : szO Tryz.prog 153 = some 1 := by kernel_rfl
theorem z_153 : zcO Tryz.prog 153 = some [V.nf] := by kernel_rfl
theorem el_153 : elO Tryz.prog 153 = some (1, 8, [V.nf]) := by kernel_rfl
theorem a_155 : aggO Tryz.prog 155 = some false := by kernel_rfl
theorem s_155 : szO Tryz.prog 155 = some 1 := by kernel_rfl
theorem z_155 : zcO Tryz.prog 155 = some [V.nf] := by kernel_rfl
theorem el_155 : elO Tryz.prog 155 = some (1, 8, [V.nf]) := by kernel_rfl
theorem a_156 : aggO Tryz.prog 156 = some true := by kernel_rfl
theorem s_156 : szO Tryz.prog 156 = some 3 := by kernel_rfl
theorem z_156 : zcO Tryz.prog 156 = some [V.i .i64 0, V.i .i64 0, V.i .i64 0] := by kernel_rfl
theorem el_156 : elO Tryz.prog 156 = some (3, 24, [V.i .i64 0, V.i .i64 0, V.i .i64 0]) := by kernel_rfl
theorem f_156_0 : faO Tryz.prog 156 0 = some 0 := by kernel_rfl
theorem f_156_1 : faO Tryz.prog 156 1 = some 1 := by kernel_rfl
theorem f_156_2 : faO Tryz.prog 156 2 = some 2 := by kernel_rfl
theorem b_156 : bldO Tryz.prog 156 = some ([V.i .i64 0, V.i .i64 0, V.i .i64 0], [(0, 1), (1, 1), (2, 1)]) := by kernel_rfl
theorem a_157 : aggO Tryz.prog 157 = some true := by kernel_rfl
theorem s_157 : szO Tryz.prog 157 = some 3 := by kernel_rfl
theorem z_157 : zcO Tryz.prog 157 = some [V.i .i64 0, V.i .i64 0, V.i .i64 0] := by kernel_rfl
theorem el_157 : elO Tryz.prog 157 = some (3, 24, [V.i .i64 0, V.i .i64 0, V.i .i64 0]) := by kernel_rfl
theorem f_157_0 : faO Tryz.prog 157 0 = some 0 := by kernel_rfl
theorem f_157_1 : faO Tryz.prog 157 1 = some 1 := by kernel_rfl
theorem f_157_2 : faO Tryz.prog 157 2 = some 2 := by kernel_rfl
theorem b_157 : bldO Tryz.prog 157 = some ([V.i .i64 0, V.i .i64 0, V.i .i64 0], [(0, 1), (1, 1), (2, 1)]) := by kernel_rfl
theorem a_158 : aggO Tryz.prog 158 = some false := by kernel_rfl
theorem s_158 : szO Tryz.prog 158 = some 1 := by kernel_rfl
theorem z_158 : zcO Tryz.prog 158 = some [V.nf] := by kernel_rfl
theorem el_158 : elO Tryz.prog 158 = some (1, 8, [V.nf]) := by kernel_rfl
theorem a_159 : aggO Tryz.prog 159 = some false := by kernel_rfl
theorem s_159 : szO Tryz.prog 159 = some 1 := by kernel_rfl
theorem z_159 : zcO Tryz.prog 159 = some [V.nf] := by kernel_rfl
theorem el_159 : elO Tryz.prog 159 = some (1, 8, [V.nf]) := by kernel_rfl
theorem a_160 : aggO Tryz.prog 160 = some false := by kernel_rfl
theorem s_160 : szO Tryz.prog 160 = some 1 := by kernel_rfl
theorem z_160 : zcO Tryz.prog 160 = some [V.nf] := by kernel_rfl
theorem el_160 : elO Tryz.prog 160 = some (1, 8, [V.nf]) := by kernel_rfl
theorem a_162 : aggO Tryz.prog 162 = some false := by kernel_rfl
theorem s_162 : szO Tryz.prog 162 = some 1 := by kernel_rfl
theorem z_162 : zcO Tryz.prog 162 = some [V.nf] := by kernel_rfl
theorem el_162 : elO Tryz.prog 162 = some (1, 8, [V.nf]) := by kernel_rfl
theorem a_163 : aggO Tryz.prog 163 = some false := by kernel_rfl
theorem s_163 : szO Tryz.prog 163 = some 1 := by kernel_rfl
theorem z_163 : zcO Tryz.prog 163 = some [V.nf] := by kernel_rfl
theorem el_163 : elO Tryz.prog 163 = some (1, 8, [V.nf]) := by kernel_rfl
theorem a_164 : aggO Tryz.prog 164 = some false := by kernel_rfl
theorem s_164 : szO Tryz.prog 164 = some 1 := by kernel_rfl
theorem z_164 : zcO Tryz.prog 164 = some [V.nf] := by kernel_rfl
theorem el_164 : elO Tryz.prog 164 = some (1, 8, [V.nf]) := by kernel_rfl
theorem a_165 : aggO Tryz.prog 165 = some false := by kernel_rfl
theorem s_165 : szO Tryz.prog 165 = some 1 := by kernel_rfl
theorem z_165 : zcO Tryz.prog 165 = some [V.nf] := by kernel_rfl
theorem el_165 : elO Tryz.prog 165 = some (1, 8, [V.nf]) := by kernel_rfl
theorem a_166 : aggO Tryz.prog 166 = some false := by kernel_rfl
theorem s_166 : szO Tryz.prog 166 = some 1 := by kernel_rfl
theorem z_166 : zcO Tryz.prog 166 = some [V.nf] := by kernel_rfl
theorem el_166 : elO Tryz.prog 166 = some (1, 8, [V.nf]) := by kernel_rfl
theorem a_167 : aggO Tryz.prog 167 = some true := by kernel_rfl
theorem s_167 : szO Tryz.prog 167 = some 4 := by kernel_rfl
theorem z_167 : zcO Tryz.prog 167 = some [V.i .i64 0, V.i .i64 0, V.i .i64 0, V.i .i64 0] := by kernel_rfl
theorem el_167 : elO Tryz.prog 167 = some (4, 32, [V.i .i64 0, V.i .i64 0, V.i .i64 0, V.i .i64 0]) := by kernel_rfl
theorem ar_167 : arO Tryz.prog 167 = some (4, 3) := by kernel_rfl
theorem ae_167 : aeO Tryz.prog 167 = some (4, 1) := by kernel_rfl
theorem b_167 : bldO Tryz.prog 167 = some ([V.i .i64 0, V.i .i64 0, V.i .i64 0, V.i .i64 0], [(0, 1), (1, 1), (2, 1), (3, 1)]) := by kernel_rfl
theorem a_168 : aggO Tryz.prog 168 = some false := by kernel_rfl
theorem s_168 : szO Tryz.prog 168 = some 1 := by kernel_rfl
theorem z_168 : zcO Tryz.prog 168 = some [V.sn] := by kernel_rfl
theorem el_168 : elO Tryz.prog 168 = some (1, 24, [V.sn]) := by kernel_rfl
theorem sl_168 : slO Tryz.prog 168 = some 172 := by kernel_rfl
theorem e_168 : seO Tryz.prog 168 = some 3 := by kernel_rfl
theorem a_169 : aggO Tryz.prog 169 = some true := by kernel_rfl
theorem s_169 : szO Tryz.prog 169 = some 2 := by kernel_rfl
theorem z_169 : zcO Tryz.prog 169 = some [V.i .i64 0, V.sn] := by kernel_rfl
theorem el_169 : elO Tryz.prog 169 = some (2, 32, [V.i .i64 0, V.sn]) := by kernel_rfl
theorem f_169_0 : faO Tryz.prog 169 0 = some 0 := by kernel_rfl
theorem f_169_1 : faO Tryz.prog 169 1 = some 1 := by kernel_rfl
theorem b_169 : bldO Tryz.prog 169 = some ([V.i .i64 0, V.sn], [(0, 1), (1, 1)]) := by kernel_rfl
theorem a_170 : aggO Tryz.prog 170 = some true := by kernel_rfl
theorem s_170 : szO Tryz.prog 170 = some 2 := by kernel_rfl
theorem z_170 : zcO Tryz.prog 170 = some [V.i .i64 0, V.sn] := by kernel_rfl
theorem el_170 : elO Tryz.prog 170 = some (2, 32, [V.i .i64 0, V.sn]) := by kernel_rfl
theorem f_170_0 : faO Tryz.prog 170 0 = some 0 := by kernel_rfl
theorem f_170_1 : faO Tryz.prog 170 1 = some 1 := by kernel_rfl
theorem b_170 : bldO Tryz.prog 170 = some ([V.i .i64 0, V.sn], [(0, 1), (1, 1)]) := by kernel_rfl
theorem a_171 : aggO Tryz.prog 171 = some true := by kernel_rfl
theorem s_171 : szO Tryz.prog 171 = some 3 := by kernel_rfl
theorem z_171 : zcO Tryz.prog 171 = some [V.i .i64 0, V.i .i64 0, V.i .i64 0] := by kernel_rfl
theorem el_171 : elO Tryz.prog 171 = some (3, 24, [V.i .i64 0, V.i .i64 0, V.i .i64 0]) := by kernel_rfl
theorem f_171_0 : faO Tryz.prog 171 0 = some 0 := by kernel_rfl
theorem f_171_1 : faO Tryz.prog 171 1 = some 1 := by kernel_rfl
theorem f_171_2 : faO Tryz.prog 171 2 = some 2 := by kernel_rfl
theorem b_171 : bldO Tryz.prog 171 = some ([V.i .i64 0, V.i .i64 0, V.i .i64 0], [(0, 1), (1, 1), (2, 1)]) := by kernel_rfl
theorem a_172 : aggO Tryz.prog 172 = some true := by kernel_rfl
theorem s_172 : szO Tryz.prog 172 = some 3 := by kernel_rfl
theorem z_172 : zcO Tryz.prog 172 = some [V.i .i64 0, V.i .i64 0, V.i .i64 0] := by kernel_rfl
theorem el_172 : elO Tryz.prog 172 = some (3, 24, [V.i .i64 0, V.i .i64 0, V.i .i64 0]) := by kernel_rfl
theorem f_172_0 : faO Tryz.prog 172 0 = some 0 := by kernel_rfl
theorem f_172_1 : faO Tryz.prog 172 1 = some 1 := by kernel_rfl
theorem f_172_2 : faO Tryz.prog 172 2 = some 2 := by kernel_rfl
theorem b_172 : bldO Tryz.prog 172 = some ([V.i .i64 0, V.i .i64 0, V.i .i64 0], [(0, 1), (1, 1), (2, 1)]) := by kernel_rfl
theorem a_173 : aggO Tryz.prog 173 = some false := by kernel_rfl
theorem s_173 : szO Tryz.prog 173 = some 1 := by kernel_rfl
theorem z_173 : zcO Tryz.prog 173 = some [V.nf] := by kernel_rfl
theorem el_173 : elO Tryz.prog 173 = some (1, 8, [V.nf]) := by kernel_rfl
theorem a_174 : aggO Tryz.prog 174 = some false := by kernel_rfl
theorem s_174 : szO Tryz.prog 174 = some 1 := by kernel_rfl
theorem z_174 : zcO Tryz.prog 174 = some [V.sn] := by kernel_rfl
theorem el_174 : elO Tryz.prog 174 = some (1, 24, [V.sn]) := by kernel_rfl
theorem sl_174 : slO Tryz.prog 174 = some 9 := by kernel_rfl
theorem e_174 : seO Tryz.prog 174 = some 1 := by kernel_rfl
theorem a_175 : aggO Tryz.prog 175 = some false := by kernel_rfl
theorem s_175 : szO Tryz.prog 175 = some 1 := by kernel_rfl
theorem z_175 : zcO Tryz.prog 175 = some [V.nf] := by kernel_rfl
theorem el_175 : elO Tryz.prog 175 = some (1, 8, [V.nf]) := by kernel_rfl
theorem a_176 : aggO Tryz.prog 176 = some false := by kernel_rfl
theorem s_176 : szO Tryz.prog 176 = some 1 := by kernel_rfl
theorem z_176 : zcO Tryz.prog 176 = some [V.nf] := by kernel_rfl
theorem el_176 : elO Tryz.prog 176 = some (1, 8, [V.nf]) := by kernel_rfl
theorem a_177 : aggO Tryz.prog 177 = some false := by kernel_rfl
theorem s_177 : szO Tryz.prog 177 = some 1 := by kernel_rfl
theorem z_177 : zcO Tryz.prog 177 = some [V.p0] := by kernel_rfl
theorem el_177 : elO Tryz.prog 177 = some (1, 8, [V.p0]) := by kernel_rfl
theorem a_179 : aggO Tryz.prog 179 = some false := by kernel_rfl
theorem s_179 : szO Tryz.prog 179 = some 1 := by kernel_rfl
theorem z_179 : zcO Tryz.prog 179 = some [V.nf] := by kernel_rfl
theorem el_179 : elO Tryz.prog 179 = some (1, 8, [V.nf]) := by kernel_rfl
theorem a_180 : aggO Tryz.prog 180 = some false := by kernel_rfl
theorem s_180 : szO Tryz.prog 180 = some 1 := by kernel_rfl
theorem z_180 : zcO Tryz.prog 180 = some [V.p0] := by kernel_rfl
theorem el_180 : elO Tryz.prog 180 = some (1, 8, [V.p0]) := by kernel_rfl
theorem a_181 : aggO Tryz.prog 181 = some false := by kernel_rfl
theorem s_181 : szO Tryz.prog 181 = some 1 := by kernel_rfl
theorem z_181 : zcO Tryz.prog 181 = some [V.sn] := by kernel_rfl
theorem el_181 : elO Tryz.prog 181 = some (1, 24, [V.sn]) := by kernel_rfl
theorem sl_181 : slO Tryz.prog 181 = some 5 := by kernel_rfl
theorem e_181 : seO Tryz.prog 181 = some 1 := by kernel_rfl
theorem a_182 : aggO Tryz.prog 182 = some true := by kernel_rfl
theorem s_182 : szO Tryz.prog 182 = some 2 := by kernel_rfl
theorem z_182 : zcO Tryz.prog 182 = some [V.p0, V.sn] := by kernel_rfl
theorem el_182 : elO Tryz.prog 182 = some (2, 32, [V.p0, V.sn]) := by kernel_rfl
theorem f_182_0 : faO Tryz.prog 182 0 = some 0 := by kernel_rfl
theorem f_182_1 : faO Tryz.prog 182 1 = some 1 := by kernel_rfl
theorem b_182 : bldO Tryz.prog 182 = some ([V.p0, V.sn], [(0, 1), (1, 1)]) := by kernel_rfl
theorem a_183 : aggO Tryz.prog 183 = some true := by kernel_rfl
theorem s_183 : szO Tryz.prog 183 = some 2 := by kernel_rfl
theorem z_183 : zcO Tryz.prog 183 = some [V.p0, V.sn] := by kernel_rfl
theorem el_183 : elO Tryz.prog 183 = some (2, 32, [V.p0, V.sn]) := by kernel_rfl
theorem f_183_0 : faO Tryz.prog 183 0 = some 0 := by kernel_rfl
theorem f_183_1 : faO Tryz.prog 183 1 = some 1 := by kernel_rfl
theorem b_183 : bldO Tryz.prog 183 = some ([V.p0, V.sn], [(0, 1), (1, 1)]) := by kernel_rfl
theorem a_184 : aggO Tryz.prog 184 = some false := by kernel_rfl
theorem s_184 : szO Tryz.prog 184 = some 1 := by kernel_rfl
theorem z_184 : zcO Tryz.prog 184 = some [V.ni] := by kernel_rfl
theorem el_184 : elO Tryz.prog 184 = some (1, 16, [V.ni]) := by kernel_rfl
theorem a_185 : aggO Tryz.prog 185 = some false := by kernel_rfl
theorem s_185 : szO Tryz.prog 185 = some 1 := by kernel_rfl
theorem z_185 : zcO Tryz.prog 185 = some [V.ni] := by kernel_rfl
theorem el_185 : elO Tryz.prog 185 = some (1, 16, [V.ni]) := by kernel_rfl
theorem a_187 : aggO Tryz.prog 187 = some false := by kernel_rfl
theorem s_187 : szO Tryz.prog 187 = some 1 := by kernel_rfl
theorem z_187 : zcO Tryz.prog 187 = some [V.nf] := by kernel_rfl
theorem el_187 : elO Tryz.prog 187 = some (1, 8, [V.nf]) := by kernel_rfl
theorem a_188 : aggO Tryz.prog 188 = some false := by kernel_rfl
theorem s_188 : szO Tryz.prog 188 = some 1 := by kernel_rfl
theorem z_188 : zcO Tryz.prog 188 = some [V.nf] := by kernel_rfl
theorem el_188 : elO Tryz.prog 188 = some (1, 8, [V.nf]) := by kernel_rfl
theorem a_189 : aggO Tryz.prog 189 = some false := by kernel_rfl
theorem s_189 : szO Tryz.prog 189 = some 1 := by kernel_rfl
theorem z_189 : zcO Tryz.prog 189 = some [V.nf] := by kernel_rfl
theorem el_189 : elO Tryz.prog 189 = some (1, 8, [V.nf]) := by kernel_rfl
theorem a_190 : aggO Tryz.prog 190 = some false := by kernel_rfl
theorem s_190 : szO Tryz.prog 190 = some 1 := by kernel_rfl
theorem z_190 : zcO Tryz.prog 190 = some [V.nf] := by kernel_rfl
theorem el_190 : elO Tryz.prog 190 = some (1, 8, [V.nf]) := by kernel_rfl
theorem a_191 : aggO Tryz.prog 191 = some false := by kernel_rfl
theorem s_191 : szO Tryz.prog 191 = some 1 := by kernel_rfl
theorem z_191 : zcO Tryz.prog 191 = some [V.nf] := by kernel_rfl
theorem el_191 : elO Tryz.prog 191 = some (1, 8, [V.nf]) := by kernel_rfl
theorem a_192 : aggO Tryz.prog 192 = some false := by kernel_rfl
theorem s_192 : szO Tryz.prog 192 = some 1 := by kernel_rfl
theorem z_192 : zcO Tryz.prog 192 = some [V.nf] := by kernel_rfl
theorem el_192 : elO Tryz.prog 192 = some (1, 8, [V.nf]) := by kernel_rfl
theorem a_193 : aggO Tryz.prog 193 = some false := by kernel_rfl
theorem s_193 : szO Tryz.prog 193 = some 1 := by kernel_rfl
theorem z_193 : zcO Tryz.prog 193 = some [V.nf] := by kernel_rfl
theorem el_193 : elO Tryz.prog 193 = some (1, 8, [V.nf]) := by kernel_rfl
theorem a_194 : aggO Tryz.prog 194 = some false := by kernel_rfl
theorem s_194 : szO Tryz.prog 194 = some 1 := by kernel_rfl
theorem z_194 : zcO Tryz.prog 194 = some [V.nf] := by kernel_rfl
theorem el_194 : elO Tryz.prog 194 = some (1, 8, [V.nf]) := by kernel_rfl
theorem a_195 : aggO Tryz.prog 195 = some false := by kernel_rfl
theorem s_195 : szO Tryz.prog 195 = some 1 := by kernel_rfl
theorem z_195 : zcO Tryz.prog 195 = some [V.nf] := by kernel_rfl
theorem el_195 : elO Tryz.prog 195 = some (1, 8, [V.nf]) := by kernel_rfl
theorem a_196 : aggO Tryz.prog 196 = some false := by kernel_rfl
theorem s_196 : szO Tryz.prog 196 = some 1 := by kernel_rfl
theorem z_196 : zcO Tryz.prog 196 = some [V.nf] := by kernel_rfl
theorem el_196 : elO Tryz.prog 196 = some (1, 8, [V.nf]) := by kernel_rfl
theorem a_197 : aggO Tryz.prog 197 = some false := by kernel_rfl
theorem s_197 : szO Tryz.prog 197 = some 1 := by kernel_rfl
theorem z_197 : zcO Tryz.prog 197 = some [V.p0] := by kernel_rfl
theorem el_197 : elO Tryz.prog 197 = some (1, 8, [V.p0]) := by kernel_rfl
theorem a_198 : aggO Tryz.prog 198 = some false := by kernel_rfl
theorem s_198 : szO Tryz.prog 198 = some 1 := by kernel_rfl
theorem z_198 : zcO Tryz.prog 198 = some [V.nf] := by kernel_rfl
theorem el_198 : elO Tryz.prog 198 = some (1, 8, [V.nf]) := by kernel_rfl
theorem a_199 : aggO Tryz.prog 199 = some false := by kernel_rfl
theorem s_199 : szO Tryz.prog 199 = some 1 := by kernel_rfl
theorem z_199 : zcO Tryz.prog 199 = some [V.nf] := by kernel_rfl
theorem el_199 : elO Tryz.prog 199 = some (1, 8, [V.nf]) := by kernel_rfl
theorem a_200 : aggO Tryz.prog 200 = some false := by kernel_rfl
theorem s_200 : szO Tryz.prog 200 = some 1 := by kernel_rfl
theorem z_200 : zcO Tryz.prog 200 = some [V.nf] := by kernel_rfl
theorem el_200 : elO Tryz.prog 200 = some (1, 8, [V.nf]) := by kernel_rfl
theorem a_201 : aggO Tryz.prog 201 = some false := by kernel_rfl
theorem s_201 : szO Tryz.prog 201 = some 1 := by kernel_rfl
theorem z_201 : zcO Tryz.prog 201 = some [V.nf] := by kernel_rfl
theorem el_201 : elO Tryz.prog 201 = some (1, 8, [V.nf]) := by kernel_rfl
theorem a_202 : aggO Tryz.prog 202 = some false := by kernel_rfl
theorem s_202 : szO Tryz.prog 202 = some 1 := by kernel_rfl
theorem z_202 : zcO Tryz.prog 202 = some [V.nf] := by kernel_rfl
theorem el_202 : elO Tryz.prog 202 = some (1, 8, [V.nf]) := by kernel_rfl
theorem a_203 : aggO Tryz.prog 203 = some false := by kernel_rfl
theorem s_203 : szO Tryz.prog 203 = some 1 := by kernel_rfl
theorem z_203 : zcO Tryz.prog 203 = some [V.nf] := by kernel_rfl
theorem el_203 : elO Tryz.prog 203 = some (1, 8, [V.nf]) := by kernel_rfl
theorem a_204 : aggO Tryz.prog 204 = some false := by kernel_rfl
theorem s_204 : szO Tryz.prog 204 = some 1 := by kernel_rfl
theorem z_204 : zcO Tryz.prog 204 = some [V.nf] := by kernel_rfl
theorem el_204 : elO Tryz.prog 204 = some (1, 8, [V.nf]) := by kernel_rfl
theorem a_205 : aggO Tryz.prog 205 = some false := by kernel_rfl
theorem s_205 : szO Tryz.prog 205 = some 1 := by kernel_rfl
theorem z_205 : zcO Tryz.prog 205 = some [V.nf] := by kernel_rfl
theorem el_205 : elO Tryz.prog 205 = some (1, 8, [V.nf]) := by kernel_rfl
theorem a_206 : aggO Tryz.prog 206 = some false := by kernel_rfl
theorem s_206 : szO Tryz.prog 206 = some 1 := by kernel_rfl
theorem z_206 : zcO Tryz.prog 206 = some [V.nf] := by kernel_rfl
theorem el_206 : elO Tryz.prog 206 = some (1, 8, [V.nf]) := by kernel_rfl
theorem a_207 : aggO Tryz.prog 207 = some false := by kernel_rfl
theorem s_207 : szO Tryz.prog 207 = some 1 := by kernel_rfl
theorem z_207 : zcO Tryz.prog 207 = some [V.nf] := by kernel_rfl
theorem el_207 : elO Tryz.prog 207 = some (1, 8, [V.nf]) := by kernel_rfl
theorem a_208 : aggO Tryz.prog 208 = some false := by kernel_rfl
theorem s_208 : szO Tryz.prog 208 = some 1 := by kernel_rfl
theorem z_208 : zcO Tryz.prog 208 = some [V.nf] := by kernel_rfl
theorem el_208 : elO Tryz.prog 208 = some (1, 8, [V.nf]) := by kernel_rfl
theorem a_210 : aggO Tryz.prog 210 = some false := by kernel_rfl
theorem s_210 : szO Tryz.prog 210 = some 1 := by kernel_rfl
theorem z_210 : zcO Tryz.prog 210 = some [V.nf] := by kernel_rfl
theorem el_210 : elO Tryz.prog 210 = some (1, 8, [V.nf]) := by kernel_rfl
theorem a_211 : aggO Tryz.prog 211 = some false := by kernel_rfl
theorem s_211 : szO Tryz.prog 211 = some 1 := by kernel_rfl
theorem z_211 : zcO Tryz.prog 211 = some [V.p0] := by kernel_rfl
theorem el_211 : elO Tryz.prog 211 = some (1, 8, [V.p0]) := by kernel_rfl
theorem a_212 : aggO Tryz.prog 212 = some false := by kernel_rfl
theorem s_212 : szO Tryz.prog 212 = some 1 := by kernel_rfl
theorem z_212 : zcO Tryz.prog 212 = some [V.nf] := by kernel_rfl
theorem el_212 : elO Tryz.prog 212 = some (1, 8, [V.nf]) := by kernel_rfl
theorem a_214 : aggO Tryz.prog 214 = some false := by kernel_rfl
theorem s_214 : szO Tryz.prog 214 = some 1 := by kernel_rfl
theorem z_214 : zcO Tryz.prog 214 = some [V.nf] := by kernel_rfl
theorem el_214 : elO Tryz.prog 214 = some (1, 8, [V.nf]) := by kernel_rfl
theorem a_215 : aggO Tryz.prog 215 = some false := by kernel_rfl
theorem s_215 : szO Tryz.prog 215 = some 1 := by kernel_rfl
theorem z_215 : zcO Tryz.prog 215 = some [V.p0] := by kernel_rfl
theorem el_215 : elO Tryz.prog 215 = some (1, 8, [V.p0]) := by kernel_rfl
theorem a_217 : aggO Tryz.prog 217 = some false := by kernel_rfl
theorem s_217 : szO Tryz.prog 217 = some 1 := by kernel_rfl
theorem z_217 : zcO Tryz.prog 217 = some [V.nf] := by kernel_rfl
theorem el_217 : elO Tryz.prog 217 = some (1, 8, [V.nf]) := by kernel_rfl
theorem a_219 : aggO Tryz.prog 219 = some false := by kernel_rfl
theorem s_219 : szO Tryz.prog 219 = some 1 := by kernel_rfl
theorem z_219 : zcO Tryz.prog 219 = some [V.nf] := by kernel_rfl
theorem el_219 : elO Tryz.prog 219 = some (1, 8, [V.nf]) := by kernel_rfl
theorem a_220 : aggO Tryz.prog 220 = some false := by kernel_rfl
theorem s_220 : szO Tryz.prog 220 = some 1 := by kernel_rfl
theorem z_220 : zcO Tryz.prog 220 = some [V.nf] := by kernel_rfl
theorem el_220 : elO Tryz.prog 220 = some (1, 8, [V.nf]) := by kernel_rfl
theorem a_221 : aggO Tryz.prog 221 = some false := by kernel_rfl
theorem s_221 : szO Tryz.prog 221 = some 1 := by kernel_rfl
theorem z_221 : zcO Tryz.prog 221 = some [V.p0] := by kernel_rfl
theorem el_221 : elO Tryz.prog 221 = some (1, 8, [V.p0]) := by kernel_rfl
theorem a_222 : aggO Tryz.prog 222 = some false := by kernel_rfl
theorem s_222 : szO Tryz.prog 222 = some 1 := by kernel_rfl
theorem z_222 : zcO Tryz.prog 222 = some [V.nf] := by kernel_rfl
theorem el_222 : elO Tryz.prog 222 = some (1, 8, [V.nf]) := by kernel_rfl
theorem a_223 : aggO Tryz.prog 223 = some false := by kernel_rfl
theorem s_223 : szO Tryz.prog 223 = some 1 := by kernel_rfl
theorem z_223 : zcO Tryz.prog 223 = some [V.i .u64 0] := by kernel_rfl
theorem el_223 : elO Tryz.prog 223 = some (1, 8, [V.i .u64 0]) := by kernel_rfl
theorem a_224 : aggO Tryz.prog 224 = some false := by kernel_rfl
theorem s_224 : szO Tryz.prog 224 = some 1 := by kernel_rfl
theorem z_224 : zcO Tryz.prog 224 = some [V.nf] := by kernel_rfl
theorem el_224 : elO Tryz.prog 224 = some (1, 8, [V.nf]) := by kernel_rfl
theorem a_225 : aggO Tryz.prog 225 = some false := by kernel_rfl
theorem s_225 : szO Tryz.prog 225 = some 1 := by kernel_rfl
theorem z_225 : zcO Tryz.prog 225 = some [V.nf] := by kernel_rfl
theorem el_225 : elO Tryz.prog 225 = some (1, 8, [V.nf]) := by kernel_rfl
theorem a_226 : aggO Tryz.prog 226 = some false := by kernel_rfl
theorem s_226 : szO Tryz.prog 226 = some 1 := by kernel_rfl
theorem z_226 : zcO Tryz.prog 226 = some [V.nf] := by kernel_rfl
theorem el_226 : elO Tryz.prog 226 = some (1, 8, [V.nf]) := by kernel_rfl
theorem a_227 : aggO Tryz.prog 227 = some false := by kernel_rfl
theorem s_227 : szO Tryz.prog 227 = some 1 := by kernel_rfl
theorem z_227 : zcO Tryz.prog 227 = some [V.nf] := by kernel_rfl
theorem el_227 : elO Tryz.prog 227 = some (1, 8, [V.nf]) := by kernel_rfl
theorem a_228 : aggO Tryz.prog 228 = some false := by kernel_rfl
theorem s_228 : szO Tryz.prog 228 = some 1 := by kernel_rfl
theorem z_228 : zcO Tryz.prog 228 = some [V.nf] := by kernel_rfl
theorem el_228 : elO Tryz.prog 228 = some (1, 8, [V.nf]) := by kernel_rfl
theorem a_229 : aggO Tryz.prog 229 = some false := by kernel_rfl
theorem s_229 : szO Tryz.prog 229 = some 1 := by kernel_rfl
theorem z_229 : zcO Tryz.prog 229 = some [V.nf] := by kernel_rfl
theorem el_229 : elO Tryz.prog 229 = some (1, 8, [V.nf]) := by kernel_rfl
theorem a_230 : aggO Tryz.prog 230 = some true := by kernel_rfl
theorem s_230 : szO Tryz.prog 230 = some 6 := by kernel_rfl
theorem z_230 : zcO Tryz.prog 230 = some [V.i .i64 0, V.i .i64 0, V.i .i64 0, V.i .i64 0, V.i .i64 0, V.i .i64 0] := by kernel_rfl
theorem el_230 : elO Tryz.prog 230 = some (6, 48, [V.i .i64 0, V.i .i64 0, V.i .i64 0, V.i .i64 0, V.i .i64 0, V.i .i64 0]) := by kernel_rfl
theorem f_230_0 : faO Tryz.prog 230 0 = some 0 := by kernel_rfl
theorem f_230_1 : faO Tryz.prog 230 1 = some 1 := by kernel_rfl
theorem f_230_2 : faO Tryz.prog 230 2 = some 2 := by kernel_rfl
theorem f_230_3 : faO Tryz.prog 230 3 = some 3 := by kernel_rfl
theorem f_230_4 : faO Tryz.prog 230 4 = some 4 := by kernel_rfl
theorem b_230 : bldO Tryz.prog 230 = some ([V.i .i64 0, V.i .i64 0, V.i .i64 0, V.i .i64 0, V.i .i64 0, V.i .i64 0], [(0, 1), (1, 1), (2, 1), (3, 1), (4, 2)]) := by kernel_rfl
theorem a_231 : aggO Tryz.prog 231 = some true := by kernel_rfl
theorem s_231 : szO Tryz.prog 231 = some 3 := by kernel_rfl
theorem z_231 : zcO Tryz.prog 231 = some [V.nf, V.nf, V.nf] := by kernel_rfl
theorem el_231 : elO Tryz.prog 231 = some (3, 24, [V.nf, V.nf, V.nf]) := by kernel_rfl
theorem ar_231 : arO Tryz.prog 231 = some (3, 229) := by kernel_rfl
theorem ae_231 : aeO Tryz.prog 231 = some (3, 1) := by kernel_rfl
theorem b_231 : bldO Tryz.prog 231 = some ([V.nf, V.nf, V.nf], [(0, 1), (1, 1), (2, 1)]) := by kernel_rfl
theorem a_232 : aggO Tryz.prog 232 = some true := by kernel_rfl
theorem s_232 : szO Tryz.prog 232 = some 6 := by kernel_rfl
theorem z_232 : zcO Tryz.prog 232 = some [V.b false, V.b false, V.b false, V.b false, V.b false, V.b false] := by kernel_rfl
theorem el_232 : elO Tryz.prog 232 = some (6, 6, [V.b false, V.b false, V.b false, V.b false, V.b false, V.b false]) := by kernel_rfl
theorem ar_232 : arO Tryz.prog 232 = some (6, 4) := by kernel_rfl
theorem ae_232 : aeO Tryz.prog 232 = some (6, 1) := by kernel_rfl
theorem b_232 : bldO Tryz.prog 232 = some ([V.b false, V.b false, V.b false, V.b false, V.b false, V.b false], [(0, 1), (1, 1), (2, 1), (3, 1), (4, 1), (5, 1)]) := by kernel_rfl
theorem a_233 : aggO Tryz.prog 233 = some false := by kernel_rfl
theorem s_233 : szO Tryz.prog 233 = some 1 := by kernel_rfl
theorem z_233 : zcO Tryz.prog 233 = some [V.nf] := by kernel_rfl
theorem el_233 : elO Tryz.prog 233 = some (1, 8, [V.nf]) := by kernel_rfl
theorem a_234 : aggO Tryz.prog 234 = some false := by kernel_rfl
theorem s_234 : szO Tryz.prog 234 = some 1 := by kernel_rfl
theorem z_234 : zcO Tryz.prog 234 = some [V.nf] := by kernel_rfl
theorem el_234 : elO Tryz.prog 234 = some (1, 8, [V.nf]) := by kernel_rfl
theorem a_235 : aggO Tryz.prog 235 = some false := by kernel_rfl
theorem s_235 : szO Tryz.prog 235 = some 1 := by kernel_rfl
theorem z_235 : zcO Tryz.prog 235 = some [V.nf] := by kernel_rfl
theorem el_235 : elO Tryz.prog 235 = some (1, 8, [V.nf]) := by kernel_rfl
theorem a_236 : aggO Tryz.prog 236 = some false := by kernel_rfl
theorem s_236 : szO Tryz.prog 236 = some 1 := by kernel_rfl
theorem z_236 : zcO Tryz.prog 236 = some [V.nf] := by kernel_rfl
theorem el_236 : elO Tryz.prog 236 = some (1, 8, [V.nf]) := by kernel_rfl
theorem a_237 : aggO Tryz.prog 237 = some false := by kernel_rfl
theorem s_237 : szO Tryz.prog 237 = some 1 := by kernel_rfl
theorem z_237 : zcO Tryz.prog 237 = some [V.nf] := by kernel_rfl
theorem el_237 : elO Tryz.prog 237 = some (1, 8, [V.nf]) := by kernel_rfl
theorem a_238 : aggO Tryz.prog 238 = some false := by kernel_rfl
theorem s_238 : szO Tryz.prog 238 = some 1 := by kernel_rfl
theorem z_238 : zcO Tryz.prog 238 = some [V.nf] := by kernel_rfl
theorem el_238 : elO Tryz.prog 238 = some (1, 8, [V.nf]) := by kernel_rfl
theorem a_240 : aggO Tryz.prog 240 = some false := by kernel_rfl
theorem s_240 : szO Tryz.prog 240 = some 1 := by kernel_rfl
theorem z_240 : zcO Tryz.prog 240 = some [V.nf] := by kernel_rfl
theorem el_240 : elO Tryz.prog 240 = some (1, 8, [V.nf]) := by kernel_rfl
theorem a_241 : aggO Tryz.prog 241 = some false := by kernel_rfl
theorem s_241 : szO Tryz.prog 241 = some 1 := by kernel_rfl
theorem z_241 : zcO Tryz.prog 241 = some [V.nf] := by kernel_rfl
theorem el_241 : elO Tryz.prog 241 = some (1, 8, [V.nf]) := by kernel_rfl
theorem a_242 : aggO Tryz.prog 242 = some false := by kernel_rfl
theorem s_242 : szO Tryz.prog 242 = some 1 := by kernel_rfl
theorem z_242 : zcO Tryz.prog 242 = some [V.nf] := by kernel_rfl
theorem el_242 : elO Tryz.prog 242 = some (1, 8, [V.nf]) := by kernel_rfl
theorem a_243 : aggO Tryz.prog 243 = some false := by kernel_rfl
theorem s_243 : szO Tryz.prog 243 = some 1 := by kernel_rfl
theorem z_243 : zcO Tryz.prog 243 = some [V.nf] := by kernel_rfl
theorem el_243 : elO Tryz.prog 243 = some (1, 8, [V.nf]) := by kernel_rfl
theorem a_244 : aggO Tryz.prog 244 = some false := by kernel_rfl
theorem s_244 : szO Tryz.prog 244 = some 1 := by kernel_rfl
theorem z_244 : zcO Tryz.prog 244 = some [V.nf] := by kernel_rfl
theorem el_244 : elO Tryz.prog 244 = some (1, 8, [V.nf]) := by kernel_rfl
theorem a_245 : aggO Tryz.prog 245 = some false := by kernel_rfl
theorem s_245 : szO Tryz.prog 245 = some 1 := by kernel_rfl
theorem z_245 : zcO Tryz.prog 245 = some [V.nf] := by kernel_rfl
theorem el_245 : elO Tryz.prog 245 = some (1, 8, [V.nf]) := by kernel_rfl
theorem a_246 : aggO Tryz.prog 246 = some false := by kernel_rfl
theorem s_246 : szO Tryz.prog 246 = some 1 := by kernel_rfl
theorem z_246 : zcO Tryz.prog 246 = some [V.nf] := by kernel_rfl
theorem el_246 : elO Tryz.prog 246 = some (1, 8, [V.nf]) := by kernel_rfl
theorem a_247 : aggO Tryz.prog 247 = some false := by kernel_rfl
theorem s_247 : szO Tryz.prog 247 = some 1 := by kernel_rfl
theorem z_247 : zcO Tryz.prog 247 = some [V.nf] := by kernel_rfl
theorem el_247 : elO Tryz.prog 247 = some (1, 8, [V.nf]) := by kernel_rfl
theorem a_248 : aggO Tryz.prog 248 = some true := by kernel_rfl
theorem s_248 : szO Tryz.prog 248 = some 24 := by kernel_rfl
theorem z_248 : zcO Tryz.prog 248 = some [V.i .u8 0, V.i .u8 0, V.i .u8 0, V.i .u8 0, V.i .u8 0, V.i .u8 0, V.i .u8 0, V.i .u8 0, V.i .u8 0, V.i .u8 0, V.i .u8 0, V.i .u8 0, V.i .u8 0, V.i .u8 0, V.i .u8 0, V.i .u8 0, V.i .u8 0, V.i .u8 0, V.i .u8 0, V.i .u8 0, V.i .u8 0, V.i .u8 0, V.i .u8 0, V.i .u8 0] := by kernel_rfl
theorem el_248 : elO Tryz.prog 248 = some (24, 24, [V.i .u8 0, V.i .u8 0, V.i .u8 0, V.i .u8 0, V.i .u8 0, V.i .u8 0, V.i .u8 0, V.i .u8 0, V.i .u8 0, V.i .u8 0, V.i .u8 0, V.i .u8 0, V.i .u8 0, V.i .u8 0, V.i .u8 0, V.i .u8 0, V.i .u8 0, V.i .u8 0, V.i .u8 0, V.i .u8 0, V.i .u8 0, V.i .u8 0, V.i .u8 0, V.i .u8 0]) := by kernel_rfl
theorem ar_248 : arO Tryz.prog 248 = some (24, 5) := by kernel_rfl
theorem ae_248 : aeO Tryz.prog 248 = some (24, 1) := by kernel_rfl
theorem b_248 : bldO Tryz.prog 248 = some ([V.i .u8 0, V.i .u8 0, V.i .u8 0, V.i .u8 0, V.i .u8 0, V.i .u8 0, V.i .u8 0, V.i .u8 0, V.i .u8 0, V.i .u8 0, V.i .u8 0, V.i .u8 0, V.i .u8 0, V.i .u8 0, V.i .u8 0, V.i .u8 0, V.i .u8 0, V.i .u8 0, V.i .u8 0, V.i .u8 0, V.i .u8 0, V.i .u8 0, V.i .u8 0, V.i .u8 0], [(0, 1), (1, 1), (2, 1), (3, 1), (4, 1), (5, 1), (6, 1), (7, 1), (8, 1), (9, 1), (10, 1), (11, 1), (12, 1), (13, 1), (14, 1), (15, 1), (16, 1), (17, 1), (18, 1), (19, 1), (20, 1), (21, 1), (22, 1), (23, 1)]) := by kernel_rfl
theorem a_249 : aggO Tryz.prog 249 = some false := by kernel_rfl
theorem s_249 : szO Tryz.prog 249 = some 1 := by kernel_rfl
theorem z_249 : zcO Tryz.prog 249 = some [V.nf] := by kernel_rfl
theorem el_249 : elO Tryz.prog 249 = some (1, 8, [V.nf]) := by kernel_rfl
theorem a_250 : aggO Tryz.prog 250 = some false := by kernel_rfl
theorem s_250 : szO Tryz.prog 250 = some 1 := by kernel_rfl
theorem z_250 : zcO Tryz.prog 250 = some [V.nf] := by kernel_rfl
theorem el_250 : elO Tryz.prog 250 = some (1, 8, [V.nf]) := by kernel_rfl
theorem a_252 : aggO Tryz.prog 252 = some false := by kernel_rfl
theorem s_252 : szO Tryz.prog 252 = some 1 := by kernel_rfl
theorem z_252 : zcO Tryz.prog 252 = some [V.nf] := by kernel_rfl
theorem el_252 : elO Tryz.prog 252 = some (1, 8, [V.nf]) := by kernel_rfl
theorem a_253 : aggO Tryz.prog 253 = some false := by kernel_rfl
theorem s_253 : szO Tryz.prog 253 = some 1 := by kernel_rfl
theorem z_253 : zcO Tryz.prog 253 = some [V.nf] := by kernel_rfl
theorem el_253 : elO Tryz.prog 253 = some (1, 8, [V.nf]) := by kernel_rfl
theorem a_255 : aggO Tryz.prog 255 = some false := by kernel_rfl
theorem s_255 : szO Tryz.prog 255 = some 1 := by kernel_rfl
theorem z_255 : zcO Tryz.prog 255 = some [V.nf] := by kernel_rfl
theorem el_255 : elO Tryz.prog 255 = some (1, 8, [V.nf]) := by kernel_rfl
theorem a_256 : aggO Tryz.prog 256 = some false := by kernel_rfl
theorem s_256 : szO Tryz.prog 256 = some 1 := by kernel_rfl
theorem z_256 : zcO Tryz.prog 256 = some [V.nf] := by kernel_rfl
theorem el_256 : elO Tryz.prog 256 = some (1, 8, [V.nf]) := by kernel_rfl
theorem a_257 : aggO Tryz.prog 257 = some false := by kernel_rfl
theorem s_257 : szO Tryz.prog 257 = some 1 := by kernel_rfl
theorem z_257 : zcO Tryz.prog 257 = some [V.nf] := by kernel_rfl
theorem el_257 : elO Tryz.prog 257 = some (1, 8, [V.nf]) := by kernel_rfl
theorem a_258 : aggO Tryz.prog 258 = some false := by kernel_rfl
theorem s_258 : szO Tryz.prog 258 = some 1 := by kernel_rfl
theorem z_258 : zcO Tryz.prog 258 = some [V.nf] := by kernel_rfl
theorem el_258 : elO Tryz.prog 258 = some (1, 8, [V.nf]) := by kernel_rfl
theorem a_259 : aggO Tryz.prog 259 = some true := by kernel_rfl
theorem s_259 : szO Tryz.prog 259 = some 20 := by kernel_rfl
theorem z_259 : zcO Tryz.prog 259 = some [V.i .u64 0, V.i .u64 0, V.i .u64 0, V.i .u64 0, V.i .u64 0, V.i .u64 0, V.i .u64 0, V.i .u64 0, V.i .u64 0, V.i .u64 0, V.i .u64 0, V.i .u64 0, V.i .u64 0, V.i .u64 0, V.i .u64 0, V.i .u64 0, V.i .u64 0, V.i .u64 0, V.i .u64 0, V.i .u64 0] := by kernel_rfl
theorem el_259 : elO Tryz.prog 259 = some (20, 160, [V.i .u64 0, V.i .u64 0, V.i .u64 0, V.i .u64 0, V.i .u64 0, V.i .u64 0, V.i .u64 0, V.i .u64 0, V.i .u64 0, V.i .u64 0, V.i .u64 0, V.i .u64 0, V.i .u64 0, V.i .u64 0, V.i .u64 0, V.i .u64 0, V.i .u64 0, V.i .u64 0, V.i .u64 0, V.i .u64 0]) := by kernel_rfl
theorem ar_259 : arO Tryz.prog 259 = some (20, 223) := by kernel_rfl
theorem ae_259 : aeO Tryz.prog 259 = some (20, 1) := by kernel_rfl
theorem b_259 : bldO Tryz.prog 259 = some ([V.i .u64 0, V.i .u64 0, V.i .u64 0, V.i .u64 0, V.i .u64 0, V.i .u64 0, V.i .u64 0, V.i .u64 0, V.i .u64 0, V.i .u64 0, V.i .u64 0, V.i .u64 0, V.i .u64 0, V.i .u64 0, V.i .u64 0, V.i .u64 0, V.i .u64 0, V.i .u64 0, V.i .u64 0, V.i .u64 0], [(0, 1), (1, 1), (2, 1), (3, 1), (4, 1), (5, 1), (6, 1), (7, 1), (8, 1), (9, 1), (10, 1), (11, 1), (12, 1), (13, 1), (14, 1), (15, 1), (16, 1), (17, 1), (18, 1), (19, 1)]) := by kernel_rfl
theorem a_260 : aggO Tryz.prog 260 = some false := by kernel_rfl
theorem s_260 : szO Tryz.prog 260 = some 1 := by kernel_rfl
theorem z_260 : zcO Tryz.prog 260 = some [V.i .u32 0] := by kernel_rfl
theorem el_260 : elO Tryz.prog 260 = some (1, 4, [V.i .u32 0]) := by kernel_rfl
theorem a_261 : aggO Tryz.prog 261 = some true := by kernel_rfl
theorem s_261 : szO Tryz.prog 261 = some 65 := by kernel_rfl
theorem ar_261 : arO Tryz.prog 261 = some (65, 5) := by kernel_rfl
theorem ae_261 : aeO Tryz.prog 261 = some (65, 1) := by kernel_rfl
theorem a_262 : aggO Tryz.prog 262 = some false := by kernel_rfl
theorem s_262 : szO Tryz.prog 262 = some 1 := by kernel_rfl
theorem z_262 : zcO Tryz.prog 262 = some [V.i .u64 0] := by kernel_rfl
theorem el_262 : elO Tryz.prog 262 = some (1, 8, [V.i .u64 0]) := by kernel_rfl
theorem a_263 : aggO Tryz.prog 263 = some false := by kernel_rfl
theorem s_263 : szO Tryz.prog 263 = some 1 := by kernel_rfl
theorem z_263 : zcO Tryz.prog 263 = some [V.nf] := by kernel_rfl
theorem el_263 : elO Tryz.prog 263 = some (1, 8, [V.nf]) := by kernel_rfl
theorem a_264 : aggO Tryz.prog 264 = some false := by kernel_rfl
theorem s_264 : szO Tryz.prog 264 = some 1 := by kernel_rfl
theorem z_264 : zcO Tryz.prog 264 = some [V.i .i64 0] := by kernel_rfl
theorem el_264 : elO Tryz.prog 264 = some (1, 8, [V.i .i64 0]) := by kernel_rfl
theorem a_266 : aggO Tryz.prog 266 = some false := by kernel_rfl
theorem s_266 : szO Tryz.prog 266 = some 1 := by kernel_rfl
theorem z_266 : zcO Tryz.prog 266 = some [V.nf] := by kernel_rfl
theorem el_266 : elO Tryz.prog 266 = some (1, 8, [V.nf]) := by kernel_rfl
theorem a_267 : aggO Tryz.prog 267 = some false := by kernel_rfl
theorem s_267 : szO Tryz.prog 267 = some 1 := by kernel_rfl
theorem z_267 : zcO Tryz.prog 267 = some [V.p0] := by kernel_rfl
theorem el_267 : elO Tryz.prog 267 = some (1, 8, [V.p0]) := by kernel_rfl
theorem a_268 : aggO Tryz.prog 268 = some false := by kernel_rfl
theorem s_268 : szO Tryz.prog 268 = some 1 := by kernel_rfl
theorem z_268 : zcO Tryz.prog 268 = some [V.nf] := by kernel_rfl
theorem el_268 : elO Tryz.prog 268 = some (1, 8, [V.nf]) := by kernel_rfl
theorem a_269 : aggO Tryz.prog 269 = some false := by kernel_rfl
theorem s_269 : szO Tryz.prog 269 = some 1 := by kernel_rfl
theorem z_269 : zcO Tryz.prog 269 = some [V.nf] := by kernel_rfl
theorem el_269 : elO Tryz.prog 269 = some (1, 8, [V.nf]) := by kernel_rfl
theorem a_270 : aggO Tryz.prog 270 = some false := by kernel_rfl
theorem s_270 : szO Tryz.prog 270 = some 1 := by kernel_rfl
theorem z_270 : zcO Tryz.prog 270 = some [V.nf] := by kernel_rfl
theorem el_270 : elO Tryz.prog 270 = some (1, 8, [V.nf]) := by kernel_rfl
theorem a_271 : aggO Tryz.prog 271 = some true := by kernel_rfl
theorem s_271 : szO Tryz.prog 271 = some 256 := by kernel_rfl
theorem ar_271 : arO Tryz.prog 271 = some (256, 5) := by kernel_rfl
theorem ae_271 : aeO Tryz.prog 271 = some (256, 1) := by kernel_rfl
theorem a_272 : aggO Tryz.prog 272 = some true := by kernel_rfl
theorem s_272 : szO Tryz.prog 272 = some 2 := by kernel_rfl
theorem z_272 : zcO Tryz.prog 272 = some [V.i .u8 0, V.i .u8 0] := by kernel_rfl
theorem el_272 : elO Tryz.prog 272 = some (2, 2, [V.i .u8 0, V.i .u8 0]) := by kernel_rfl
theorem f_272_0 : faO Tryz.prog 272 0 = some 0 := by kernel_rfl
theorem f_272_1 : faO Tryz.prog 272 1 = some 1 := by kernel_rfl
theorem b_272 : bldO Tryz.prog 272 = some ([V.i .u8 0, V.i .u8 0], [(0, 1), (1, 1)]) := by kernel_rfl
theorem a_273 : aggO Tryz.prog 273 = some true := by kernel_rfl
theorem s_273 : szO Tryz.prog 273 = some 2 := by kernel_rfl
theorem z_273 : zcO Tryz.prog 273 = some [V.i .u8 0, V.i .u8 0] := by kernel_rfl
theorem el_273 : elO Tryz.prog 273 = some (2, 2, [V.i .u8 0, V.i .u8 0]) := by kernel_rfl
theorem f_273_0 : faO Tryz.prog 273 0 = some 0 := by kernel_rfl
theorem f_273_1 : faO Tryz.prog 273 1 = some 1 := by kernel_rfl
theorem b_273 : bldO Tryz.prog 273 = some ([V.i .u8 0, V.i .u8 0], [(0, 1), (1, 1)]) := by kernel_rfl
theorem a_274 : aggO Tryz.prog 274 = some true := by kernel_rfl
theorem s_274 : szO Tryz.prog 274 = some 32 := by kernel_rfl
theorem z_274 : zcO Tryz.prog 274 = some [V.i .u8 0, V.i .u8 0, V.i .u8 0, V.i .u8 0, V.i .u8 0, V.i .u8 0, V.i .u8 0, V.i .u8 0, V.i .u8 0, V.i .u8 0, V.i .u8 0, V.i .u8 0, V.i .u8 0, V.i .u8 0, V.i .u8 0, V.i .u8 0, V.i .u8 0, V.i .u8 0, V.i .u8 0, V.i .u8 0, V.i .u8 0, V.i .u8 0, V.i .u8 0, V.i .u8 0, V.i .u8 0, V.i .u8 0, V.i .u8 0, V.i .u8 0, V.i .u8 0, V.i .u8 0, V.i .u8 0, V.i .u8 0] := by kernel_rfl
theorem el_274 : elO Tryz.prog 274 = some (32, 32, [V.i .u8 0, V.i .u8 0, V.i .u8 0, V.i .u8 0, V.i .u8 0, V.i .u8 0, V.i .u8 0, V.i .u8 0, V.i .u8 0, V.i .u8 0, V.i .u8 0, V.i .u8 0, V.i .u8 0, V.i .u8 0, V.i .u8 0, V.i .u8 0, V.i .u8 0, V.i .u8 0, V.i .u8 0, V.i .u8 0, V.i .u8 0, V.i .u8 0, V.i .u8 0, V.i .u8 0, V.i .u8 0, V.i .u8 0, V.i .u8 0, V.i .u8 0, V.i .u8 0, V.i .u8 0, V.i .u8 0, V.i .u8 0]) := by kernel_rfl
theorem ar_274 : arO Tryz.prog 274 = some (16, 273) := by kernel_rfl
theorem ae_274 : aeO Tryz.prog 274 = some (16, 2) := by kernel_rfl
theorem b_274 : bldO Tryz.prog 274 = some ([V.i .u8 0, V.i .u8 0, V.i .u8 0, V.i .u8 0, V.i .u8 0, V.i .u8 0, V.i .u8 0, V.i .u8 0, V.i .u8 0, V.i .u8 0, V.i .u8 0, V.i .u8 0, V.i .u8 0, V.i .u8 0, V.i .u8 0, V.i .u8 0, V.i .u8 0, V.i .u8 0, V.i .u8 0, V.i .u8 0, V.i .u8 0, V.i .u8 0, V.i .u8 0, V.i .u8 0, V.i .u8 0, V.i .u8 0, V.i .u8 0, V.i .u8 0, V.i .u8 0, V.i .u8 0, V.i .u8 0, V.i .u8 0], [(0, 2), (2, 2), (4, 2), (6, 2), (8, 2), (10, 2), (12, 2), (14, 2), (16, 2), (18, 2), (20, 2), (22, 2), (24, 2), (26, 2), (28, 2), (30, 2)]) := by kernel_rfl
theorem a_276 : aggO Tryz.prog 276 = some false := by kernel_rfl
theorem s_276 : szO Tryz.prog 276 = some 1 := by kernel_rfl
theorem z_276 : zcO Tryz.prog 276 = some [V.nf] := by kernel_rfl
theorem el_276 : elO Tryz.prog 276 = some (1, 8, [V.nf]) := by kernel_rfl
theorem a_278 : aggO Tryz.prog 278 = some false := by kernel_rfl
theorem s_278 : szO Tryz.prog 278 = some 1 := by kernel_rfl
theorem z_278 : zcO Tryz.prog 278 = some [V.nf] := by kernel_rfl
theorem el_278 : elO Tryz.prog 278 = some (1, 8, [V.nf]) := by kernel_rfl
theorem a_279 : aggO Tryz.prog 279 = some false := by kernel_rfl
theorem s_279 : szO Tryz.prog 279 = some 1 := by kernel_rfl
theorem z_279 : zcO Tryz.prog 279 = some [V.nf] := by kernel_rfl
theorem el_279 : elO Tryz.prog 279 = some (1, 8, [V.nf]) := by kernel_rfl
theorem a_280 : aggO Tryz.prog 280 = some true := by kernel_rfl
theorem s_280 : szO Tryz.prog 280 = some 3 := by kernel_rfl
theorem z_280 : zcO Tryz.prog 280 = some [V.s [], V.s [], V.ni] := by kernel_rfl
theorem el_280 : elO Tryz.prog 280 = some (3, 48, [V.s [], V.s [], V.ni]) := by kernel_rfl
theorem f_280_0 : faO Tryz.prog 280 0 = some 0 := by kernel_rfl
theorem f_280_1 : faO Tryz.prog 280 1 = some 1 := by kernel_rfl
theorem f_280_2 : faO Tryz.prog 280 2 = some 2 := by kernel_rfl
theorem b_280 : bldO Tryz.prog 280 = some ([V.s [], V.s [], V.ni], [(0, 1), (1, 1), (2, 1)]) := by kernel_rfl
theorem a_281 : aggO Tryz.prog 281 = some true := by kernel_rfl
theorem s_281 : szO Tryz.prog 281 = some 3 := by kernel_rfl
theorem z_281 : zcO Tryz.prog 281 = some [V.s [], V.s [], V.ni] := by kernel_rfl
theorem el_281 : elO Tryz.prog 281 = some (3, 48, [V.s [], V.s [], V.ni]) := by kernel_rfl
theorem f_281_0 : faO Tryz.prog 281 0 = some 0 := by kernel_rfl
theorem f_281_1 : faO Tryz.prog 281 1 = some 1 := by kernel_rfl
theorem f_281_2 : faO Tryz.prog 281 2 = some 2 := by kernel_rfl
theorem b_281 : bldO Tryz.prog 281 = some ([V.s [], V.s [], V.ni], [(0, 1), (1, 1), (2, 1)]) := by kernel_rfl
theorem a_282 : aggO Tryz.prog 282 = some false := by kernel_rfl
theorem s_282 : szO Tryz.prog 282 = some 1 := by kernel_rfl
theorem z_282 : zcO Tryz.prog 282 = some [V.nf] := by kernel_rfl
theorem el_282 : elO Tryz.prog 282 = some (1, 8, [V.nf]) := by kernel_rfl
theorem a_283 : aggO Tryz.prog 283 = some true := by kernel_rfl
theorem s_283 : szO Tryz.prog 283 = some 32 := by kernel_rfl
theorem z_283 : zcO Tryz.prog 283 = some [V.i .u8 0, V.i .u8 0, V.i .u8 0, V.i .u8 0, V.i .u8 0, V.i .u8 0, V.i .u8 0, V.i .u8 0, V.i .u8 0, V.i .u8 0, V.i .u8 0, V.i .u8 0, V.i .u8 0, V.i .u8 0, V.i .u8 0, V.i .u8 0, V.i .u8 0, V.i .u8 0, V.i .u8 0, V.i .u8 0, V.i .u8 0, V.i .u8 0, V.i .u8 0, V.i .u8 0, V.i .u8 0, V.i .u8 0, V.i .u8 0, V.i .u8 0, V.i .u8 0, V.i .u8 0, V.i .u8 0, V.i .u8 0] := by kernel_rfl
theorem el_283 : elO Tryz.prog 283 = some (32, 32, [V.i .u8 0, V.i .u8 0, V.i .u8 0, V.i .u8 0, V.i .u8 0, V.i .u8 0, V.i .u8 0, V.i .u8 0, V.i .u8 0, V.i .u8 0, V.i .u8 0, V.i .u8 0, V.i .u8 0, V.i .u8 0, V.i .u8 0, V.i .u8 0, V.i .u8 0, V.i .u8 0, V.i .u8 0, V.i .u8 0, V.i .u8 0, V.i .u8 0, V.i .u8 0, V.i .u8 0, V.i .u8 0, V.i .u8 0, V.i .u8 0, V.i .u8 0, V.i .u8 0, V.i .u8 0, V.i .u8 0, V.i .u8 0]) := by kernel_rfl
theorem ar_283 : arO Tryz.prog 283 = some (32, 5) := by kernel_rfl
theorem ae_283 : aeO Tryz.prog 283 = some (32, 1) := by kernel_rfl
theorem b_283 : bldO Tryz.prog 283 = some ([V.i .u8 0, V.i .u8 0, V.i .u8 0, V.i .u8 0, V.i .u8 0, V.i .u8 0, V.i .u8 0, V.i .u8 0, V.i .u8 0, V.i .u8 0, V.i .u8 0, V.i .u8 0, V.i .u8 0, V.i .u8 0, V.i .u8 0, V.i .u8 0, V.i .u8 0, V.i .u8 0, V.i .u8 0, V.i .u8 0, V.i .u8 0, V.i .u8 0, V.i .u8 0, V.i .u8 0, V.i .u8 0, V.i .u8 0, V.i .u8 0, V.i .u8 0, V.i .u8 0, V.i .u8 0, V.i .u8 0, V.i .u8 0], [(0, 1), (1, 1), (2, 1), (3, 1), (4, 1), (5, 1), (6, 1), (7, 1), (8, 1), (9, 1), (10, 1), (11, 1), (12, 1), (13, 1), (14, 1), (15, 1), (16, 1), (17, 1), (18, 1), (19, 1), (20, 1), (21, 1), (22, 1), (23, 1), (24, 1), (25, 1), (26, 1), (27, 1), (28, 1), (29, 1), (30, 1), (31, 1)]) := by kernel_rfl
theorem a_284 : aggO Tryz.prog 284 = some true := by kernel_rfl
theorem s_284 : szO Tryz.prog 284 = some 64 := by kernel_rfl
theorem z_284 : zcO Tryz.prog 284 = some [V.i .u8 0, V.i .u8 0, V.i .u8 0, V.i .u8 0, V.i .u8 0, V.i .u8 0, V.i .u8 0, V.i .u8 0, V.i .u8 0, V.i .u8 0, V.i .u8 0, V.i .u8 0, V.i .u8 0, V.i .u8 0, V.i .u8 0, V.i .u8 0, V.i .u8 0, V.i .u8 0, V.i .u8 0, V.i .u8 0, V.i .u8 0, V.i .u8 0, V.i .u8 0, V.i .u8 0, V.i .u8 0, V.i .u8 0, V.i .u8 0, V.i .u8 0, V.i .u8 0, V.i .u8 0, V.i .u8 0, V.i .u8 0, V.i .u8 0, V.i .u8 0, V.i .u8 0, V.i .u8 0, V.i .u8 0, V.i .u8 0, V.i .u8 0, V.i .u8 0, V.i .u8 0, V.i .u8 0, V.i .u8 0, V.i .u8 0, V.i .u8 0, V.i .u8 0, V.i .u8 0, V.i .u8 0, V.i .u8 0, V.i .u8 0, V.i .u8 0, V.i .u8 0, V.i .u8 0, V.i .u8 0, V.i .u8 0, V.i .u8 0, V.i .u8 0, V.i .u8 0, V.i .u8 0, V.i .u8 0, V.i .u8 0, V.i .u8 0, V.i .u8 0, V.i .u8 0] := by kernel_rfl
theorem el_284 : elO Tryz.prog 284 = some (64, 64, [V.i .u8 0, V.i .u8 0, V.i .u8 0, V.i .u8 0, V.i .u8 0, V.i .u8 0, V.i .u8 0, V.i .u8 0, V.i .u8 0, V.i .u8 0, V.i .u8 0, V.i .u8 0, V.i .u8 0, V.i .u8 0, V.i .u8 0, V.i .u8 0, V.i .u8 0, V.i .u8 0, V.i .u8 0, V.i .u8 0, V.i .u8 0, V.i .u8 0, V.i .u8 0, V.i .u8 0, V.i .u8 0, V.i .u8 0, V.i .u8 0, V.i .u8 0, V.i .u8 0, V.i .u8 0, V.i .u8 0, V.i .u8 0, V.i .u8 0, V.i .u8 0, V.i .u8 0, V.i .u8 0, V.i .u8 0, V.i .u8 0, V.i .u8 0, V.i .u8 0, V.i .u8 0, V.i .u8 0, V.i .u8 0, V.i .u8 0, V.i .u8 0, V.i .u8 0, V.i .u8 0, V.i .u8 0, V.i .u8 0, V.i .u8 0, V.i .u8 0, V.i .u8 0, V.i .u8 0, V.i .u8 0, V.i .u8 0, V.i .u8 0, V.i .u8 0, V.i .u8 0, V.i .u8 0, V.i .u8 0, V.i .u8 0, V.i .u8 0, V.i .u8 0, V.i .u8 0]) := by kernel_rfl
theorem ar_284 : arO Tryz.prog 284 = some (64, 5) := by kernel_rfl
theorem ae_284 : aeO Tryz.prog 284 = some (64, 1) := by kernel_rfl
theorem b_284 : bldO Tryz.prog 284 = some ([V.i .u8 0, V.i .u8 0, V.i .u8 0, V.i .u8 0, V.i .u8 0, V.i .u8 0, V.i .u8 0, V.i .u8 0, V.i .u8 0, V.i .u8 0, V.i .u8 0, V.i .u8 0, V.i .u8 0, V.i .u8 0, V.i .u8 0, V.i .u8 0, V.i .u8 0, V.i .u8 0, V.i .u8 0, V.i .u8 0, V.i .u8 0, V.i .u8 0, V.i .u8 0, V.i .u8 0, V.i .u8 0, V.i .u8 0, V.i .u8 0, V.i .u8 0, V.i .u8 0, V.i .u8 0, V.i .u8 0, V.i .u8 0, V.i .u8 0, V.i .u8 0, V.i .u8 0, V.i .u8 0, V.i .u8 0, V.i .u8 0, V.i .u8 0, V.i .u8 0, V.i .u8 0, V.i .u8 0, V.i .u8 0, V.i .u8 0, V.i .u8 0, V.i .u8 0, V.i .u8 0, V.i .u8 0, V.i .u8 0, V.i .u8 0, V.i .u8 0, V.i .u8 0, V.i .u8 0, V.i .u8 0, V.i .u8 0, V.i .u8 0, V.i .u8 0, V.i .u8 0, V.i .u8 0, V.i .u8 0, V.i .u8 0, V.i .u8 0, V.i .u8 0, V.i .u8 0], [(0, 1), (1, 1), (2, 1), (3, 1), (4, 1), (5, 1), (6, 1), (7, 1), (8, 1), (9, 1), (10, 1), (11, 1), (12, 1), (13, 1), (14, 1), (15, 1), (16, 1), (17, 1), (18, 1), (19, 1), (20, 1), (21, 1), (22, 1), (23, 1), (24, 1), (25, 1), (26, 1), (27, 1), (28, 1), (29, 1), (30, 1), (31, 1), (32, 1), (33, 1), (34, 1), (35, 1), (36, 1), (37, 1), (38, 1), (39, 1), (40, 1), (41, 1), (42, 1), (43, 1), (44, 1), (45, 1), (46, 1), (47, 1), (48, 1), (49, 1), (50, 1), (51, 1), (52, 1), (53, 1), (54, 1), (55, 1), (56, 1), (57, 1), (58, 1), (59, 1), (60, 1), (61, 1), (62, 1), (63, 1)]) := by kernel_rfl
theorem a_285 : aggO Tryz.prog 285 = some false := by kernel_rfl
theorem s_285 : szO Tryz.prog 285 = some 1 := by kernel_rfl
theorem z_285 : zcO Tryz.prog 285 = some [V.nf] := by kernel_rfl
theorem el_285 : elO Tryz.prog 285 = some (1, 8, [V.nf]) := by kernel_rfl
theorem a_286 : aggO Tryz.prog 286 = some false := by kernel_rfl
theorem s_286 : szO Tryz.prog 286 = some 1 := by kernel_rfl
theorem z_286 : zcO Tryz.prog 286 = some [V.p0] := by kernel_rfl
theorem el_286 : elO Tryz.prog 286 = some (1, 8, [V.p0]) := by kernel_rfl
theorem a_287 : aggO Tryz.prog 287 = some true := by kernel_rfl
theorem s_287 : szO Tryz.prog 287 = some 1 := by kernel_rfl
theorem z_287 : zcO Tryz.prog 287 = some [V.s []] := by kernel_rfl
theorem el_287 : elO Tryz.prog 287 = some (1, 16, [V.s []]) := by kernel_rfl
theorem f_287_0 : faO Tryz.prog 287 0 = some 0 := by kernel_rfl
theorem b_287 : bldO Tryz.prog 287 = some ([V.s []], [(0, 1)]) := by kernel_rfl
theorem a_288 : aggO Tryz.prog 288 = some true := by kernel_rfl
theorem s_288 : szO Tryz.prog 288 = some 1 := by kernel_rfl
theorem z_288 : zcO Tryz.prog 288 = some [V.s []] := by kernel_rfl
theorem el_288 : elO Tryz.prog 288 = some (1, 16, [V.s []]) := by kernel_rfl
theorem f_288_0 : faO Tryz.prog 288 0 = some 0 := by kernel_rfl
theorem b_288 : bldO Tryz.prog 288 = some ([V.s []], [(0, 1)]) := by kernel_rfl
theorem a_289 : aggO Tryz.prog 289 = some true := by kernel_rfl
theorem s_289 : szO Tryz.prog 289 = some 4 := by kernel_rfl
theorem z_289 : zcO Tryz.prog 289 = some [V.p0, V.p0, V.p0, V.s []] := by kernel_rfl
theorem el_289 : elO Tryz.prog 289 = some (4, 40, [V.p0, V.p0, V.p0, V.s []]) := by kernel_rfl
theorem f_289_0 : faO Tryz.prog 289 0 = some 0 := by kernel_rfl
theorem f_289_1 : faO Tryz.prog 289 1 = some 1 := by kernel_rfl
theorem f_289_2 : faO Tryz.prog 289 2 = some 2 := by kernel_rfl
theorem f_289_3 : faO Tryz.prog 289 3 = some 3 := by kernel_rfl
theorem b_289 : bldO Tryz.prog 289 = some ([V.p0, V.p0, V.p0, V.s []], [(0, 1), (1, 1), (2, 1), (3, 1)]) := by kernel_rfl
theorem a_290 : aggO Tryz.prog 290 = some true := by kernel_rfl
theorem s_290 : szO Tryz.prog 290 = some 4 := by kernel_rfl
theorem z_290 : zcO Tryz.prog 290 = some [V.p0, V.p0, V.p0, V.s []] := by kernel_rfl
theorem el_290 : elO Tryz.prog 290 = some (4, 40, [V.p0, V.p0, V.p0, V.s []]) := by kernel_rfl
theorem f_290_0 : faO Tryz.prog 290 0 = some 0 := by kernel_rfl
theorem f_290_1 : faO Tryz.prog 290 1 = some 1 := by kernel_rfl
theorem f_290_2 : faO Tryz.prog 290 2 = some 2 := by kernel_rfl
theorem f_290_3 : faO Tryz.prog 290 3 = some 3 := by kernel_rfl
theorem b_290 : bldO Tryz.prog 290 = some ([V.p0, V.p0, V.p0, V.s []], [(0, 1), (1, 1), (2, 1), (3, 1)]) := by kernel_rfl
theorem a_291 : aggO Tryz.prog 291 = some true := by kernel_rfl
theorem s_291 : szO Tryz.prog 291 = some 0 := by kernel_rfl
theorem z_291 : zcO Tryz.prog 291 = some [] := by kernel_rfl
theorem ar_291 : arO Tryz.prog 291 = some (0, 16) := by kernel_rfl
theorem ae_291 : aeO Tryz.prog 291 = some (0, 1) := by kernel_rfl
theorem b_291 : bldO Tryz.prog 291 = some ([], []) := by kernel_rfl
theorem a_292 : aggO Tryz.prog 292 = some true := by kernel_rfl
theorem s_292 : szO Tryz.prog 292 = some 0 := by kernel_rfl
theorem z_292 : zcO Tryz.prog 292 = some [] := by kernel_rfl
theorem b_292 : bldO Tryz.prog 292 = some ([], [(0, 0)]) := by kernel_rfl
theorem a_293 : aggO Tryz.prog 293 = some true := by kernel_rfl
theorem s_293 : szO Tryz.prog 293 = some 0 := by kernel_rfl
theorem z_293 : zcO Tryz.prog 293 = some [] := by kernel_rfl
theorem b_293 : bldO Tryz.prog 293 = some ([], [(0, 0)]) := by kernel_rfl
theorem a_294 : aggO Tryz.prog 294 = some false := by kernel_rfl
theorem s_294 : szO Tryz.prog 294 = some 1 := by kernel_rfl
theorem z_294 : zcO Tryz.prog 294 = some [V.i .u8 0] := by kernel_rfl
theorem el_294 : elO Tryz.prog 294 = some (1, 1, [V.i .u8 0]) := by kernel_rfl
theorem a_295 : aggO Tryz.prog 295 = some false := by kernel_rfl
theorem s_295 : szO Tryz.prog 295 = some 1 := by kernel_rfl
theorem z_295 : zcO Tryz.prog 295 = some [V.i .u8 0] := by kernel_rfl
theorem el_295 : elO Tryz.prog 295 = some (1, 1, [V.i .u8 0]) := by kernel_rfl
theorem a_296 : aggO Tryz.prog 296 = some false := by kernel_rfl
theorem s_296 : szO Tryz.prog 296 = some 1 := by kernel_rfl
theorem z_296 : zcO Tryz.prog 296 = some [V.nf] := by kernel_rfl
theorem el_296 : elO Tryz.prog 296 = some (1, 8, [V.nf]) := by kernel_rfl
theorem a_297 : aggO Tryz.prog 297 = some false := by kernel_rfl
theorem s_297 : szO Tryz.prog 297 = some 1 := by kernel_rfl
theorem z_297 : zcO Tryz.prog 297 = some [V.i .i32 0] := by kernel_rfl
theorem el_297 : elO Tryz.prog 297 = some (1, 4, [V.i .i32 0]) := by kernel_rfl
theorem a_298 : aggO Tryz.prog 298 = some false := by kernel_rfl
theorem s_298 : szO Tryz.prog 298 = some 1 := by kernel_rfl
theorem z_298 : zcO Tryz.prog 298 = some [V.i .i32 0] := by kernel_rfl
theorem el_298 : elO Tryz.prog 298 = some (1, 4, [V.i .i32 0]) := by kernel_rfl
theorem a_299 : aggO Tryz.prog 299 = some true := by kernel_rfl
theorem s_299 : szO Tryz.prog 299 = some 11 := by kernel_rfl
theorem z_299 : zcO Tryz.prog 299 = some [V.i .u64 0, V.i .u64 0, V.i .u32 0, V.i .u8 0, V.i .u8 0, V.i .u8 0, V.i .u8 0, V.nf, V.p0, V.i .i32 0, V.i .i32 0] := by kernel_rfl
theorem el_299 : elO Tryz.prog 299 = some (11, 48, [V.i .u64 0, V.i .u64 0, V.i .u32 0, V.i .u8 0, V.i .u8 0, V.i .u8 0, V.i .u8 0, V.nf, V.p0, V.i .i32 0, V.i .i32 0]) := by kernel_rfl
theorem f_299_0 : faO Tryz.prog 299 0 = some 0 := by kernel_rfl
theorem f_299_1 : faO Tryz.prog 299 1 = some 1 := by kernel_rfl
theorem f_299_2 : faO Tryz.prog 299 2 = some 2 := by kernel_rfl
theorem f_299_3 : faO Tryz.prog 299 3 = some 3 := by kernel_rfl
theorem f_299_4 : faO Tryz.prog 299 4 = some 4 := by kernel_rfl
theorem f_299_5 : faO Tryz.prog 299 5 = some 5 := by kernel_rfl
theorem f_299_6 : faO Tryz.prog 299 6 = some 6 := by kernel_rfl
theorem f_299_7 : faO Tryz.prog 299 7 = some 7 := by kernel_rfl
theorem f_299_8 : faO Tryz.prog 299 8 = some 8 := by kernel_rfl
theorem f_299_9 : faO Tryz.prog 299 9 = some 9 := by kernel_rfl
theorem f_299_10 : faO Tryz.prog 299 10 = some 10 := by kernel_rfl
theorem b_299 : bldO Tryz.prog 299 = some ([V.i .u64 0, V.i .u64 0, V.i .u32 0, V.i .u8 0, V.i .u8 0, V.i .u8 0, V.i .u8 0, V.nf, V.p0, V.i .i32 0, V.i .i32 0], [(0, 1), (1, 1), (2, 1), (3, 1), (4, 1), (5, 1), (6, 1), (7, 1), (8, 1), (9, 1), (10, 1)]) := by kernel_rfl
theorem a_300 : aggO Tryz.prog 300 = some true := by kernel_rfl
theorem s_300 : szO Tryz.prog 300 = some 11 := by kernel_rfl
theorem z_300 : zcO Tryz.prog 300 = some [V.i .u64 0, V.i .u64 0, V.i .u32 0, V.i .u8 0, V.i .u8 0, V.i .u8 0, V.i .u8 0, V.nf, V.p0, V.i .i32 0, V.i .i32 0] := by kernel_rfl
theorem el_300 : elO Tryz.prog 300 = some (11, 48, [V.i .u64 0, V.i .u64 0, V.i .u32 0, V.i .u8 0, V.i .u8 0, V.i .u8 0, V.i .u8 0, V.nf, V.p0, V.i .i32 0, V.i .i32 0]) := by kernel_rfl
theorem f_300_0 : faO Tryz.prog 300 0 = some 0 := by kernel_rfl
theorem f_300_1 : faO Tryz.prog 300 1 = some 1 := by kernel_rfl
theorem f_300_2 : faO Tryz.prog 300 2 = some 2 := by kernel_rfl
theorem f_300_3 : faO Tryz.prog 300 3 = some 3 := by kernel_rfl
theorem f_300_4 : faO Tryz.prog 300 4 = some 4 := by kernel_rfl
theorem f_300_5 : faO Tryz.prog 300 5 = some 5 := by kernel_rfl
theorem f_300_6 : faO Tryz.prog 300 6 = some 6 := by kernel_rfl
theorem f_300_7 : faO Tryz.prog 300 7 = some 7 := by kernel_rfl
theorem f_300_8 : faO Tryz.prog 300 8 = some 8 := by kernel_rfl
theorem f_300_9 : faO Tryz.prog 300 9 = some 9 := by kernel_rfl
theorem f_300_10 : faO Tryz.prog 300 10 = some 10 := by kernel_rfl
theorem b_300 : bldO Tryz.prog 300 = some ([V.i .u64 0, V.i .u64 0, V.i .u32 0, V.i .u8 0, V.i .u8 0, V.i .u8 0, V.i .u8 0, V.nf, V.p0, V.i .i32 0, V.i .i32 0], [(0, 1), (1, 1), (2, 1), (3, 1), (4, 1), (5, 1), (6, 1), (7, 1), (8, 1), (9, 1), (10, 1)]) := by kernel_rfl

end Go.Proofs.YtjflgemfeofciaaGreatDoor
