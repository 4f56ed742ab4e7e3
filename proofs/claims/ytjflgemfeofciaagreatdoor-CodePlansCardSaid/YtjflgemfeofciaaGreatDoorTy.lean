import Derived.Test.YtjflgemfeofciaaGreatDoorMX1
import Derived.Test.YtjflgemfeofciaaGreatDoorProg
import Derived.KernelRfl
namespace Go.Proofs.YtjflgemfeofciaaGreatDoor
open Go.Ev
set_option maxRecDepth 10000
theorem a_3:aggO Tryz.prog 3=some false:=by kernel_rfl
theorem s_3:szO Tryz.prog 3=some 1:=by kernel_rfl
theorem el_3:elO Tryz.prog 3=some (1,8,[V.i .i64 0]):=by kernel_rfl
theorem s_4:szO Tryz.prog 4=some 1:=by kernel_rfl
theorem a_9:aggO Tryz.prog 9=some false:=by kernel_rfl
theorem str_9:strO Tryz.prog 9=true:=by kernel_rfl
theorem a_22:aggO Tryz.prog 22=some false:=by kernel_rfl
theorem e_22:seO Tryz.prog 22=some 12:=by kernel_rfl
theorem a_24:aggO Tryz.prog 24=some true:=by kernel_rfl
theorem s_24:szO Tryz.prog 24=some 2:=by kernel_rfl
theorem f_24_0:faO Tryz.prog 24 0=some 0:=by kernel_rfl
theorem Qbu:faO Tryz.prog 24 1=some 1:=by kernel_rfl
theorem a_25:aggO Tryz.prog 25=some false:=by kernel_rfl
theorem e_25:seO Tryz.prog 25=some 6:=by kernel_rfl
theorem a_27:aggO Tryz.prog 27=some true:=by kernel_rfl
theorem s_27:szO Tryz.prog 27=some 2:=by kernel_rfl
theorem z_27:zcO Tryz.prog 27=some [V.i .i64 0,V.i .i64 0]:=by kernel_rfl
theorem el_27:elO Tryz.prog 27=some (2,16,[V.i .i64 0,V.i .i64 0]):=by kernel_rfl
theorem Qap:faO Tryz.prog 27 0=some 0:=by kernel_rfl
theorem Qao:faO Tryz.prog 27 1=some 1:=by kernel_rfl
theorem a_29:aggO Tryz.prog 29=some true:=by kernel_rfl
theorem s_29:szO Tryz.prog 29=some 6:=by kernel_rfl
theorem z_29:zcO Tryz.prog 29=some [V.i .i64 0,V.i .i64 0,V.i .i64 0,V.i .i64 0,V.i .i64 0,V.i .i64 0]:=by kernel_rfl
theorem Qca:faO Tryz.prog 29 0=some 0:=by kernel_rfl
theorem f_29_1:faO Tryz.prog 29 1=some 1:=by kernel_rfl
theorem f_29_2:faO Tryz.prog 29 2=some 2:=by kernel_rfl
theorem f_29_3:faO Tryz.prog 29 3=some 3:=by kernel_rfl
theorem Qbe:faO Tryz.prog 29 4=some 4:=by kernel_rfl
theorem a_30:aggO Tryz.prog 30=some false:=by kernel_rfl
theorem s_30:szO Tryz.prog 30=some 1:=by kernel_rfl
theorem f_37_0:faO Tryz.prog 37 0=some 0:=by kernel_rfl
theorem f_37_2:faO Tryz.prog 37 2=some 2:=by kernel_rfl
theorem ae_53:aeO Tryz.prog 53=some (2,1):=by kernel_rfl
theorem a_66:aggO Tryz.prog 66=some false:=by kernel_rfl
theorem s_66:szO Tryz.prog 66=some 1:=by kernel_rfl
theorem sl_66:slO Tryz.prog 66=some 3:=by kernel_rfl
theorem e_66:seO Tryz.prog 66=some 1:=by kernel_rfl
theorem a_82:aggO Tryz.prog 82=some true:=by kernel_rfl
theorem s_82:szO Tryz.prog 82=some 4:=by kernel_rfl
theorem z_82:zcO Tryz.prog 82=some [V.i .i64 0,V.sn,V.i .i64 0,V.i .i64 0]:=by kernel_rfl
theorem Qbz:faO Tryz.prog 82 0=some 0:=by kernel_rfl
theorem Qba:faO Tryz.prog 82 1=some 1:=by kernel_rfl
theorem Qaj:faO Tryz.prog 82 2=some 2:=by kernel_rfl
theorem ae_83:aeO Tryz.prog 83=some (5,4):=by kernel_rfl
theorem a_85:aggO Tryz.prog 85=some true:=by kernel_rfl
theorem s_85:szO Tryz.prog 85=some 22:=by kernel_rfl
theorem z_85:zcO Tryz.prog 85=some [V.i .i64 0,V.i .i64 0,V.sn,V.i .i64 0,V.i .i64 0,V.i .i64 0,V.sn,V.i .i64 0,V.i .i64 0,V.i .i64 0,V.sn,V.i .i64 0,V.i .i64 0,V.i .i64 0,V.sn,V.i .i64 0,V.i .i64 0,V.i .i64 0,V.sn,V.i .i64 0,V.i .i64 0,V.sn]:=by kernel_rfl
theorem f_85_0:faO Tryz.prog 85 0=some 0:=by kernel_rfl
theorem Qak:faO Tryz.prog 85 1=some 1:=by kernel_rfl
theorem f_85_2:faO Tryz.prog 85 2=some 21:=by kernel_rfl
theorem b_85:bldO Tryz.prog 85=some ([V.i .i64 0,V.i .i64 0,V.sn,V.i .i64 0,V.i .i64 0,V.i .i64 0,V.sn,V.i .i64 0,V.i .i64 0,V.i .i64 0,V.sn,V.i .i64 0,V.i .i64 0,V.i .i64 0,V.sn,V.i .i64 0,V.i .i64 0,V.i .i64 0,V.sn,V.i .i64 0,V.i .i64 0,V.sn],[(0,1),(1,20),(21,1)]):=by kernel_rfl
theorem a_92:aggO Tryz.prog 92=some false:=by kernel_rfl
theorem e_92:seO Tryz.prog 92=some 2:=by kernel_rfl
theorem a_93:aggO Tryz.prog 93=some false:=by kernel_rfl
theorem s_93:szO Tryz.prog 93=some 1:=by kernel_rfl
theorem e_93:seO Tryz.prog 93=some 3:=by kernel_rfl
theorem a_94:aggO Tryz.prog 94=some true:=by kernel_rfl
theorem s_94:szO Tryz.prog 94=some 5:=by kernel_rfl
theorem z_94:zcO Tryz.prog 94=some [V.sn,V.sn,V.sn,V.sn,V.sn]:=by kernel_rfl
theorem ar_94:arO Tryz.prog 94=some (5,93):=by kernel_rfl
theorem ae_94:aeO Tryz.prog 94=some (5,1):=by kernel_rfl
theorem a_95:aggO Tryz.prog 95=some true:=by kernel_rfl
theorem s_95:szO Tryz.prog 95=some 10:=by kernel_rfl
theorem ar_95:arO Tryz.prog 95=some (2,94):=by kernel_rfl
theorem ae_95:aeO Tryz.prog 95=some (2,5):=by kernel_rfl
theorem a_97:aggO Tryz.prog 97=some true:=by kernel_rfl
theorem s_97:szO Tryz.prog 97=some 12:=by kernel_rfl
theorem z_97:zcO Tryz.prog 97=some [V.i .i64 0,V.sn,V.sn,V.sn,V.sn,V.sn,V.sn,V.sn,V.sn,V.sn,V.sn,V.sn]:=by kernel_rfl
theorem f_97_0:faO Tryz.prog 97 0=some 0:=by kernel_rfl
theorem f_97_1:faO Tryz.prog 97 1=some 1:=by kernel_rfl
theorem f_97_2:faO Tryz.prog 97 2=some 2:=by kernel_rfl
theorem f_132_0:faO Tryz.prog 132 0=some 0:=by kernel_rfl
theorem f_132_1:faO Tryz.prog 132 1=some 2:=by kernel_rfl
theorem f_132_2:faO Tryz.prog 132 2=some 14:=by kernel_rfl
theorem Qcz:faO Tryz.prog 132 3=some 15:=by kernel_rfl
theorem b_132:bldO Tryz.prog 132=some ([V.s [],V.sn,V.i .i64 0,V.sn,V.sn,V.sn,V.sn,V.sn,V.sn,V.sn,V.sn,V.sn,V.sn,V.sn,V.i .i64 0,V.i .i64 0],[(0,2),(2,12),(14,1),(15,1)]):=by kernel_rfl
theorem sl_148:slO Tryz.prog 148=some 27:=by kernel_rfl
theorem a_157:aggO Tryz.prog 157=some true:=by kernel_rfl
theorem s_157:szO Tryz.prog 157=some 3:=by kernel_rfl
theorem z_157:zcO Tryz.prog 157=some [V.i .i64 0,V.i .i64 0,V.i .i64 0]:=by kernel_rfl
theorem Qbp:faO Tryz.prog 157 0=some 0:=by kernel_rfl
theorem f_157_1:faO Tryz.prog 157 1=some 1:=by kernel_rfl
theorem f_157_2:faO Tryz.prog 157 2=some 2:=by kernel_rfl
theorem a_168:aggO Tryz.prog 168=some false:=by kernel_rfl
theorem e_168:seO Tryz.prog 168=some 3:=by kernel_rfl
theorem a_170:aggO Tryz.prog 170=some true:=by kernel_rfl
theorem s_170:szO Tryz.prog 170=some 2:=by kernel_rfl
theorem z_170:zcO Tryz.prog 170=some [V.i .i64 0,V.sn]:=by kernel_rfl
theorem f_170_0:faO Tryz.prog 170 0=some 0:=by kernel_rfl
theorem f_170_1:faO Tryz.prog 170 1=some 1:=by kernel_rfl
theorem a_172:aggO Tryz.prog 172=some true:=by kernel_rfl
theorem s_172:szO Tryz.prog 172=some 3:=by kernel_rfl
theorem z_172:zcO Tryz.prog 172=some [V.i .i64 0,V.i .i64 0,V.i .i64 0]:=by kernel_rfl
theorem f_172_0:faO Tryz.prog 172 0=some 0:=by kernel_rfl
theorem Qdw:faO Tryz.prog 172 1=some 1:=by kernel_rfl
theorem Qag:faO Tryz.prog 172 2=some 2:=by kernel_rfl
theorem s_229:szO Tryz.prog 229=some 1:=by kernel_rfl
theorem f_230_1:faO Tryz.prog 230 1=some 1:=by kernel_rfl
theorem f_230_2:faO Tryz.prog 230 2=some 2:=by kernel_rfl
theorem f_230_3:faO Tryz.prog 230 3=some 3:=by kernel_rfl
theorem ar_231:arO Tryz.prog 231=some (3,229):=by kernel_rfl
theorem b_231:bldO Tryz.prog 231=some ([V.nf,V.nf,V.nf],[(0,1),(1,1),(2,1)]):=by kernel_rfl
theorem Qco:arO Tryz.prog 232=some (6,4):=by kernel_rfl
theorem b_232:bldO Tryz.prog 232=some ([V.b false,V.b false,V.b false,V.b false,V.b false,V.b false],[(0,1),(1,1),(2,1),(3,1),(4,1),(5,1)]):=by kernel_rfl
end Go.Proofs.YtjflgemfeofciaaGreatDoor
