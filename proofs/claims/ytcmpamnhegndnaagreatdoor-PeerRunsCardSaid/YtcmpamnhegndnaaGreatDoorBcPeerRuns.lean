/- Texts joined: engine, contracts and laws, in the order in which they build. -/
import Derived.Test.YtcmpamnhegndnaaGreatDoorProg
import Derived.Lib.MakeNoZero
import Derived.Test.YtcmpamnhegndnaaGreatDoorBbPeerRuns
namespace Go.Proofs.YtcmpamnhegndnaaGreatDoor
open Go.RowKit
theorem mixed:Tryz.prog.follows .mixedOrders=true:=by kernel_rfl
theorem AP:(Tryz.prog.info? 3).map (·.size)=some 1:=by kernel_rfl
theorem Pf:(Tryz.prog.info? 3).map (·.bytes)=some 8:=by kernel_rfl
theorem AK:One Tryz.prog 3:=One.mk Tryz.underlying3 rfl AP
theorem DB:Zero Tryz.prog 3 [.int .i64 0]:=Zero.mk (z:=.int .i64 0) Es rfl
theorem XQ:(Tryz.prog.info? 4).map (·.size)=some 1:=by kernel_rfl
theorem Zi:One Tryz.prog 4:=One.mk Tryz.underlying4 rfl XQ
theorem AO:(Tryz.prog.info? 5).map (·.size)=some 1:=by kernel_rfl
theorem Hx:(Tryz.prog.info? 5).map (·.bytes)=some 1:=by kernel_rfl
theorem BH:One Tryz.prog 5:=One.mk Tryz.underlying5 rfl AO
theorem BF:Zero Tryz.prog 5 [.int .u8 0]:=Zero.mk (z:=.int .u8 0) Es rfl
theorem sz_9:(Tryz.prog.info? 9).map (·.size)=some 1:=by kernel_rfl
theorem one_9:One Tryz.prog 9:=One.mk Tryz.underlying9 rfl sz_9
theorem K5:(Tryz.prog.info? 22).map (·.size)=some 1:=by kernel_rfl
theorem Lt:One Tryz.prog 22:=One.mk Tryz.underlying22 rfl K5
theorem JV:(Tryz.prog.info? 23).map (·.size)=some 1:=by kernel_rfl
theorem Um:One Tryz.prog 23:=One.mk Tryz.underlying23 rfl JV
theorem G9:(Tryz.prog.info? 25).map (·.size)=some 1:=by kernel_rfl
theorem G3:One Tryz.prog 25:=One.mk Tryz.underlying25 rfl G9
theorem Wk:Zero Tryz.prog 25 [.slice none 0 0]:=Zero.mk (z:=.slice none 0 0) Es rfl
theorem ZS:(Tryz.prog.info? 29).map (·.size)=some 1:=by kernel_rfl
theorem RG:One Tryz.prog 29:=One.mk Tryz.underlying29 rfl ZS
theorem VJ:(Tryz.prog.info? 30).map (·.size)=some 1:=by kernel_rfl
theorem Q5:One Tryz.prog 30:=One.mk Tryz.underlying30 rfl VJ
theorem Aan:(Tryz.prog.info? 31).map (·.size)=some 1:=by kernel_rfl
theorem one_31:One Tryz.prog 31:=One.mk Tryz.underlying31 rfl Aan
theorem MT:(Tryz.prog.info? 32).map (·.size)=some 1:=by kernel_rfl
theorem one_32:One Tryz.prog 32:=One.mk Tryz.underlying32 rfl MT
theorem ZY:(Tryz.prog.info? 33).map (·.size)=some 1:=by kernel_rfl
theorem one_33:One Tryz.prog 33:=One.mk Tryz.underlying33 rfl ZY
theorem Abh:(Tryz.prog.info? 35).map (·.size)=some 10:=by kernel_rfl
theorem Lz:EL Tryz.prog 35 10:=EL.mk Tryz.underlying35 rfl Abh
theorem Ot:Zero Tryz.prog 35 [.int .i64 0, .int .i64 0, .slice none 0 0, .int .u32 0, .int .i64 0, .int .i64 0, .int .i64 0, .int .u32 0, .slice none 0 0, .slice none 0 0]:=Zero.mk (z:=.agg #[.int .i64 0, .int .i64 0, .slice none 0 0, .int .u32 0, .int .i64 0, .int .i64 0, .int .i64 0, .int .u32 0, .slice none 0 0, .slice none 0 0]) Es rfl
theorem QA:(Tryz.prog.info? 37).map (·.size)=some 3:=by kernel_rfl
theorem Im:EL Tryz.prog 37 3:=EL.mk Tryz.underlying37 rfl QA
theorem CV:Zero Tryz.prog 37 [.int .i64 0, .int .i64 0, .string ⟨#[]⟩]:=Zero.mk (z:=.agg #[.int .i64 0, .int .i64 0, .string ⟨#[]⟩]) Es rfl
theorem LR:(Tryz.prog.info? 39).map (·.size)=some 20:=by kernel_rfl
theorem by_39:(Tryz.prog.info? 39).map (·.bytes)=some 264:=by kernel_rfl
theorem Jx:EL Tryz.prog 39 20:=EL.mk Tryz.underlying39 rfl LR
theorem GM:Zero Tryz.prog 39 [.int .i64 0, .int .i64 0, .int .i64 0, .int .u32 0, .slice none 0 0, .slice none 0 0, .int .i64 0, .int .i64 0, .slice none 0 0, .int .u32 0, .int .i64 0, .int .i64 0, .int .i64 0, .int .u32 0, .slice none 0 0, .slice none 0 0, .slice none 0 0, .int .i64 0, .int .i64 0, .string ⟨#[]⟩]:=Zero.mk (z:=.agg #[.int .i64 0, .int .i64 0, .int .i64 0, .int .u32 0, .slice none 0 0, .slice none 0 0, .int .i64 0, .int .i64 0, .slice none 0 0, .int .u32 0, .int .i64 0, .int .i64 0, .int .i64 0, .int .u32 0, .slice none 0 0, .slice none 0 0, .slice none 0 0, .int .i64 0, .int .i64 0, .string ⟨#[]⟩]) Es rfl
theorem ZZ:(Tryz.prog.info? 44).map (·.size)=some 5:=by kernel_rfl
theorem Acd:EL Tryz.prog 44 5:=EL.mk Tryz.underlying44 rfl ZZ
theorem Vt:Zero Tryz.prog 44 [.int .i64 0, .int .u32 0, .int .i64 0, .int .i64 0, .int .i64 0]:=Zero.mk (z:=.agg #[.int .i64 0, .int .u32 0, .int .i64 0, .int .i64 0, .int .i64 0]) Es rfl
theorem Wd:(Tryz.prog.info? 51).map (·.size)=some 3:=by kernel_rfl
theorem VG:EL Tryz.prog 51 3:=EL.mk Tryz.underlying51 rfl Wd
theorem Jp:Zero Tryz.prog 51 [.int .i64 0, .int .i64 0, .int .i64 0]:=Zero.mk (z:=.agg #[.int .i64 0, .int .i64 0, .int .i64 0]) Es rfl
theorem DI:(Tryz.prog.info? 54).map (·.size)=some 23:=by kernel_rfl
theorem HP:(Tryz.prog.info? 54).map (·.bytes)=some 304:=by kernel_rfl
theorem Vp:EL Tryz.prog 54 23:=EL.mk Tryz.underlying54 rfl DI
theorem BT:Zero Tryz.prog 54 [.int .i64 0, .int .i64 0, .slice none 0 0, .int .i64 0, .int .i64 0, .int .i64 0, .int .u32 0, .slice none 0 0, .slice none 0 0, .int .i64 0, .int .i64 0, .slice none 0 0, .int .u32 0, .int .i64 0, .int .i64 0, .int .i64 0, .int .u32 0, .slice none 0 0, .slice none 0 0, .slice none 0 0, .int .i64 0, .int .i64 0, .string ⟨#[]⟩]:=Zero.mk (z:=.agg #[.int .i64 0, .int .i64 0, .slice none 0 0, .int .i64 0, .int .i64 0, .int .i64 0, .int .u32 0, .slice none 0 0, .slice none 0 0, .int .i64 0, .int .i64 0, .slice none 0 0, .int .u32 0, .int .i64 0, .int .i64 0, .int .i64 0, .int .u32 0, .slice none 0 0, .slice none 0 0, .slice none 0 0, .int .i64 0, .int .i64 0, .string ⟨#[]⟩]) Es rfl
theorem sz_71:(Tryz.prog.info? 71).map (·.size)=some 28:=by kernel_rfl
theorem Vw:EL Tryz.prog 71 28:=EL.mk Tryz.underlying71 rfl sz_71
theorem Ace:Zero Tryz.prog 71 [.int .i64 0, .int .i64 0, .int .i64 0, .int .i64 0, .int .i64 0, .int .u32 0, .slice none 0 0, .slice none 0 0, .int .i64 0, .int .i64 0, .slice none 0 0, .int .u32 0, .int .i64 0, .int .i64 0, .int .i64 0, .int .u32 0, .slice none 0 0, .slice none 0 0, .slice none 0 0, .int .i64 0, .int .i64 0, .string ⟨#[]⟩, .slice none 0 0, .int .i64 0, .int .i64 0, .int .i64 0, .int .i64 0, .string ⟨#[]⟩]:=Zero.mk (z:=.agg #[.int .i64 0, .int .i64 0, .int .i64 0, .int .i64 0, .int .i64 0, .int .u32 0, .slice none 0 0, .slice none 0 0, .int .i64 0, .int .i64 0, .slice none 0 0, .int .u32 0, .int .i64 0, .int .i64 0, .int .i64 0, .int .u32 0, .slice none 0 0, .slice none 0 0, .slice none 0 0, .int .i64 0, .int .i64 0, .string ⟨#[]⟩, .slice none 0 0, .int .i64 0, .int .i64 0, .int .i64 0, .int .i64 0, .string ⟨#[]⟩]) Es rfl
theorem VV:(Tryz.prog.info? 78).map (·.size)=some 2:=by kernel_rfl
theorem V3:EL Tryz.prog 78 2:=EL.mk Tryz.underlying78 rfl VV
theorem Aca:Zero Tryz.prog 78 [.int .i64 0, .int .i64 0]:=Zero.mk (z:=.agg #[.int .i64 0, .int .i64 0]) Es rfl
theorem sz_79:(Tryz.prog.info? 79).map (·.size)=some 2:=by kernel_rfl
theorem Y4:(Tryz.prog.info? 80).map (·.size)=some 5:=by kernel_rfl
theorem AcX:EL Tryz.prog 80 5:=EL.mk Tryz.underlying80 rfl Y4
theorem AbU:Zero Tryz.prog 80 [.int .i64 0, .int .i64 0, .int .i64 0, .int .i64 0, .int .i64 0]:=Zero.mk (z:=.agg #[.int .i64 0, .int .i64 0, .int .i64 0, .int .i64 0, .int .i64 0]) Es rfl
theorem Z4:(Tryz.prog.info? 81).map (·.size)=some 1:=by kernel_rfl
theorem T4:One Tryz.prog 81:=One.mk Tryz.underlying81 rfl Z4
theorem sz_83:(Tryz.prog.info? 83).map (·.size)=some 19:=by kernel_rfl
theorem Adj:EL Tryz.prog 83 19:=EL.mk Tryz.underlying83 rfl sz_83
theorem EC:Zero Tryz.prog 83 [.int .i64 0, .int .i64 0, .int .i64 0, .int .i64 0, .int .u32 0, .int .i64 0, .int .i64 0, .int .i64 0, .int .i64 0, .int .u32 0, .int .u32 0, .int .i64 0, .int .i64 0, .int .i64 0, .int .i64 0, .int .i64 0, .int .i64 0, .int .i64 0, .slice none 0 0]:=Zero.mk (z:=.agg #[.int .i64 0, .int .i64 0, .int .i64 0, .int .i64 0, .int .u32 0, .int .i64 0, .int .i64 0, .int .i64 0, .int .i64 0, .int .u32 0, .int .u32 0, .int .i64 0, .int .i64 0, .int .i64 0, .int .i64 0, .int .i64 0, .int .i64 0, .int .i64 0, .slice none 0 0]) Es rfl
theorem sz_85:(Tryz.prog.info? 85).map (·.size)=some 2:=by kernel_rfl
theorem Acm:EL Tryz.prog 85 2:=EL.mk Tryz.underlying85 rfl sz_85
theorem Vm:Zero Tryz.prog 85 [.slice none 0 0, .slice none 0 0]:=Zero.mk (z:=.agg #[.slice none 0 0, .slice none 0 0]) Es rfl
theorem AaB:(Tryz.prog.info? 98).map (·.size)=some 1:=by kernel_rfl
theorem Zl:One Tryz.prog 98:=One.mk Tryz.underlying98 rfl AaB
theorem AaT:(Tryz.prog.info? 101).map (·.size)=some 5:=by kernel_rfl
theorem DD:(Tryz.prog.info? 103).map (·.size)=some 8:=by kernel_rfl
theorem Nc:EL Tryz.prog 103 8:=EL.mk Tryz.underlying103 rfl DD
theorem ZK:Zero Tryz.prog 103 [.int .i64 0, .slice none 0 0, .int .i64 0, .int .i64 0, .int .i64 0, .string ⟨#[]⟩, .int .i64 0, .int .u32 0]:=Zero.mk (z:=.agg #[.int .i64 0, .slice none 0 0, .int .i64 0, .int .i64 0, .int .i64 0, .string ⟨#[]⟩, .int .i64 0, .int .u32 0]) Es rfl
theorem YL:(Tryz.prog.info? 104).map (·.size)=some 16:=by kernel_rfl
theorem Zp:Zero Tryz.prog 106 [.int .i64 0, .int .u32 0, .int .i64 0, .int .i64 0, .int .i64 0, .pointer none, .int .i64 0, .int .i64 0, .slice none 0 0, .int .i64 0, .int .i64 0, .int .i64 0, .string ⟨#[]⟩, .int .i64 0, .int .u32 0, .int .i64 0, .slice none 0 0, .int .i64 0, .int .i64 0, .int .i64 0, .string ⟨#[]⟩, .int .i64 0, .int .u32 0]:=Zero.mk (z:=.agg #[.int .i64 0, .int .u32 0, .int .i64 0, .int .i64 0, .int .i64 0, .pointer none, .int .i64 0, .int .i64 0, .slice none 0 0, .int .i64 0, .int .i64 0, .int .i64 0, .string ⟨#[]⟩, .int .i64 0, .int .u32 0, .int .i64 0, .slice none 0 0, .int .i64 0, .int .i64 0, .int .i64 0, .string ⟨#[]⟩, .int .i64 0, .int .u32 0]) Es rfl
theorem UO:(Tryz.prog.info? 114).map (·.size)=some 1:=by kernel_rfl
theorem MX:One Tryz.prog 114:=One.mk Tryz.underlying114 rfl UO
theorem QY:(Tryz.prog.info? 115).map (·.size)=some 1:=by kernel_rfl
theorem AcS:One Tryz.prog 115:=One.mk Tryz.underlying115 rfl QY
theorem UY:(Tryz.prog.info? 116).map (·.size)=some 1:=by kernel_rfl
theorem AbG:One Tryz.prog 116:=One.mk Tryz.underlying116 rfl UY
theorem TJ:(Tryz.prog.info? 117).map (·.size)=some 1:=by kernel_rfl
theorem Ac5:One Tryz.prog 117:=One.mk Tryz.underlying117 rfl TJ
theorem Vf:(Tryz.prog.info? 119).map (·.size)=some 10:=by kernel_rfl
theorem OO:EL Tryz.prog 119 10:=EL.mk Tryz.underlying119 rfl Vf
theorem MP:Zero Tryz.prog 119 [.int .i64 0, .int .i64 0, .slice none 0 0, .int .i64 0, .int .i64 0, .int .i64 0, .int .i64 0, .int .i64 0, .slice none 0 0, .slice none 0 0]:=Zero.mk (z:=.agg #[.int .i64 0, .int .i64 0, .slice none 0 0, .int .i64 0, .int .i64 0, .int .i64 0, .int .i64 0, .int .i64 0, .slice none 0 0, .slice none 0 0]) Es rfl
theorem T5:(Tryz.prog.info? 120).map (·.size)=some 3:=by kernel_rfl
theorem Tn:EL Tryz.prog 120 3:=EL.mk Tryz.underlying120 rfl T5
theorem FI:Zero Tryz.prog 120 [.int .i64 0, .int .i64 0, .string ⟨#[]⟩]:=Zero.mk (z:=.agg #[.int .i64 0, .int .i64 0, .string ⟨#[]⟩]) Es rfl
theorem sz_122:(Tryz.prog.info? 122).map (·.size)=some 20:=by kernel_rfl
theorem AaE:EL Tryz.prog 122 20:=EL.mk Tryz.underlying122 rfl sz_122
theorem H7:Zero Tryz.prog 122 [.int .i64 0, .int .i64 0, .int .i64 0, .int .u32 0, .slice none 0 0, .slice none 0 0, .int .i64 0, .int .i64 0, .slice none 0 0, .int .i64 0, .int .i64 0, .int .i64 0, .int .i64 0, .int .i64 0, .slice none 0 0, .slice none 0 0, .slice none 0 0, .int .i64 0, .int .i64 0, .string ⟨#[]⟩]:=Zero.mk (z:=.agg #[.int .i64 0, .int .i64 0, .int .i64 0, .int .u32 0, .slice none 0 0, .slice none 0 0, .int .i64 0, .int .i64 0, .slice none 0 0, .int .i64 0, .int .i64 0, .int .i64 0, .int .i64 0, .int .i64 0, .slice none 0 0, .slice none 0 0, .slice none 0 0, .int .i64 0, .int .i64 0, .string ⟨#[]⟩]) Es rfl
theorem Jz:(Tryz.prog.info? 132).map (·.size)=some 5:=by kernel_rfl
theorem Ux:(Tryz.prog.info? 132).map (·.bytes)=some 40:=by kernel_rfl
theorem Py:EL Tryz.prog 132 5:=EL.mk Tryz.underlying132 rfl Jz
theorem Hp:Zero Tryz.prog 132 [.int .i64 0, .int .i64 0, .int .i64 0, .int .i64 0, .int .i64 0]:=Zero.mk (z:=.agg #[.int .i64 0, .int .i64 0, .int .i64 0, .int .i64 0, .int .i64 0]) Es rfl
theorem Zq:Zero Tryz.prog 138 [.int .i64 0, .int .i64 0, .int .i64 0, .int .u32 0]:=Zero.mk (z:=.agg #[.int .i64 0, .int .i64 0, .int .i64 0, .int .u32 0]) Es rfl
theorem Lf:(Tryz.prog.info? 140).map (·.size)=some 2:=by kernel_rfl
theorem T3:(Tryz.prog.info? 140).map (·.bytes)=some 32:=by kernel_rfl
theorem SD:EL Tryz.prog 140 2:=EL.mk Tryz.underlying140 rfl Lf
theorem Ix:Zero Tryz.prog 140 [.int .i64 0, .slice none 0 0]:=Zero.mk (z:=.agg #[.int .i64 0, .slice none 0 0]) Es rfl
theorem Uk:(Tryz.prog.info? 149).map (·.size)=some 1:=by kernel_rfl
theorem Vr:One Tryz.prog 149:=One.mk Tryz.underlying149 rfl Uk
theorem Up:(Tryz.prog.info? 151).map (·.size)=some 1:=by kernel_rfl
theorem Oq:One Tryz.prog 151:=One.mk Tryz.underlying151 rfl Up
theorem YR:Zero Tryz.prog 153 [.int .i64 0, .slice none 0 0, .map none]:=Zero.mk (z:=.agg #[.int .i64 0, .slice none 0 0, .map none]) Es rfl
theorem EE:(Tryz.prog.info? 154).map (·.size)=some 1:=by kernel_rfl
theorem by_154:(Tryz.prog.info? 154).map (·.bytes)=some 8:=by kernel_rfl
theorem FV:One Tryz.prog 154:=One.mk Tryz.underlying154 rfl EE
theorem SU:Zero Tryz.prog 154 [.pointer none]:=Zero.mk (z:=.pointer none) Es rfl
theorem Abd:Zero Tryz.prog 159 [.int .i64 0, .int .i64 0, .int .i64 0]:=Zero.mk (z:=.agg #[.int .i64 0, .int .i64 0, .int .i64 0]) Es rfl
theorem K0:(Tryz.prog.info? 169).map (·.size)=some 2:=by kernel_rfl
theorem RH:(Tryz.prog.info? 169).map (·.bytes)=some 32:=by kernel_rfl
theorem H0:Zero Tryz.prog 169 [.int .i64 0, .slice none 0 0]:=Zero.mk (z:=.agg #[.int .i64 0, .slice none 0 0]) Es rfl
theorem Ng:(Tryz.prog.info? 177).map (·.size)=some 2:=by kernel_rfl
theorem by_177:(Tryz.prog.info? 177).map (·.bytes)=some 16:=by kernel_rfl
theorem O6:EL Tryz.prog 177 2:=EL.mk Tryz.underlying177 rfl Ng
theorem JU:Zero Tryz.prog 177 [.int .u32 0, .int .i64 0]:=Zero.mk (z:=.agg #[.int .u32 0, .int .i64 0]) Es rfl
theorem Ky:(Tryz.prog.info? 181).map (·.size)=some 2:=by kernel_rfl
theorem TT:(Tryz.prog.info? 181).map (·.bytes)=some 32:=by kernel_rfl
theorem O2:EL Tryz.prog 181 2:=EL.mk Tryz.underlying181 rfl Ky
theorem H2:Zero Tryz.prog 181 [.int .i64 0, .slice none 0 0]:=Zero.mk (z:=.agg #[.int .i64 0, .slice none 0 0]) Es rfl
theorem U9:(Tryz.prog.info? 199).map (·.size)=some 2:=by kernel_rfl
theorem by_199:(Tryz.prog.info? 199).map (·.bytes)=some 16:=by kernel_rfl
theorem MK:Zero Tryz.prog 199 [.int .u32 0, .int .i64 0]:=Zero.mk (z:=.agg #[.int .u32 0, .int .i64 0]) Es rfl
theorem K4:(Tryz.prog.info? 201).map (·.size)=some 2:=by kernel_rfl
theorem TP:(Tryz.prog.info? 201).map (·.bytes)=some 32:=by kernel_rfl
theorem JN:Zero Tryz.prog 201 [.int .i64 0, .slice none 0 0]:=Zero.mk (z:=.agg #[.int .i64 0, .slice none 0 0]) Es rfl
theorem PO:(Tryz.prog.info? 207).map (·.size)=some 2:=by kernel_rfl
theorem by_207:(Tryz.prog.info? 207).map (·.bytes)=some 32:=by kernel_rfl
theorem Oz:EL Tryz.prog 207 2:=EL.mk Tryz.underlying207 rfl PO
theorem JI:Zero Tryz.prog 207 [.bool false, .slice none 0 0]:=Zero.mk (z:=.agg #[.bool false, .slice none 0 0]) Es rfl
theorem Q0:(Tryz.prog.info? 219).map (·.size)=some 2:=by kernel_rfl
theorem by_219:(Tryz.prog.info? 219).map (·.bytes)=some 32:=by kernel_rfl
theorem Zr:EL Tryz.prog 219 2:=EL.mk Tryz.underlying219 rfl Q0
theorem Lk:Zero Tryz.prog 219 [.bool false, .slice none 0 0]:=Zero.mk (z:=.agg #[.bool false, .slice none 0 0]) Es rfl
theorem Aae:AD Tryz.prog 35 0 0 3:=AD.mk Tryz.underlying35 rfl rfl rfl AP
theorem Y6:AD Tryz.prog 35 1 1 3:=AD.mk Tryz.underlying35 rfl rfl rfl AP
theorem ZR:AD Tryz.prog 35 2 2 31:=AD.mk Tryz.underlying35 rfl rfl rfl Aan
theorem YM:AD Tryz.prog 35 3 3 23:=AD.mk Tryz.underlying35 rfl rfl rfl JV
theorem Abp:AD Tryz.prog 35 4 4 3:=AD.mk Tryz.underlying35 rfl rfl rfl AP
theorem AaF:AD Tryz.prog 35 5 5 3:=AD.mk Tryz.underlying35 rfl rfl rfl AP
theorem Aal:AD Tryz.prog 35 6 6 3:=AD.mk Tryz.underlying35 rfl rfl rfl AP
theorem Aa4:AD Tryz.prog 35 7 7 23:=AD.mk Tryz.underlying35 rfl rfl rfl JV
theorem Aab:AD Tryz.prog 35 8 8 32:=AD.mk Tryz.underlying35 rfl rfl rfl MT
theorem Aa8:AD Tryz.prog 35 9 9 33:=AD.mk Tryz.underlying35 rfl rfl rfl ZY
theorem Zo:AD Tryz.prog 37 0 0 3:=AD.mk Tryz.underlying37 rfl rfl rfl AP
theorem YF:AD Tryz.prog 37 1 1 3:=AD.mk Tryz.underlying37 rfl rfl rfl AP
theorem Y9:AD Tryz.prog 37 2 2 9:=AD.mk Tryz.underlying37 rfl rfl rfl sz_9
theorem Abn:AD Tryz.prog 39 0 0 3:=AD.mk Tryz.underlying39 rfl rfl rfl AP
theorem Abv:AD Tryz.prog 39 1 1 3:=AD.mk Tryz.underlying39 rfl rfl rfl AP
theorem Z7:AD Tryz.prog 39 2 2 3:=AD.mk Tryz.underlying39 rfl rfl rfl AP
theorem Z6:AD Tryz.prog 39 3 3 23:=AD.mk Tryz.underlying39 rfl rfl rfl JV
theorem AaV:AD Tryz.prog 39 4 4 29:=AD.mk Tryz.underlying39 rfl rfl rfl ZS
theorem Aaa:AD Tryz.prog 39 5 5 30:=AD.mk Tryz.underlying39 rfl rfl rfl VJ
theorem Aat:AD Tryz.prog 39 6 6 35:=AD.mk Tryz.underlying39 rfl rfl rfl Abh
theorem ZI:AD Tryz.prog 39 7 16 30:=AD.mk Tryz.underlying39 rfl rfl rfl VJ
theorem Aaz:AD Tryz.prog 39 8 17 37:=AD.mk Tryz.underlying39 rfl rfl rfl QA
theorem Aa6:AD Tryz.prog 44 0 0 3:=AD.mk Tryz.underlying44 rfl rfl rfl AP
theorem YX:AD Tryz.prog 44 1 1 23:=AD.mk Tryz.underlying44 rfl rfl rfl JV
theorem Z9:AD Tryz.prog 44 2 2 3:=AD.mk Tryz.underlying44 rfl rfl rfl AP
theorem Abo:AD Tryz.prog 44 3 3 3:=AD.mk Tryz.underlying44 rfl rfl rfl AP
theorem ZB:AD Tryz.prog 44 4 4 3:=AD.mk Tryz.underlying44 rfl rfl rfl AP
theorem YQ:AD Tryz.prog 54 0 0 3:=AD.mk Tryz.underlying54 rfl rfl rfl AP
theorem Zg:AD Tryz.prog 54 1 1 3:=AD.mk Tryz.underlying54 rfl rfl rfl AP
theorem ZO:AD Tryz.prog 54 2 2 25:=AD.mk Tryz.underlying54 rfl rfl rfl G9
theorem Abe:AD Tryz.prog 54 3 3 39:=AD.mk Tryz.underlying54 rfl rfl rfl LR
theorem ZH:AD Tryz.prog 71 0 0 3:=AD.mk Tryz.underlying71 rfl rfl rfl AP
theorem Y1:AD Tryz.prog 71 1 1 3:=AD.mk Tryz.underlying71 rfl rfl rfl AP
theorem Aa3:AD Tryz.prog 71 2 2 39:=AD.mk Tryz.underlying71 rfl rfl rfl LR
theorem YH:AD Tryz.prog 71 3 22 25:=AD.mk Tryz.underlying71 rfl rfl rfl G9
theorem ZA:AD Tryz.prog 71 4 23 3:=AD.mk Tryz.underlying71 rfl rfl rfl AP
theorem Aa1:AD Tryz.prog 71 5 24 3:=AD.mk Tryz.underlying71 rfl rfl rfl AP
theorem AbA:AD Tryz.prog 71 6 25 37:=AD.mk Tryz.underlying71 rfl rfl rfl QA
theorem Abf:AD Tryz.prog 83 1 1 3:=AD.mk Tryz.underlying83 rfl rfl rfl AP
theorem Zc:AD Tryz.prog 83 2 2 3:=AD.mk Tryz.underlying83 rfl rfl rfl AP
theorem Y2:AD Tryz.prog 83 3 3 3:=AD.mk Tryz.underlying83 rfl rfl rfl AP
theorem AaL:AD Tryz.prog 83 4 4 22:=AD.mk Tryz.underlying83 rfl rfl rfl K5
theorem ZF:AD Tryz.prog 83 5 5 3:=AD.mk Tryz.underlying83 rfl rfl rfl AP
theorem Abk:AD Tryz.prog 83 6 6 3:=AD.mk Tryz.underlying83 rfl rfl rfl AP
theorem AbC:AD Tryz.prog 83 7 7 78:=AD.mk Tryz.underlying83 rfl rfl rfl VV
theorem Yz:AD Tryz.prog 83 8 9 79:=AD.mk Tryz.underlying83 rfl rfl rfl sz_79
theorem ZT:AD Tryz.prog 83 9 11 78:=AD.mk Tryz.underlying83 rfl rfl rfl VV
theorem Xp:AD Tryz.prog 83 10 13 80:=AD.mk Tryz.underlying83 rfl rfl rfl Y4
theorem Yu:AD Tryz.prog 83 11 18 81:=AD.mk Tryz.underlying83 rfl rfl rfl Z4
theorem XI:AD Tryz.prog 101 0 0 25:=AD.mk Tryz.underlying101 rfl rfl rfl G9
theorem Xg:AD Tryz.prog 101 1 1 3:=AD.mk Tryz.underlying101 rfl rfl rfl AP
theorem XR:AD Tryz.prog 101 2 2 37:=AD.mk Tryz.underlying101 rfl rfl rfl QA
theorem WA:AD Tryz.prog 103 0 0 3:=AD.mk Tryz.underlying103 rfl rfl rfl AP
theorem W5:AD Tryz.prog 103 1 1 101:=AD.mk Tryz.underlying103 rfl rfl rfl AaT
theorem W9:AD Tryz.prog 103 2 6 3:=AD.mk Tryz.underlying103 rfl rfl rfl AP
theorem W1:AD Tryz.prog 103 3 7 23:=AD.mk Tryz.underlying103 rfl rfl rfl JV
theorem W3:AD Tryz.prog 106 0 0 44:=AD.mk Tryz.underlying106 rfl rfl rfl ZZ
theorem X8:AD Tryz.prog 106 1 5 98:=AD.mk Tryz.underlying106 rfl rfl rfl AaB
theorem Xb:AD Tryz.prog 106 2 6 3:=AD.mk Tryz.underlying106 rfl rfl rfl AP
theorem Ys:AD Tryz.prog 106 3 7 104:=AD.mk Tryz.underlying106 rfl rfl rfl YL
theorem XJ:AD Tryz.prog 119 0 0 3:=AD.mk Tryz.underlying119 rfl rfl rfl AP
theorem Yq:AD Tryz.prog 119 1 1 3:=AD.mk Tryz.underlying119 rfl rfl rfl AP
theorem W7:AD Tryz.prog 119 2 2 116:=AD.mk Tryz.underlying119 rfl rfl rfl UY
theorem Wn:AD Tryz.prog 119 3 3 3:=AD.mk Tryz.underlying119 rfl rfl rfl AP
theorem WJ:AD Tryz.prog 119 4 4 3:=AD.mk Tryz.underlying119 rfl rfl rfl AP
theorem Xd:AD Tryz.prog 119 5 5 3:=AD.mk Tryz.underlying119 rfl rfl rfl AP
theorem Xa:AD Tryz.prog 119 6 6 3:=AD.mk Tryz.underlying119 rfl rfl rfl AP
theorem Yb:AD Tryz.prog 119 7 7 3:=AD.mk Tryz.underlying119 rfl rfl rfl AP
theorem Yl:AD Tryz.prog 119 8 8 32:=AD.mk Tryz.underlying119 rfl rfl rfl MT
theorem W2:AD Tryz.prog 119 9 9 117:=AD.mk Tryz.underlying119 rfl rfl rfl TJ
theorem Xx:AD Tryz.prog 120 0 0 3:=AD.mk Tryz.underlying120 rfl rfl rfl AP
theorem XN:AD Tryz.prog 120 1 1 3:=AD.mk Tryz.underlying120 rfl rfl rfl AP
theorem XU:AD Tryz.prog 122 0 0 3:=AD.mk Tryz.underlying122 rfl rfl rfl AP
theorem Yi:AD Tryz.prog 122 1 1 3:=AD.mk Tryz.underlying122 rfl rfl rfl AP
theorem Ws:AD Tryz.prog 122 2 2 3:=AD.mk Tryz.underlying122 rfl rfl rfl AP
theorem Xw:AD Tryz.prog 122 3 3 22:=AD.mk Tryz.underlying122 rfl rfl rfl K5
theorem Yd:AD Tryz.prog 122 4 4 114:=AD.mk Tryz.underlying122 rfl rfl rfl UO
theorem Xr:AD Tryz.prog 122 5 5 115:=AD.mk Tryz.underlying122 rfl rfl rfl QY
theorem Yy:AD Tryz.prog 122 6 6 119:=AD.mk Tryz.underlying122 rfl rfl rfl Vf
theorem WD:AD Tryz.prog 122 7 16 115:=AD.mk Tryz.underlying122 rfl rfl rfl QY
theorem WW:AD Tryz.prog 122 8 17 120:=AD.mk Tryz.underlying122 rfl rfl rfl T5
theorem XA:AD Tryz.prog 132 0 0 3:=AD.mk Tryz.underlying132 rfl rfl rfl AP
theorem W8:AD Tryz.prog 132 1 1 3:=AD.mk Tryz.underlying132 rfl rfl rfl AP
theorem Xz:AD Tryz.prog 132 2 2 51:=AD.mk Tryz.underlying132 rfl rfl rfl Wd
theorem Yw:AD Tryz.prog 138 0 0 3:=AD.mk Tryz.underlying138 rfl rfl rfl AP
theorem Yn:AD Tryz.prog 138 1 1 3:=AD.mk Tryz.underlying138 rfl rfl rfl AP
theorem Wz:AD Tryz.prog 138 2 2 3:=AD.mk Tryz.underlying138 rfl rfl rfl AP
theorem Xq:AD Tryz.prog 138 3 3 22:=AD.mk Tryz.underlying138 rfl rfl rfl K5
theorem Wv:AD Tryz.prog 140 0 0 3:=AD.mk Tryz.underlying140 rfl rfl rfl AP
theorem Wx:AD Tryz.prog 140 1 1 25:=AD.mk Tryz.underlying140 rfl rfl rfl G9
theorem Wy:AD Tryz.prog 153 0 0 3:=AD.mk Tryz.underlying153 rfl rfl rfl AP
theorem WN:AD Tryz.prog 153 1 1 151:=AD.mk Tryz.underlying153 rfl rfl rfl Up
theorem X4:AD Tryz.prog 153 2 2 149:=AD.mk Tryz.underlying153 rfl rfl rfl Uk
theorem Wr:AD Tryz.prog 159 0 0 3:=AD.mk Tryz.underlying159 rfl rfl rfl AP
theorem XM:AD Tryz.prog 159 1 1 3:=AD.mk Tryz.underlying159 rfl rfl rfl AP
theorem X2:AD Tryz.prog 159 2 2 3:=AD.mk Tryz.underlying159 rfl rfl rfl AP
theorem WX:AD Tryz.prog 177 0 0 23:=AD.mk Tryz.underlying177 rfl rfl rfl JV
theorem W4:AD Tryz.prog 177 1 1 3:=AD.mk Tryz.underlying177 rfl rfl rfl AP
theorem Xc:AD Tryz.prog 181 0 0 3:=AD.mk Tryz.underlying181 rfl rfl rfl AP
theorem X5:AD Tryz.prog 181 1 1 25:=AD.mk Tryz.underlying181 rfl rfl rfl G9
theorem WS:AD Tryz.prog 201 0 0 3:=AD.mk Tryz.underlying201 rfl rfl rfl AP
theorem WT:AD Tryz.prog 207 0 0 4:=AD.mk Tryz.underlying207 rfl rfl rfl XQ
theorem X3:AD Tryz.prog 207 1 1 32:=AD.mk Tryz.underlying207 rfl rfl rfl MT
theorem WO:AD Tryz.prog 219 1 1 32:=AD.mk Tryz.underlying219 rfl rfl rfl MT
theorem plc_35:ET Tryz.prog 35 [(0,1),(1,1),(2,1),(3,1),(4,1),(5,1),(6,1),(7,1),(8,1),(9,1)]:=⟨_,Tryz.underlying35,fun w=>by simp [run_sizeOf AP,run_sizeOf Aan,run_sizeOf JV,run_sizeOf MT,run_sizeOf ZY]⟩
theorem plc_37:ET Tryz.prog 37 [(0,1),(1,1),(2,1)]:=⟨_,Tryz.underlying37,fun w=>by simp [run_sizeOf AP,run_sizeOf sz_9]⟩
theorem plc_39:ET Tryz.prog 39 [(0,1),(1,1),(2,1),(3,1),(4,1),(5,1),(6,10),(16,1),(17,3)]:=⟨_,Tryz.underlying39,fun w=>by simp [run_sizeOf AP,run_sizeOf JV,run_sizeOf ZS,run_sizeOf VJ,run_sizeOf Abh,run_sizeOf QA]⟩
theorem plc_44:ET Tryz.prog 44 [(0,1),(1,1),(2,1),(3,1),(4,1)]:=⟨_,Tryz.underlying44,fun w=>by simp [run_sizeOf AP,run_sizeOf JV]⟩
theorem plc_54:ET Tryz.prog 54 [(0,1),(1,1),(2,1),(3,20)]:=⟨_,Tryz.underlying54,fun w=>by simp [run_sizeOf AP,run_sizeOf G9,run_sizeOf LR]⟩
theorem plc_83:ET Tryz.prog 83 [(0,1),(1,1),(2,1),(3,1),(4,1),(5,1),(6,1),(7,2),(9,2),(11,2),(13,5),(18,1)]:=⟨_,Tryz.underlying83,fun w=>by simp [run_sizeOf AP,run_sizeOf K5,run_sizeOf VV,run_sizeOf sz_79,run_sizeOf Y4,run_sizeOf Z4]⟩
theorem AcR:ET Tryz.prog 103 [(0,1),(1,5),(6,1),(7,1)]:=⟨_,Tryz.underlying103,fun w=>by simp [run_sizeOf AP,run_sizeOf AaT,run_sizeOf JV]⟩
theorem AbQ:ET Tryz.prog 106 [(0,5),(5,1),(6,1),(7,16)]:=⟨_,Tryz.underlying106,fun w=>by simp [run_sizeOf ZZ,run_sizeOf AaB,run_sizeOf AP,run_sizeOf YL]⟩
theorem AbH:ET Tryz.prog 119 [(0,1),(1,1),(2,1),(3,1),(4,1),(5,1),(6,1),(7,1),(8,1),(9,1)]:=⟨_,Tryz.underlying119,fun w=>by simp [run_sizeOf AP,run_sizeOf UY,run_sizeOf MT,run_sizeOf TJ]⟩
theorem Aco:ET Tryz.prog 120 [(0,1),(1,1),(2,1)]:=⟨_,Tryz.underlying120,fun w=>by simp [run_sizeOf AP,run_sizeOf sz_9]⟩
theorem Ac4:ET Tryz.prog 122 [(0,1),(1,1),(2,1),(3,1),(4,1),(5,1),(6,10),(16,1),(17,3)]:=⟨_,Tryz.underlying122,fun w=>by simp [run_sizeOf AP,run_sizeOf K5,run_sizeOf UO,run_sizeOf QY,run_sizeOf Vf,run_sizeOf T5]⟩
theorem Acv:ET Tryz.prog 132 [(0,1),(1,1),(2,3)]:=⟨_,Tryz.underlying132,fun w=>by simp [run_sizeOf AP,run_sizeOf Wd]⟩
theorem Ac9:ET Tryz.prog 138 [(0,1),(1,1),(2,1),(3,1)]:=⟨_,Tryz.underlying138,fun w=>by simp [run_sizeOf AP,run_sizeOf K5]⟩
theorem Acg:ET Tryz.prog 140 [(0,1),(1,1)]:=⟨_,Tryz.underlying140,fun w=>by simp [run_sizeOf AP,run_sizeOf G9]⟩
theorem AcW:ET Tryz.prog 153 [(0,1),(1,1),(2,1)]:=⟨_,Tryz.underlying153,fun w=>by simp [run_sizeOf AP,run_sizeOf Up,run_sizeOf Uk]⟩
theorem Acb:ET Tryz.prog 159 [(0,1),(1,1),(2,1)]:=⟨_,Tryz.underlying159,fun w=>by simp [run_sizeOf AP]⟩
theorem Acz:ET Tryz.prog 169 [(0,1),(1,1)]:=⟨_,Tryz.underlying169,fun w=>by simp [run_sizeOf AP,run_sizeOf G9]⟩
theorem Ab9:ET Tryz.prog 177 [(0,1),(1,1)]:=⟨_,Tryz.underlying177,fun w=>by simp [run_sizeOf JV,run_sizeOf AP]⟩
theorem AcG:ET Tryz.prog 181 [(0,1),(1,1)]:=⟨_,Tryz.underlying181,fun w=>by simp [run_sizeOf AP,run_sizeOf G9]⟩
theorem Ac1:ET Tryz.prog 199 [(0,1),(1,1)]:=⟨_,Tryz.underlying199,fun w=>by simp [run_sizeOf K5,run_sizeOf AP]⟩
theorem AbR:ET Tryz.prog 201 [(0,1),(1,1)]:=⟨_,Tryz.underlying201,fun w=>by simp [run_sizeOf AP,run_sizeOf G9]⟩
theorem AbI:ET Tryz.prog 207 [(0,1),(1,1)]:=⟨_,Tryz.underlying207,fun w=>by simp [run_sizeOf XQ,run_sizeOf MT]⟩
theorem Ab4:ET Tryz.prog 219 [(0,1),(1,1)]:=⟨_,Tryz.underlying219,fun w=>by simp [run_sizeOf XQ,run_sizeOf MT]⟩
theorem DX:EqK Tryz.prog 10000 37 true [.i .i64, .i .i64, .s]:=(EqK.struct Tryz.underlying37 Es QA (.cons (off:=0) (k1:=[.i .i64]) (k2:=[.i .i64, .s]) Es rfl (EqK.int Tryz.underlying3 AP) (.cons (off:=1) (k1:=[.i .i64]) (k2:=[.s]) Es rfl (EqK.int Tryz.underlying3 AP) (.cons (off:=2) (k1:=[.s]) (k2:=[]) Es rfl (EqK.string Tryz.underlying9 sz_9) .nil))))
theorem DU:Tryz.prog.eqGuardType Tryz.prog.depth 37=false:=by kernel_rfl
theorem eqk_51:EqK Tryz.prog 10000 51 true [.i .i64, .i .i64, .i .i64]:=(EqK.array Tryz.underlying51 Wd (EqK.int Tryz.underlying3 AP) rfl)
theorem eqg_51:Tryz.prog.eqGuardType Tryz.prog.depth 51=false:=by kernel_rfl
theorem Vj:EqK Tryz.prog 10000 177 true [.i .u32, .i .i64]:=(EqK.struct Tryz.underlying177 Es Ng (.cons (off:=0) (k1:=[.i .u32]) (k2:=[.i .i64]) Es rfl (EqK.int Tryz.underlying23 JV) (.cons (off:=1) (k1:=[.i .i64]) (k2:=[]) Es rfl (EqK.int Tryz.underlying3 AP) .nil)))
theorem Vh:Tryz.prog.eqGuardType Tryz.prog.depth 177=false:=by kernel_rfl
theorem ck_9:AI Tryz.prog 9:=AE Tryz.func9 Es rfl
theorem Tw:AI Tryz.prog 10:=AE Tryz.func10 Es rfl
theorem Abx:AI Tryz.prog 11:=AE Tryz.func11 Es rfl
theorem ck_12:AI Tryz.prog 12:=AE Tryz.func12 Es rfl
theorem Abl:AI Tryz.prog 13:=AE Tryz.func13 Es rfl
theorem ZQ:AI Tryz.prog 14:=AE Tryz.func14 Es rfl
theorem Qw:AI Tryz.prog 15:=AE Tryz.func15 Es rfl
theorem Vy:AI Tryz.prog 16:=AE Tryz.func16 Es rfl
theorem ck_17:AI Tryz.prog 17:=AE Tryz.func17 Es rfl
theorem Vl:AI Tryz.prog 18:=AE Tryz.func18 Es rfl
theorem ck_20:AI Tryz.prog 20:=AE Tryz.func20 Es rfl
theorem Zt:AI Tryz.prog 21:=AE Tryz.func21 Es rfl
theorem ck_22:AI Tryz.prog 22:=AE Tryz.func22 Es rfl
theorem AaD:AI Tryz.prog 23:=AE Tryz.func23 Es rfl
theorem ck_24:AI Tryz.prog 24:=AE Tryz.func24 Es rfl
theorem ck_25:AI Tryz.prog 25:=AE Tryz.func25 Es rfl
theorem ck_27:AI Tryz.prog 27:=AE Tryz.func27 Es rfl
theorem ck_28:AI Tryz.prog 28:=AE Tryz.func28 Es rfl
theorem ck_29:AI Tryz.prog 29:=AE Tryz.func29 Es rfl
theorem VQ:AI Tryz.prog 30:=AE Tryz.func30 Es rfl
theorem ck_31:AI Tryz.prog 31:=AE Tryz.func31 Es rfl
theorem ck_32:AI Tryz.prog 32:=AE Tryz.func32 Es rfl
theorem ck_33:AI Tryz.prog 33:=AE Tryz.func33 Es rfl
theorem ck_34:AI Tryz.prog 34:=AE Tryz.func34 Es rfl
theorem ck_35:AI Tryz.prog 35:=AE Tryz.func35 Es rfl
theorem ck_36:AI Tryz.prog 36:=AE Tryz.func36 Es rfl
theorem ck_37:AI Tryz.prog 37:=AE Tryz.func37 Es rfl
theorem ck_38:AI Tryz.prog 38:=AE Tryz.func38 Es rfl
theorem ck_39:AI Tryz.prog 39:=AE Tryz.func39 Es rfl
theorem ck_40:AI Tryz.prog 40:=AE Tryz.func40 Es rfl
theorem ck_41:AI Tryz.prog 41:=AE Tryz.func41 Es rfl
theorem ck_42:AI Tryz.prog 42:=AE Tryz.func42 Es rfl
theorem ck_43:AI Tryz.prog 43:=AE Tryz.func43 Es rfl
theorem ck_44:AI Tryz.prog 44:=AE Tryz.func44 Es rfl
theorem ck_45:AI Tryz.prog 45:=AE Tryz.func45 Es rfl
theorem ck_46:AI Tryz.prog 46:=AE Tryz.func46 Es rfl
theorem ck_47:AI Tryz.prog 47:=AE Tryz.func47 Es rfl
theorem LU:AI Tryz.prog 48:=AE Tryz.func48 Es rfl
theorem ck_49:AI Tryz.prog 49:=AE Tryz.func49 Es rfl
theorem ck_50:AI Tryz.prog 50:=AE Tryz.func50 Es rfl
theorem HI:AI Tryz.prog 51:=AE Tryz.func51 Es rfl
theorem KV:AI Tryz.prog 52:=AE Tryz.func52 Es rfl
theorem KT:AI Tryz.prog 53:=AE Tryz.func53 Es rfl
theorem N9:AI Tryz.prog 54:=AE Tryz.func54 Es rfl
theorem ck_55:AI Tryz.prog 55:=AE Tryz.func55 Es rfl
theorem ck_56:AI Tryz.prog 56:=AE Tryz.func56 Es rfl
theorem QQ:AI Tryz.prog 57:=AE Tryz.func57 Es rfl
theorem ck_58:AI Tryz.prog 58:=AE Tryz.func58 Es rfl
theorem VO:AI Tryz.prog 59:=AE Tryz.func59 Es rfl
theorem OR:AI Tryz.prog 60:=AE Tryz.func60 Es rfl
theorem Y0:AI Tryz.prog 61:=AE Tryz.func61 Es rfl
theorem ck_62:AI Tryz.prog 62:=AE Tryz.func62 Es rfl
theorem H8:AI Tryz.prog 63:=AE Tryz.func63 Es rfl
theorem Sp:AI Tryz.prog 64:=AE Tryz.func64 Es rfl
theorem ck_65:AI Tryz.prog 65:=AE Tryz.func65 Es rfl
theorem ck_66:AI Tryz.prog 66:=AE Tryz.func66 Es rfl
theorem KP:AI Tryz.prog 67:=AE Tryz.func67 Es rfl
theorem Ju:AI Tryz.prog 68:=AE Tryz.func68 Es rfl
theorem LX:AI Tryz.prog 69:=AE Tryz.func69 Es rfl
theorem AaO:AI Tryz.prog 70:=AE Tryz.func70 Es rfl
theorem Sy:AI Tryz.prog 71:=AE Tryz.func71 Es rfl
theorem ck_72:AI Tryz.prog 72:=AE Tryz.func72 Es rfl
theorem ck_73:AI Tryz.prog 73:=AE Tryz.func73 Es rfl
theorem ck_74:AI Tryz.prog 74:=AE Tryz.func74 Es rfl
theorem ck_75:AI Tryz.prog 75:=AE Tryz.func75 Es rfl
theorem ck_76:AI Tryz.prog 76:=AE Tryz.func76 Es rfl
theorem ck_77:AI Tryz.prog 77:=AE Tryz.func77 Es rfl
theorem ck_78:AI Tryz.prog 78:=AE Tryz.func78 Es rfl
theorem ck_79:AI Tryz.prog 79:=AE Tryz.func79 Es rfl
theorem ck_81:AI Tryz.prog 81:=AE Tryz.func81 Es rfl
theorem ck_82:AI Tryz.prog 82:=AE Tryz.func82 Es rfl
theorem ck_83:AI Tryz.prog 83:=AE Tryz.func83 Es rfl
theorem Tq:AI Tryz.prog 84:=AE Tryz.func84 Es rfl
theorem ck_85:AI Tryz.prog 85:=AE Tryz.func85 Es rfl
theorem Qy:AI Tryz.prog 86:=AE Tryz.func86 Es rfl
theorem V2:AI Tryz.prog 87:=AE Tryz.func87 Es rfl
theorem ck_88:AI Tryz.prog 88:=AE Tryz.func88 Es rfl
theorem ck_89:AI Tryz.prog 89:=AE Tryz.func89 Es rfl
theorem Od:AI Tryz.prog 90:=AE Tryz.func90 Es rfl
theorem G7:AI Tryz.prog 91:=AE Tryz.func91 Es rfl
theorem ck_92:AI Tryz.prog 92:=AE Tryz.func92 Es rfl
theorem ck_93:AI Tryz.prog 93:=AE Tryz.func93 Es rfl
theorem ck_94:AI Tryz.prog 94:=AE Tryz.func94 Es rfl
theorem ck_95:AI Tryz.prog 95:=AE Tryz.func95 Es rfl
theorem Zm:AI Tryz.prog 96:=AE Tryz.func96 Es rfl
theorem ck_97:AI Tryz.prog 97:=AE Tryz.func97 Es rfl
theorem Ty:AI Tryz.prog 98:=AE Tryz.func98 Es rfl
theorem ck_99:AI Tryz.prog 99:=AE Tryz.func99 Es rfl
theorem Q7:AI Tryz.prog 100:=AE Tryz.func100 Es rfl
theorem T9:AI Tryz.prog 101:=AE Tryz.func101 Es rfl
theorem Zn:AI Tryz.prog 102:=AE Tryz.func102 Es rfl
theorem ck_104:AI Tryz.prog 104:=AE Tryz.func104 Es rfl
theorem Ru:AI Tryz.prog 105:=AE Tryz.func105 Es rfl
theorem UD:AI Tryz.prog 106:=AE Tryz.func106 Es rfl
theorem ck_107:AI Tryz.prog 107:=AE Tryz.func107 Es rfl
theorem ck_108:AI Tryz.prog 108:=AE Tryz.func108 Es rfl
theorem ck_109:AI Tryz.prog 109:=AE Tryz.func109 Es rfl
theorem Nj:AI Tryz.prog 110:=AE Tryz.func110 Es rfl
theorem Pk:AI Tryz.prog 111:=AE Tryz.func111 Es rfl
theorem Zz:AI Tryz.prog 112:=AE Tryz.func112 Es rfl
theorem ck_113:AI Tryz.prog 113:=AE Tryz.func113 Es rfl
theorem ck_114:AI Tryz.prog 114:=AE Tryz.func114 Es rfl
theorem ck_115:AI Tryz.prog 115:=AE Tryz.func115 Es rfl
theorem Ku:AI Tryz.prog 116:=AE Tryz.func116 Es rfl
theorem YW:AI Tryz.prog 117:=AE Tryz.func117 Es rfl
theorem ck_118:AI Tryz.prog 118:=AE Tryz.func118 Es rfl
theorem ck_119:AI Tryz.prog 119:=AE Tryz.func119 Es rfl
theorem T6:AI Tryz.prog 120:=AE Tryz.func120 Es rfl
theorem UZ:AI Tryz.prog 121:=AE Tryz.func121 Es rfl
theorem TR:AI Tryz.prog 122:=AE Tryz.func122 Es rfl
theorem ck_123:AI Tryz.prog 123:=AE Tryz.func123 Es rfl
theorem FR:AI Tryz.prog 124:=AE Tryz.func124 Es rfl
theorem Za:AI Tryz.prog 125:=AE Tryz.func125 Es rfl
theorem Aad:AI Tryz.prog 126:=AE Tryz.func126 Es rfl
theorem Y5:AI Tryz.prog 127:=AE Tryz.func127 Es rfl
theorem Abw:AI Tryz.prog 128:=AE Tryz.func128 Es rfl
theorem ck_129:AI Tryz.prog 129:=AE Tryz.func129 Es rfl
theorem ck_130:AI Tryz.prog 130:=AE Tryz.func130 Es rfl
theorem Aaq:AI Tryz.prog 131:=AE Tryz.func131 Es rfl
theorem Nn:AI Tryz.prog 132:=AE Tryz.func132 Es rfl
theorem ZU:AI Tryz.prog 133:=AE Tryz.func133 Es rfl
theorem YB:AI Tryz.prog 134:=AE Tryz.func134 Es rfl
theorem ck_135:AI Tryz.prog 135:=AE Tryz.func135 Es rfl
theorem ck_136:AI Tryz.prog 136:=AE Tryz.func136 Es rfl
theorem ck_137:AI Tryz.prog 137:=AE Tryz.func137 Es rfl
theorem ck_138:AI Tryz.prog 138:=AE Tryz.func138 Es rfl
theorem ck_139:AI Tryz.prog 139:=AE Tryz.func139 Es rfl
theorem ck_140:AI Tryz.prog 140:=AE Tryz.func140 Es rfl
theorem ck_141:AI Tryz.prog 141:=AE Tryz.func141 Es rfl
theorem Jg:AI Tryz.prog 142:=AE Tryz.func142 Es rfl
theorem ck_143:AI Tryz.prog 143:=AE Tryz.func143 Es rfl
theorem YK:AI Tryz.prog 146:=AE Tryz.func146 Es rfl
theorem ck_147:AI Tryz.prog 147:=AE Tryz.func147 Es rfl
theorem Pb:AI Tryz.prog 183:=AE Tryz.func183 Es rfl
theorem OF:AI Tryz.prog 184:=AE Tryz.func184 Es rfl
theorem Ma:AI Tryz.prog 185:=AE Tryz.func185 Es rfl
theorem Pn:AI Tryz.prog 186:=AE Tryz.func186 Es rfl
theorem ck_187:AI Tryz.prog 187:=AE Tryz.func187 Es rfl
instance i3o:Jh Tryz.prog 3:=⟨AK⟩
instance i4o:Jh Tryz.prog 4:=⟨Zi⟩
instance i9o:Jh Tryz.prog 9:=⟨one_9⟩
instance i22o:Jh Tryz.prog 22:=⟨Lt⟩
instance i23o:Jh Tryz.prog 23:=⟨Um⟩
instance i25o:Jh Tryz.prog 25:=⟨G3⟩
instance i29o:Jh Tryz.prog 29:=⟨RG⟩
instance i30o:Jh Tryz.prog 30:=⟨Q5⟩
instance i31o:Jh Tryz.prog 31:=⟨one_31⟩
instance i32o:Jh Tryz.prog 32:=⟨one_32⟩
instance i33o:Jh Tryz.prog 33:=⟨one_33⟩
instance i35m:Hm Tryz.prog 35 10:=⟨Lz⟩
instance i37m:Hm Tryz.prog 37 3:=⟨Im⟩
instance i39m:Hm Tryz.prog 39 20:=⟨Jx⟩
instance i44m:Hm Tryz.prog 44 5:=⟨Acd⟩
instance i51m:Hm Tryz.prog 51 3:=⟨VG⟩
instance i54m:Hm Tryz.prog 54 23:=⟨Vp⟩
instance i71m:Hm Tryz.prog 71 28:=⟨Vw⟩
instance i78m:Hm Tryz.prog 78 2:=⟨V3⟩
instance i81o:Jh Tryz.prog 81:=⟨T4⟩
instance i83m:Hm Tryz.prog 83 19:=⟨Adj⟩
instance i85m:Hm Tryz.prog 85 2:=⟨Acm⟩
instance i98o:Jh Tryz.prog 98:=⟨Zl⟩
instance i114o:Jh Tryz.prog 114:=⟨MX⟩
instance i115o:Jh Tryz.prog 115:=⟨AcS⟩
instance i116o:Jh Tryz.prog 116:=⟨AbG⟩
instance i117o:Jh Tryz.prog 117:=⟨Ac5⟩
instance i119m:Hm Tryz.prog 119 10:=⟨OO⟩
instance i120m:Hm Tryz.prog 120 3:=⟨Tn⟩
instance i122m:Hm Tryz.prog 122 20:=⟨AaE⟩
instance i132m:Hm Tryz.prog 132 5:=⟨Py⟩
instance i140m:Hm Tryz.prog 140 2:=⟨SD⟩
instance i149o:Jh Tryz.prog 149:=⟨Vr⟩
instance i151o:Jh Tryz.prog 151:=⟨Oq⟩
instance i154o:Jh Tryz.prog 154:=⟨FV⟩
instance i177m:Hm Tryz.prog 177 2:=⟨O6⟩
instance i181m:Hm Tryz.prog 181 2:=⟨O2⟩
instance i207m:Hm Tryz.prog 207 2:=⟨Oz⟩
instance i219m:Hm Tryz.prog 219 2:=⟨Zr⟩
instance i35_0:BN Tryz.prog 35 0 0 3:=⟨Aae⟩
instance i35_1:BN Tryz.prog 35 1 1 3:=⟨Y6⟩
instance i35_2:BN Tryz.prog 35 2 2 31:=⟨ZR⟩
instance i35_3:BN Tryz.prog 35 3 3 23:=⟨YM⟩
instance i35_4:BN Tryz.prog 35 4 4 3:=⟨Abp⟩
instance i35_5:BN Tryz.prog 35 5 5 3:=⟨AaF⟩
instance i35_6:BN Tryz.prog 35 6 6 3:=⟨Aal⟩
instance i35_7:BN Tryz.prog 35 7 7 23:=⟨Aa4⟩
instance i35_8:BN Tryz.prog 35 8 8 32:=⟨Aab⟩
instance i35_9:BN Tryz.prog 35 9 9 33:=⟨Aa8⟩
instance i37_0:BN Tryz.prog 37 0 0 3:=⟨Zo⟩
instance i37_1:BN Tryz.prog 37 1 1 3:=⟨YF⟩
instance i37_2:BN Tryz.prog 37 2 2 9:=⟨Y9⟩
instance i39_0:BN Tryz.prog 39 0 0 3:=⟨Abn⟩
instance i39_1:BN Tryz.prog 39 1 1 3:=⟨Abv⟩
instance i39_2:BN Tryz.prog 39 2 2 3:=⟨Z7⟩
instance i39_3:BN Tryz.prog 39 3 3 23:=⟨Z6⟩
instance i39_4:BN Tryz.prog 39 4 4 29:=⟨AaV⟩
instance i39_5:BN Tryz.prog 39 5 5 30:=⟨Aaa⟩
instance i39_6:BN Tryz.prog 39 6 6 35:=⟨Aat⟩
instance i39_7:BN Tryz.prog 39 7 16 30:=⟨ZI⟩
instance i39_8:BN Tryz.prog 39 8 17 37:=⟨Aaz⟩
instance i44_0:BN Tryz.prog 44 0 0 3:=⟨Aa6⟩
instance i44_1:BN Tryz.prog 44 1 1 23:=⟨YX⟩
instance i44_2:BN Tryz.prog 44 2 2 3:=⟨Z9⟩
instance i44_3:BN Tryz.prog 44 3 3 3:=⟨Abo⟩
instance i44_4:BN Tryz.prog 44 4 4 3:=⟨ZB⟩
instance i54_0:BN Tryz.prog 54 0 0 3:=⟨YQ⟩
instance i54_1:BN Tryz.prog 54 1 1 3:=⟨Zg⟩
instance i54_2:BN Tryz.prog 54 2 2 25:=⟨ZO⟩
instance i54_3:BN Tryz.prog 54 3 3 39:=⟨Abe⟩
instance i71_0:BN Tryz.prog 71 0 0 3:=⟨ZH⟩
instance i71_1:BN Tryz.prog 71 1 1 3:=⟨Y1⟩
instance i71_2:BN Tryz.prog 71 2 2 39:=⟨Aa3⟩
instance i71_3:BN Tryz.prog 71 3 22 25:=⟨YH⟩
instance i71_4:BN Tryz.prog 71 4 23 3:=⟨ZA⟩
instance i71_5:BN Tryz.prog 71 5 24 3:=⟨Aa1⟩
instance i71_6:BN Tryz.prog 71 6 25 37:=⟨AbA⟩
instance i83_1:BN Tryz.prog 83 1 1 3:=⟨Abf⟩
instance i83_2:BN Tryz.prog 83 2 2 3:=⟨Zc⟩
instance i83_3:BN Tryz.prog 83 3 3 3:=⟨Y2⟩
instance i83_4:BN Tryz.prog 83 4 4 22:=⟨AaL⟩
instance i83_5:BN Tryz.prog 83 5 5 3:=⟨ZF⟩
instance i83_6:BN Tryz.prog 83 6 6 3:=⟨Abk⟩
instance i83_7:BN Tryz.prog 83 7 7 78:=⟨AbC⟩
instance i83_8:BN Tryz.prog 83 8 9 79:=⟨Yz⟩
instance i83_9:BN Tryz.prog 83 9 11 78:=⟨ZT⟩
instance i83_10:BN Tryz.prog 83 10 13 80:=⟨Xp⟩
instance i83_11:BN Tryz.prog 83 11 18 81:=⟨Yu⟩
instance i101_0:BN Tryz.prog 101 0 0 25:=⟨XI⟩
instance i101_1:BN Tryz.prog 101 1 1 3:=⟨Xg⟩
instance i101_2:BN Tryz.prog 101 2 2 37:=⟨XR⟩
instance i103_0:BN Tryz.prog 103 0 0 3:=⟨WA⟩
instance i103_1:BN Tryz.prog 103 1 1 101:=⟨W5⟩
instance i103_2:BN Tryz.prog 103 2 6 3:=⟨W9⟩
instance i103_3:BN Tryz.prog 103 3 7 23:=⟨W1⟩
instance i106_0:BN Tryz.prog 106 0 0 44:=⟨W3⟩
instance i106_1:BN Tryz.prog 106 1 5 98:=⟨X8⟩
instance i106_2:BN Tryz.prog 106 2 6 3:=⟨Xb⟩
instance i106_3:BN Tryz.prog 106 3 7 104:=⟨Ys⟩
instance i119_0:BN Tryz.prog 119 0 0 3:=⟨XJ⟩
instance i119_1:BN Tryz.prog 119 1 1 3:=⟨Yq⟩
instance i119_2:BN Tryz.prog 119 2 2 116:=⟨W7⟩
instance i119_3:BN Tryz.prog 119 3 3 3:=⟨Wn⟩
instance i119_4:BN Tryz.prog 119 4 4 3:=⟨WJ⟩
instance i119_5:BN Tryz.prog 119 5 5 3:=⟨Xd⟩
instance i119_6:BN Tryz.prog 119 6 6 3:=⟨Xa⟩
instance i119_7:BN Tryz.prog 119 7 7 3:=⟨Yb⟩
instance i119_8:BN Tryz.prog 119 8 8 32:=⟨Yl⟩
instance i119_9:BN Tryz.prog 119 9 9 117:=⟨W2⟩
instance i120_0:BN Tryz.prog 120 0 0 3:=⟨Xx⟩
instance i120_1:BN Tryz.prog 120 1 1 3:=⟨XN⟩
instance i122_0:BN Tryz.prog 122 0 0 3:=⟨XU⟩
instance i122_1:BN Tryz.prog 122 1 1 3:=⟨Yi⟩
instance i122_2:BN Tryz.prog 122 2 2 3:=⟨Ws⟩
instance i122_3:BN Tryz.prog 122 3 3 22:=⟨Xw⟩
instance i122_4:BN Tryz.prog 122 4 4 114:=⟨Yd⟩
instance i122_5:BN Tryz.prog 122 5 5 115:=⟨Xr⟩
instance i122_6:BN Tryz.prog 122 6 6 119:=⟨Yy⟩
instance i122_7:BN Tryz.prog 122 7 16 115:=⟨WD⟩
instance i122_8:BN Tryz.prog 122 8 17 120:=⟨WW⟩
instance i132_0:BN Tryz.prog 132 0 0 3:=⟨XA⟩
instance i132_1:BN Tryz.prog 132 1 1 3:=⟨W8⟩
instance i132_2:BN Tryz.prog 132 2 2 51:=⟨Xz⟩
instance i138_0:BN Tryz.prog 138 0 0 3:=⟨Yw⟩
instance i138_1:BN Tryz.prog 138 1 1 3:=⟨Yn⟩
instance i138_2:BN Tryz.prog 138 2 2 3:=⟨Wz⟩
instance i138_3:BN Tryz.prog 138 3 3 22:=⟨Xq⟩
instance i140_0:BN Tryz.prog 140 0 0 3:=⟨Wv⟩
instance i140_1:BN Tryz.prog 140 1 1 25:=⟨Wx⟩
instance i153_0:BN Tryz.prog 153 0 0 3:=⟨Wy⟩
instance i153_1:BN Tryz.prog 153 1 1 151:=⟨WN⟩
instance i153_2:BN Tryz.prog 153 2 2 149:=⟨X4⟩
instance i159_0:BN Tryz.prog 159 0 0 3:=⟨Wr⟩
instance i159_1:BN Tryz.prog 159 1 1 3:=⟨XM⟩
instance i159_2:BN Tryz.prog 159 2 2 3:=⟨X2⟩
instance i177_0:BN Tryz.prog 177 0 0 23:=⟨WX⟩
instance i177_1:BN Tryz.prog 177 1 1 3:=⟨W4⟩
instance i181_0:BN Tryz.prog 181 0 0 3:=⟨Xc⟩
instance i181_1:BN Tryz.prog 181 1 1 25:=⟨X5⟩
instance i201_0:BN Tryz.prog 201 0 0 3:=⟨WS⟩
instance i207_0:BN Tryz.prog 207 0 0 4:=⟨WT⟩
instance i207_1:BN Tryz.prog 207 1 1 32:=⟨X3⟩
instance i219_1:BN Tryz.prog 219 1 1 32:=⟨WO⟩
instance i35z:G6 Tryz.prog 35 [.int .i64 0, .int .i64 0, .slice none 0 0, .int .u32 0, .int .i64 0, .int .i64 0, .int .i64 0, .int .u32 0, .slice none 0 0, .slice none 0 0]:=⟨Ot⟩
instance i37z:G6 Tryz.prog 37 [.int .i64 0, .int .i64 0, .string ⟨#[]⟩]:=⟨CV⟩
instance i39z:G6 Tryz.prog 39 [.int .i64 0, .int .i64 0, .int .i64 0, .int .u32 0, .slice none 0 0, .slice none 0 0, .int .i64 0, .int .i64 0, .slice none 0 0, .int .u32 0, .int .i64 0, .int .i64 0, .int .i64 0, .int .u32 0, .slice none 0 0, .slice none 0 0, .slice none 0 0, .int .i64 0, .int .i64 0, .string ⟨#[]⟩]:=⟨GM⟩
instance i44z:G6 Tryz.prog 44 [.int .i64 0, .int .u32 0, .int .i64 0, .int .i64 0, .int .i64 0]:=⟨Vt⟩
instance i54z:G6 Tryz.prog 54 [.int .i64 0, .int .i64 0, .slice none 0 0, .int .i64 0, .int .i64 0, .int .i64 0, .int .u32 0, .slice none 0 0, .slice none 0 0, .int .i64 0, .int .i64 0, .slice none 0 0, .int .u32 0, .int .i64 0, .int .i64 0, .int .i64 0, .int .u32 0, .slice none 0 0, .slice none 0 0, .slice none 0 0, .int .i64 0, .int .i64 0, .string ⟨#[]⟩]:=⟨BT⟩
instance i83z:G6 Tryz.prog 83 [.int .i64 0, .int .i64 0, .int .i64 0, .int .i64 0, .int .u32 0, .int .i64 0, .int .i64 0, .int .i64 0, .int .i64 0, .int .u32 0, .int .u32 0, .int .i64 0, .int .i64 0, .int .i64 0, .int .i64 0, .int .i64 0, .int .i64 0, .int .i64 0, .slice none 0 0]:=⟨EC⟩
instance i103z:G6 Tryz.prog 103 [.int .i64 0, .slice none 0 0, .int .i64 0, .int .i64 0, .int .i64 0, .string ⟨#[]⟩, .int .i64 0, .int .u32 0]:=⟨ZK⟩
instance i106z:G6 Tryz.prog 106 [.int .i64 0, .int .u32 0, .int .i64 0, .int .i64 0, .int .i64 0, .pointer none, .int .i64 0, .int .i64 0, .slice none 0 0, .int .i64 0, .int .i64 0, .int .i64 0, .string ⟨#[]⟩, .int .i64 0, .int .u32 0, .int .i64 0, .slice none 0 0, .int .i64 0, .int .i64 0, .int .i64 0, .string ⟨#[]⟩, .int .i64 0, .int .u32 0]:=⟨Zp⟩
instance i119z:G6 Tryz.prog 119 [.int .i64 0, .int .i64 0, .slice none 0 0, .int .i64 0, .int .i64 0, .int .i64 0, .int .i64 0, .int .i64 0, .slice none 0 0, .slice none 0 0]:=⟨MP⟩
instance i120z:G6 Tryz.prog 120 [.int .i64 0, .int .i64 0, .string ⟨#[]⟩]:=⟨FI⟩
instance i122z:G6 Tryz.prog 122 [.int .i64 0, .int .i64 0, .int .i64 0, .int .u32 0, .slice none 0 0, .slice none 0 0, .int .i64 0, .int .i64 0, .slice none 0 0, .int .i64 0, .int .i64 0, .int .i64 0, .int .i64 0, .int .i64 0, .slice none 0 0, .slice none 0 0, .slice none 0 0, .int .i64 0, .int .i64 0, .string ⟨#[]⟩]:=⟨H7⟩
instance i132z:G6 Tryz.prog 132 [.int .i64 0, .int .i64 0, .int .i64 0, .int .i64 0, .int .i64 0]:=⟨Hp⟩
instance i138z:G6 Tryz.prog 138 [.int .i64 0, .int .i64 0, .int .i64 0, .int .u32 0]:=⟨Zq⟩
instance i140z:G6 Tryz.prog 140 [.int .i64 0, .slice none 0 0]:=⟨Ix⟩
instance i153z:G6 Tryz.prog 153 [.int .i64 0, .slice none 0 0, .map none]:=⟨YR⟩
instance i159z:G6 Tryz.prog 159 [.int .i64 0, .int .i64 0, .int .i64 0]:=⟨Abd⟩
instance i169z:G6 Tryz.prog 169 [.int .i64 0, .slice none 0 0]:=⟨H0⟩
instance i177z:G6 Tryz.prog 177 [.int .u32 0, .int .i64 0]:=⟨JU⟩
instance i181z:G6 Tryz.prog 181 [.int .i64 0, .slice none 0 0]:=⟨H2⟩
instance i199z:G6 Tryz.prog 199 [.int .u32 0, .int .i64 0]:=⟨MK⟩
instance i201z:G6 Tryz.prog 201 [.int .i64 0, .slice none 0 0]:=⟨JN⟩
instance i207z:G6 Tryz.prog 207 [.bool false, .slice none 0 0]:=⟨JI⟩
instance i219z:G6 Tryz.prog 219 [.bool false, .slice none 0 0]:=⟨Lk⟩
instance i35p:IS Tryz.prog 35 [(0,1),(1,1),(2,1),(3,1),(4,1),(5,1),(6,1),(7,1),(8,1),(9,1)]:=⟨plc_35⟩
instance i37p:IS Tryz.prog 37 [(0,1),(1,1),(2,1)]:=⟨plc_37⟩
instance i39p:IS Tryz.prog 39 [(0,1),(1,1),(2,1),(3,1),(4,1),(5,1),(6,10),(16,1),(17,3)]:=⟨plc_39⟩
instance i44p:IS Tryz.prog 44 [(0,1),(1,1),(2,1),(3,1),(4,1)]:=⟨plc_44⟩
instance i54p:IS Tryz.prog 54 [(0,1),(1,1),(2,1),(3,20)]:=⟨plc_54⟩
instance i83p:IS Tryz.prog 83 [(0,1),(1,1),(2,1),(3,1),(4,1),(5,1),(6,1),(7,2),(9,2),(11,2),(13,5),(18,1)]:=⟨plc_83⟩
instance i103p:IS Tryz.prog 103 [(0,1),(1,5),(6,1),(7,1)]:=⟨AcR⟩
instance i106p:IS Tryz.prog 106 [(0,5),(5,1),(6,1),(7,16)]:=⟨AbQ⟩
instance i119p:IS Tryz.prog 119 [(0,1),(1,1),(2,1),(3,1),(4,1),(5,1),(6,1),(7,1),(8,1),(9,1)]:=⟨AbH⟩
instance i120p:IS Tryz.prog 120 [(0,1),(1,1),(2,1)]:=⟨Aco⟩
instance i122p:IS Tryz.prog 122 [(0,1),(1,1),(2,1),(3,1),(4,1),(5,1),(6,10),(16,1),(17,3)]:=⟨Ac4⟩
instance i132p:IS Tryz.prog 132 [(0,1),(1,1),(2,3)]:=⟨Acv⟩
instance i138p:IS Tryz.prog 138 [(0,1),(1,1),(2,1),(3,1)]:=⟨Ac9⟩
instance i140p:IS Tryz.prog 140 [(0,1),(1,1)]:=⟨Acg⟩
instance i153p:IS Tryz.prog 153 [(0,1),(1,1),(2,1)]:=⟨AcW⟩
instance i159p:IS Tryz.prog 159 [(0,1),(1,1),(2,1)]:=⟨Acb⟩
instance i169p:IS Tryz.prog 169 [(0,1),(1,1)]:=⟨Acz⟩
instance i177p:IS Tryz.prog 177 [(0,1),(1,1)]:=⟨Ab9⟩
instance i181p:IS Tryz.prog 181 [(0,1),(1,1)]:=⟨AcG⟩
instance i199p:IS Tryz.prog 199 [(0,1),(1,1)]:=⟨Ac1⟩
instance i201p:IS Tryz.prog 201 [(0,1),(1,1)]:=⟨AbR⟩
instance i207p:IS Tryz.prog 207 [(0,1),(1,1)]:=⟨AbI⟩
instance i219p:IS Tryz.prog 219 [(0,1),(1,1)]:=⟨Ab4⟩
instance i25s:Mo Tryz.prog 25 5:=⟨Tryz.underlying25⟩
instance i29s:Mo Tryz.prog 29 140:=⟨Tryz.underlying29⟩
instance i30s:Mo Tryz.prog 30 177:=⟨Tryz.underlying30⟩
instance i31s:Mo Tryz.prog 31 207:=⟨Tryz.underlying31⟩
instance i32s:Mo Tryz.prog 32 3:=⟨Tryz.underlying32⟩
instance i33s:Mo Tryz.prog 33 181:=⟨Tryz.underlying33⟩
instance i46s:Mo Tryz.prog 46 54:=⟨Tryz.underlying46⟩
instance i68s:Mo Tryz.prog 68 71:=⟨Tryz.underlying68⟩
instance i81s:Mo Tryz.prog 81 132:=⟨Tryz.underlying81⟩
instance i110s:Mo Tryz.prog 110 39:=⟨Tryz.underlying110⟩
instance i115s:Mo Tryz.prog 115 199:=⟨Tryz.underlying115⟩
instance i117s:Mo Tryz.prog 117 201:=⟨Tryz.underlying117⟩
instance i151s:Mo Tryz.prog 151 154:=⟨Tryz.underlying151⟩
instance i193s:Mo Tryz.prog 193 25:=⟨Tryz.underlying193⟩

section
variable {P:Program}{C:World→Prop}{ops:Array Oper}{Q:Exit→Act→World→Prop}{n:Nat}{p:Nat→Prop}{w0:World}{o:Oper}{rest:List Oper}{l:Kn}{L:List Ent}

def Yt (P:Program) (C:World→Prop) (t:TypeId) (v:Value) (name:String) (f:FuncId) (rv:Value):Prop:=∀ w,C w→(method (P.types.size+Made.depth) t v name).run P w = .ok (f,rv) w
theorem Tc {a:Act}{f:FuncId}{r:Operand}{name:String}{t:TypeId}{v rv:Value}{xs:List Operand}{ts:Array TypeId}{vs:List Value}{w:World}(ho:o.op = .call { callee:=.invoke r name,args:=xs.toArray,argTypes:=ts })
    (hr:ev l r=some (.iface t v)) (hx:evs l xs=some vs) (hm:(method (P.types.size+Made.depth) t v name).run P w = .ok (f,rv) w) (hf:AI P f) (ha:Has n a l) :
    (execOp a.eval o).run P w = .ok (.enter f (rv::vs).toArray) w:=by
  have h1:=ha.ev hr
  have h2:=ha.evs hx
  have hf':=hf (rv::vs).toArray w
  have e1:(#[Value.iface t v]++xs.toArray.map a.eval)[0]?=some (Value.iface t v):=by simp
  have e2:(#[Value.iface t v]++xs.toArray.map a.eval).extract 1 (#[Value.iface t v]++xs.toArray.map a.eval).size=vs.toArray:=by
    apply Array.ext'
    simp [← h2]
    exact List.take_of_length_le Fe
  have e3:#[rv]++vs.toArray=(rv::vs).toArray:=by simp
  unfold execOp
  simp only [ho,resolve,h1,Sem.run_bind,Sem.run_pure,Result.andThen_ok]
  unfold invoke
  simp only [e1,e2]
  unfold callMethod
  simp only [Sem.run_bind,program,Sem.run,Result.andThen_ok,hm,e3,hf']
theorem WL.invoke {f:FuncId}{r:Operand}{name:String}{t:TypeId}{v rv:Value}{xs:List Operand}{ts:Array TypeId}{vs:List Value}{d:Nat}(ho:o.op = .call { callee:=.invoke r name,args:=xs.toArray,argTypes:=ts })
    (hr:ev l r=some (.iface t v)) (hx:evs l xs=some vs) (hm:Yt P (fun w=>St p w0 w L) t v name f rv) (hf:AI P f) (hg:On ops o l) (hd:o.dst=some d) (hn:Nat.blt d n=true)
    (h:∀ w,St p w0 w L→Calls P f (rv::vs).toArray w fun e w'=>∃ v L',e = .returned v∧St p w0 w' L'∧WL P ops Q n p w0 rest ((d,v)::l) L'):WL P ops Q n p w0 (o::rest) l L:=by
  intro a w ha hS
  refine Kc (hg.ok ha) ?_
  unfold Oper.wp
  rw [Tc ho hr hx (hm w hS) hf ha]
  exact C9
def isIf:TypeDesc→Bool | .interface _=>true|_=>false
theorem MY {x:Operand}{xt t:TypeId}{v:Value}{ds:TypeDesc}(ho:o.op = .typeAssert x xt t false) (hx:ev l x=some (.iface t v)) (hu:P.underlying t=some ds) (hd:isIf ds=false):Val P C n l o v:=fun a w ha _=>by
  have h1:=ha.ev hx
  unfold execOp
  simp only [ho,h1,Instr.typeAssert,Sem.run_bind,run_underlying hu,Result.andThen_ok]
  cases ds <;> first|(simp [isIf] at hd;done)|simp
theorem Tm {t t':TypeId}{x y:Operand}{k:IntKind}{A B:Int}(ho:o.op = .call { callee:=.builtin .max,args:=#[x,y],argTypes:=#[t,t'] }) (hx:ev l x=some (.int k A)) (hy:ev l y=some (.int k B)):Val P C n l o (.int k (max A B)):=fun a w ha _=>by
  have hx':evs l [x,y]=some [.int k A, .int k B]:=by simp [evs,hx,hy]
  obtain ⟨cs,h⟩:=DJ (P:=P) (w:=w) (xs:=[x,y]) ho hx' ha
  rw [h]
  have e:(if B > A then B else A)=max A B:=Er
  simp [builtin,Builtin.max_,Builtin.max2,e]
theorem Le {t t':TypeId}{x y:Operand}{k:IntKind}{A B:Int}(ho:o.op = .call { callee:=.builtin .min,args:=#[x,y],argTypes:=#[t,t'] }) (hx:ev l x=some (.int k A)) (hy:ev l y=some (.int k B)):Val P C n l o (.int k (min A B)):=fun a w ha _=>by
  have hx':evs l [x,y]=some [.int k A, .int k B]:=by simp [evs,hx,hy]
  obtain ⟨cs,h⟩:=DJ (P:=P) (w:=w) (xs:=[x,y]) ho hx' ha
  rw [h]
  have e:(if B<A then B else A)=min A B:=Er
  simp [builtin,Builtin.min_,Builtin.min2,e]
theorem Jb {t yt:TypeId}{x y:Operand}{k:IntKind}{A B r:Int}(ho:o.op = .binOp .quo t x y yt) (hx:ev l x=some (.int k A)) (hy:ev l y=some (.int k B)) (hB:B≠0) (hr:k.wrap (A.tdiv B)=r):Val P C n l o (.int k r):=fun a w ha _=>by
  rw [EY ho (ha.ev hx) (ha.ev hy), ← hr];simp [binOp,Op.intDiv,hB,Result.andThen]
theorem RR {t yt:TypeId}{x y:Operand}{k:IntKind}{A B:Int}(ho:o.op = .binOp .rem t x y yt) (hx:ev l x=some (.int k A)) (hy:ev l y=some (.int k B)) (hB:B≠0):Val P C n l o (.int k (A.tmod B)):=fun a w ha _=>by
  rw [EY ho (ha.ev hx) (ha.ev hy)];simp [binOp,Op.intDiv,hB,Result.andThen]
theorem Acn (ts:Array TypeId) (t:TypeId) (a:Addr) (x y:String) (w:World):(Builtin.ssaWrapNilChk_ ts t #[.pointer (some a),strVal x,strVal y]).run P w = .ok (.pointer (some a)) w:=rfl
def RU (P:Program) (t:TypeId) (name:String):Option (Array FieldStep×Option (FuncId×Bool)):=(P.info? t).bind fun i=>(i.methods.find? (·.name == name)).map fun m=>(m.path,m.func)
theorem OL {t e:TypeId}{a:Addr}{name:String}{f:FuncId}{v:Value}{w:World}(hm:RU P t name=some (#[],some (f,false))) (hu:P.underlying t=some (.pointer e))
    (hv:(loadVar e a).run P w = .ok v w):(method (P.types.size+Made.depth) t (.pointer (some a)) name).run P w = .ok (f,v) w:=by
  unfold RU at hm
  cases hq:P.info? t with
  | none=>simp [hq] at hm
  | some i =>
    simp only [hq,Option.bind_some,Option.map_eq_some_iff,Prod.mk.injEq] at hm
    obtain ⟨m,hm,hp,hf⟩:=hm
    have e1:P.types.size+Made.depth=(P.types.size+99)+1:=rfl
    rw [e1]
    unfold method
    simp [typeInfo,hq,hm,hp,follow,hf,receiverAt,run_underlying hu,Place.get,Acn,asAddr,hv]
theorem Tv {t e:TypeId}{u:Value}{name:String}{f:FuncId}{w:World}(hm:RU P t name=some (#[],some (f,true))) (hu:P.underlying t=some (.pointer e)) :
    (method (P.types.size+Made.depth) t u name).run P w = .ok (f,u) w:=by
  unfold RU at hm
  cases hq:P.info? t with
  | none=>simp [hq] at hm
  | some i =>
    simp only [hq,Option.bind_some,Option.map_eq_some_iff,Prod.mk.injEq] at hm
    obtain ⟨m,hm,hp,hf⟩:=hm
    have e1:P.types.size+Made.depth=(P.types.size+99)+1:=rfl
    rw [e1]
    unfold method
    simp [typeInfo,hq,hm,hp,follow,hf,receiverAt,run_underlying hu,Place.get]
theorem Ml {t g k:Nat}{v:Value}{w:World}(h:One P t) (hv:w.cell? ⟨g,k,none⟩=some v):(loadVar t ⟨g,k,none⟩).run P w = .ok v w:=by
  simp [loadVar,h.agg,load,Sem.run,hv]
end

theorem St.join {p:Nat→Prop}{w0 w1 w':World}{L M:List Ent}(hS:St p w0 w1 L) (h:St (fun _=>False) w1 w' M):St p w0 w' (M++L):=by
  refine ⟨hS.frm.trans (h.frm.mono (fun _ h=>h.elim)),?_,?_,?_⟩
  · intro e he
    rcases List.mem_append.1 he with he|he
    · exact h.holds e he
    · exact Ent.FA (hS.holds e he) (h.frm.block _ (Ent.lt (hS.holds e he)) (fun h=>h))
  · rw [List.map_append,List.nodup_append]
    refine ⟨h.dist,hS.dist,?_⟩
    rintro a ha b hb rfl
    obtain ⟨e,he,e1⟩:=List.mem_map.1 ha
    obtain ⟨e',he',e2⟩:=List.mem_map.1 hb
    have h1:=(h.mine e he).resolve_left (fun h=>h)
    have h2:=Ent.lt (hS.holds e' he')
    omega
  · intro e he
    rcases List.mem_append.1 he with he|he
    · exact .inr (Nat.le_trans hS.frm.size ((h.mine e he).resolve_left (fun h=>h)))
    · exact hS.mine e he
theorem Mt {p:Nat→Prop}{w0:World}{L:List Ent}{b off:Nat}{cs:List Value}(hp:¬ p b) (h:w0.rangeAt b off cs):∀ w,St p w0 w L→w.rangeAt b off cs:=fun _ hS j v hj=>hS.old hp (h j v hj)
section
variable {P:Program}{C:World→Prop}{ops:Array Oper}{Q:Exit→Act→World→Prop}{n:Nat}{p:Nat→Prop}{w0:World}{o:Oper}{rest:List Oper}{l:Kn}{L:List Ent}
theorem WL.extern {f:FuncId}{xs:List Operand}{ts:Array TypeId}{vs:List Value}{d:Nat}(ho:o.op = .call { callee:=.value (.func f),args:=xs.toArray,argTypes:=ts })
    (hx:evs l xs=some vs) (hg:On ops o l) (hd:o.dst=some d) (hn:Nat.blt d n=true)
    (h:∀ w,St p w0 w L→∃ v w' L',(callFunc f vs.toArray).run P w = .ok (.value v) w'∧St p w0 w' L'∧WL P ops Q n p w0 rest ((d,v)::l) L'):WL P ops Q n p w0 (o::rest) l L:=by
  refine WL.op hg hd hn fun a w ha hS=>?_
  obtain ⟨v,w',L',hr,hS',hK⟩:=h w hS
  refine ⟨v,w',L',?_,hS',hK⟩
  have h2:=ha.evs hx
  unfold execOp
  simp [ho,resolve,Act.eval,Deferred.ofValue,Go.invoke,h2,hr]
theorem UF {f:FuncId}{fn:Func}{t e:TypeId}{ps:Array TypeId}(hf:P.funcs[f]?=some fn) (hname:(fn.name == "runtime.NumGoroutine")=false) (hb:fn.body.isNone=true) (hn:Extern.findNext fn=none) (he:Extern.find fn=some (Extern.BytealgMakeNoZero.makeNoZero ps #[t]))
    (ht:P.underlying t=some (.slice e)) (m:Nat) (hm:m≤281474976710656) (w:World) (hS:St p w0 w L) :
    ∃ v w' L',(callFunc f #[.int .i64 m]).run P w = .ok (.value v) w'∧St p w0 w' L'∧∃ cs:List Value,m≤cs.length∧v = .slice (some ⟨w.heap.size,0,none⟩) m cs.length∧L' = .row w.heap.size cs::L:=by
  obtain ⟨cs,hr,h1,_⟩:=Lib.run_makeNoZero (P:=P) w ps t e ht m hm
  refine ⟨_,w.drew.drew.alloc (.cells cs e), .row w.heap.size cs.toList::L,?_,?_,cs.toList,by simpa using h1,by rw [Array.length_toList],rfl⟩
  · rw [run_callFunc_extern hf hname hb hn he,hr]
    rfl
  · have h2:=hS.drew.drew
    exact St.new h2
theorem Sf {t e s len cap hi:Nat}{k k':IntKind}{A B:Int}{x xh xm:Operand}{ad:Option Addr}(ho:o.op = .slice t x none (some xh) (some xm)) (hx:ev l x=some (.slice ad len cap)) (hh:ev l xh=some (.int k B)) (hm:ev l xm=some (.int k' A)) (hu:P.underlying t=some (.slice e)) (hs:(P.info? e).map (·.size)=some s) (hB:B=(hi:Int)) (hA:A=(hi:Int)) (hle:hi≤cap) :
    Val P C n l o (.slice ad hi hi):=fun a w ha _=>by
  have h1:=ha.ev hx;have h2:=ha.ev hh;have h3:=ha.ev hm
  subst hB hA
  unfold execOp
  simp [ho,h1,h2,h3,Instr.sliceAt,run_underlying hu,Instr.slice,Instr.sliceBounds,Instr.sliceBound,asIntOf,hle,run_sizeOf hs]
  cases ad <;> simp [Addr.add]
theorem UW {t tx e s by_ k c m:Nat}{ad:Option Addr}{xs new zs:List Value}{L0:List Ent}{w:World}{y:Value}{ty:TypeId}{e':TypeId}
    (hu:P.underlying t=some (.slice e)) (hux:P.underlying tx=some (.slice e')) (hs:(P.info? e).map (·.size)=some s) (hb:(P.info? e).map (·.bytes)=some by_) (hz:Zero P e zs) (hzl:zs.length=s)
    (hby:0<by_) (hroom:¬ k+m≤c) (hxl:xs.length=k*s) (hold:∀ w',St p w0 w' L0→(Builtin.firstCells s k (.slice ad k c)).run P w' = .ok xs.toArray w') (hS:St p w0 w L0) (hlen:(Builtin.lenOf y).run P w = .ok m w)
    (hfc:∀ w',St p w0 w' L0→(Builtin.firstCells s m y).run P w' = .ok new.toArray w') (hnl:new.length=m*s) (hbig:(3*(k+m)+1200)*by_≤281474976710656) :
    ∃ ad' c' E' w',(Builtin.append_ #[t,tx] ty #[.slice ad k c,y]).run P w = .ok (.slice ad' (k+m) c') w'∧Vec s ad' (k+m) c' (xs++new) E'∧St p w0 w' (E'++L0):=by
  have hq:∃ i,P.info? e=some i∧i.bytes=by_:=by
    cases hq:P.info? e with
    | none=>simp [hq] at hb
    | some i=>exact ⟨i,rfl,by simpa [hq] using hb⟩
  obtain ⟨ti,hi,hib⟩:=hq
  have hask:∀ (k:Nat) (w:World),(askRoom k).run P w = .ok () w:=fun k w=>by
    unfold askRoom
    by_cases h:k > roomBytes
    · rw [if_pos h];rfl
    · rw [if_neg h];rfl
  have hle:=nextslicecap_le (k+m) c Er
  have hmul:Builtin.nextslicecap (k+m) c*by_≤(3*(k+m)+1200)*by_:=Nat.mul_le_mul_right by_ hle
  have hcap:¬ (Builtin.nextslicecap (k+m) c*by_ > 2 ^ 48):=Er
  obtain ⟨z,hz,hzs⟩:=hz
  have hzc:z.cells=zs.toArray:=by rw [← hzs]
  have hd:=hS.drew
  let nc:=(Question.appendCap (k+m) c e).cut (w.tape w.drawn (.appendCap (k+m) c e))
  have hnc:k+m≤nc:=by show k+m≤(k+m)+_;omega
  let rs:=(Builtin.zeroCells zs.toArray (nc-(k+m))).toList
  have hrl:rs.length=(nc-(k+m))*s:=by rw [JZ];simp [hzl]
  have hnew:St p w0 (w.drew.alloc (.cells (xs++new++rs).toArray e)) (.row w.drew.heap.size (xs++new++rs)::L0):=St.new hd
  refine ⟨some ⟨w.drew.heap.size,0,none⟩,nc,[.row w.drew.heap.size (xs++new++rs)],_,?_,Vec.row ?_ ?_ hnc,hnew⟩
  · have hcut:(choose (.appendCap (k+m) c e)).run P w = .ok nc w.drew:=rfl
    exact A7
  · rw [Nat.add_mul,List.append_assoc, ← List.append_assoc,List.take_append_of_le_length Fo,List.take_of_length_le Fo]
  · simp only [List.length_append,hxl,hnl,hrl]
    rw [← Nat.add_mul, ← Nat.add_mul]
    congr 1
    omega
section
variable {t tx e s by_ k d m:Nat}{ad:Option Addr}{xs new zs:List Value}{x y:Operand}
theorem WL.AcI {sa:Option Addr}{mc c:Nat}(ho:o.op = .call { callee:=.builtin .append,args:=#[x,y],argTypes:=#[t,tx] }) (hx:ev l x=some (.slice ad k c)) (hy:ev l y=some (.slice sa m mc))
    (hu:P.underlying t=some (.slice e)){e':TypeId}(hux:P.underlying tx=some (.slice e')) (hs:(P.info? e).map (·.size)=some s) (hb:(P.info? e).map (·.bytes)=some by_) (hz:Zero P e zs) (hzl:zs.length=s) (hby:Nat.blt 0 by_=true)
    (hroom:¬ k+m≤c) (hcx:0<k→∃ b so,ad=some ⟨b,so,none⟩∧∀ w,St p w0 w L→w.rangeAt b so xs) (hxl:xs.length=k*s) (hc:0<m→∃ b so,sa=some ⟨b,so,none⟩∧∀ w,St p w0 w L→w.rangeAt b so new) (hnl:new.length=m*s) (hbig:(3*(k+m)+1200)*by_≤281474976710656)
    (hg:On ops o l) (hd:o.dst=some d) (hn:Nat.blt d n=true)
    (h:∀ ad' c' E',Vec s ad' (k+m) c' (xs++new) E'→WL P ops Q n p w0 rest ((d, .slice ad' (k+m) c')::l) (E'++L)):WL P ops Q n p w0 (o::rest) l L:=by
  refine WL.op hg hd hn fun a w ha hS=>?_
  have hxy:evs l [x,y]=some [.slice ad k c, .slice sa m mc]:=by simp [evs,hx,hy]
  obtain ⟨cc,hr⟩:=DJ (P:=P) (w:=w) (xs:=[x,y]) ho hxy ha
  have first:∀ {q:Option Addr}{j jc:Nat}{us:List Value},us.length=j*s→(0<j→∃ b so,q=some ⟨b,so,none⟩∧∀ w,St p w0 w L→w.rangeAt b so us)→∀ w',St p w0 w' L→(Builtin.firstCells s j (.slice q j jc)).run P w' = .ok us.toArray w':=fun {q j jc us} hl hcs w' hS'=>by
    by_cases hm:0<j
    · obtain ⟨b,so,eq,hcs2⟩:=hcs hm
      rw [eq]
      exact Iq (P:=P) hl (hcs2 w' hS')
    · obtain rfl:j=0:=by omega
      have hn0:us=[]:=List.length_eq_zero_iff.1 Er
      subst hn0
      cases q with
      | none=>rfl
      | some q=>simp [Builtin.firstCells,loadCells,loadCellsFrom]
  obtain ⟨ad',c',E',w',h1,h2,h3⟩:=UW (P:=P) (ty:=o.type) (y:=.slice sa m mc) hu hux hs hb hz hzl (by simpa using hby) hroom hxl (fun w' hS'=>first hxl hcx w' hS') hS (by simp [Builtin.lenOf]) (fun w' hS'=>first hnl hc w' hS') hnl hbig
  refine ⟨_,w',E'++L,?_,h3,h ad' c' E' h2⟩
  rw [hr]
  simp [builtin,h1]
end
end
section Gq
attribute [local irreducible] WL WC WE WQ WP WH WR WM WRH

theorem Abj (w:World):Calls Tryz.prog 104 #[.int .u64 1, .int .u64 16] w fun e w'=>e = .returned (.tuple #[.int .u64 0, .int .u64 16])∧Frm (fun _=>False) w w':=by
  refine enter Tryz.func104 rfl Tryz.ntmps104 rfl (St.start (fun _=>False) w) ?_
  refine J9 ?_
  refine zV (J0 rfl rfl rfl (show _=(1:Int) from by kernel_rfl)) rfl ?_
  refine J6 ?_
  refine zV (Lc (m:=32) (c:=4294967296) rfl rfl rfl rfl Et Et) rfl ?_
  refine J6 ?_
  refine zV (J0 rfl rfl rfl (show _=(16:Int) from by kernel_rfl)) rfl ?_
  refine J6 ?_
  refine zV (Lc (m:=32) (c:=4294967296) rfl rfl rfl rfl Et Et) rfl ?_
  refine J7 ?_
  refine zV (FY rfl rfl rfl (show _=(16:Int) from by kernel_rfl)) rfl ?_
  refine J7 ?_
  refine zV (FY rfl rfl rfl (show _=(0:Int) from by kernel_rfl)) rfl ?_
  refine J1 ?_
  refine zV (Lc (m:=32) (c:=4294967296) rfl rfl rfl rfl Et Et) rfl ?_
  refine zV (AS rfl rfl rfl (show _=(0:Int) from by kernel_rfl)) rfl ?_
  refine J6 ?_
  refine zV (J0 rfl rfl rfl (show _=(0:Int) from by kernel_rfl)) rfl ?_
  refine J6 ?_
  refine zV (Lc (m:=32) (c:=4294967296) rfl rfl rfl rfl Et Et) rfl ?_
  refine J8 ?_
  refine zV (FY rfl rfl rfl (show _=(0:Int) from by kernel_rfl)) rfl ?_
  refine zV (AS rfl rfl rfl (show _=(0:Int) from by kernel_rfl)) rfl ?_
  refine J7 ?_
  refine zV (FY rfl rfl rfl (show _=(0:Int) from by kernel_rfl)) rfl ?_
  refine J1 ?_
  refine zV (AS rfl rfl rfl (show _=(0:Int) from by kernel_rfl)) rfl ?_
  refine J1 ?_
  refine zV (Lc (m:=32) (c:=4294967296) rfl rfl rfl rfl Et Et) rfl ?_
  refine zV (AS rfl rfl rfl (show _=(0:Int) from by kernel_rfl)) rfl ?_
  refine J7 ?_
  refine zV (FY rfl rfl rfl (show _=(16:Int) from by kernel_rfl)) rfl ?_
  refine J4 ?_
  refine eT2 ?_
  exact fR
theorem Mul_16 (w:World):Calls Tryz.prog 79 #[.int .u64 1, .int .u64 16] w fun e w'=>e = .returned (.tuple #[.int .u64 0, .int .u64 16])∧Frm (fun _=>False) w w':=by
  refine enter Tryz.func79 rfl Tryz.ntmps79 rfl (St.start (fun _=>False) w) ?_
  refine J14 ?_
  refine zk ck_104 rfl (fun w hS=>Abj w) ?_
  refine J16 ?_
  refine eT2 ?_
  exact fR
def Lg (cs:List Value) (k:Nat):Prop:=∀ i,i<k→cs[i]?=some (.int .u8 255)
theorem Lg.take {cs:List Value}{k:Nat}(h:Lg cs k) (hl:k≤cs.length):cs.take k=bcs (fun _=>255) k:=by
  apply List.ext_getElem?
  intro i
  by_cases hi:i<k
  · rw [List.getElem?_take,if_pos hi,h i hi,RN _ _ _ hi]
  · rw [List.getElem?_eq_none Ey,List.getElem?_eq_none Gg]
theorem Lg.CW {cs:List Value}{k m:Nat}(h:Lg cs k) (hl:k+m≤cs.length):Lg (CW cs k (bcs (fun _=>255) m)) (k+m):=fun i hi=>by
  rw [HD _ _ _ (by rw [Kv];exact hl)]
  by_cases h1:i<k
  · rw [List.append_assoc,List.getElem?_append_left Ey,List.getElem?_take,if_pos h1];exact h i h1
  · rw [List.append_assoc,List.getElem?_append_right Ey,List.length_take,Nat.min_eq_left Er,List.getElem?_append_left Gg,RN _ _ _ Er]
set_option maxHeartbeats 1000000 in
theorem AaJ (w0:World) (g c:Nat) (hg:w0.cell? ⟨g,0,none⟩=some (.int .u8 255)) :
    Calls Tryz.prog 47 #[.slice (some ⟨g,0,none⟩) 1 c, .int .i64 16] w0 fun e w'=>∃ gb cs,e = .returned (.slice (some ⟨gb,0,none⟩) 16 16)∧Lg cs 16∧16≤cs.length∧St (fun _=>False) w0 w' [.row gb cs]:=by
  have hgr:w0.rangeAt g 0 [.int .u8 255]:=fun j v hj=>by
    match j with
    | 0=>simp only [List.getElem?_cons_zero,Option.some.injEq] at hj;subst hj;exact hg
    | j+1=>simp at hj
  refine enter Tryz.func47 rfl Tryz.ntmps47 rfl (St.start (fun _=>False) w0) ?_
  refine J9 ?_
  refine zV ((AZ rfl rfl rfl).f Er) rfl ?_
  refine J9 ?_
  refine zV ((G8 rfl rfl rfl).f Er) rfl ?_
  refine J9 ?_
  refine zV (AQ rfl rfl Tryz.underlying145 Tryz.underlying3 (by first|exact w_u64 (by omega) (by omega)|exact w_u64m _)) rfl ?_
  refine J1 ?_
  refine zV (AQ rfl rfl Tryz.underlying145 Tryz.underlying3 (by first|exact w_u64 (by omega) (by omega)|exact w_u64m _)) rfl ?_
  refine zk ck_79 rfl (fun w hS=>Mul_16 w) ?_
  refine J11 ?_
  refine zV ((HY rfl rfl rfl).f Er) rfl ?_
  refine J2 ?_
  refine zS ((HY rfl rfl rfl).f Er) rfl ?_
  refine J9 ?_
  refine zV (AQ rfl rfl Tryz.underlying3 Tryz.underlying145 (AF Er Er)) rfl ?_
  refine J8 ?_
  refine zV ((AZ rfl rfl rfl).f Er) rfl ?_
  refine J15 ?_
  refine zV ((HY rfl rfl rfl).f Er) rfl ?_
  refine J8 ?_
  refine WL.extern rfl rfl (.none rfl) rfl rfl fun w hS=>?_
  obtain ⟨v,w',L',hr,hS',cs,hcs,rfl,rfl⟩:=UF (ps:=#[3]) Tryz.func80 Es Es Es Es Tryz.underlying25 16 Er w hS
  refine ⟨_,_,_,hr,hS',?_⟩
  generalize w.heap.size=gb
  refine J2 ?_
  refine zV (Sf (hi:=16) rfl rfl rfl rfl Tryz.underlying25 AO rfl rfl hcs) rfl ?_
  refine J7 ?_
  refine WL.copyL rfl rfl rfl Tryz.underlying25 AO (new:=[.int .u8 255]) rfl (Mt (fun h=>h) hgr) rfl (by show 0+1≤cs.length;omega) (.none rfl) rfl rfl ?_
  refine J5 ?_
  refine WC.loop (fun x:Nat×List Value=>[(10, .int .i64 x.1),(9, .slice (some ⟨gb,0,none⟩) 16 16),(8, .int .i64 16),(7, .int .i64 16)]) (fun x=>[.row gb x.2]) (fun x=>1≤x.1∧x.1≤16∧Lg x.2 x.1∧16≤x.2.length) (fun x=>16-x.1) (1,CW cs 0 [.int .u8 255]) ⟨by dsimp only;omega,by dsimp only;omega,(fun i hi=>by
  obtain rfl:i=0:=by dsimp only at hi;omega
  cases cs with
  | nil=>simp at hcs
  | cons _ _=>rfl),by dsimp only;rw [Jy _ _ _ (by show 0+1≤cs.length;omega)];exact hcs⟩ Km (.refl _) ?_
  rintro ⟨k,cs2⟩ ⟨hk1,hk2,ha,hl⟩
  dsimp only at hk1 hk2 ha hl
  dsimp only
  have hmin:min (k:Int) 16=(k:Int):=Er
  refine J5 ?_
  refine JT (fun h63=>?_) (fun h63=>?_)
  refine J10 ?_
  refine zV (Le rfl rfl rfl) rfl ?_
  refine J3 ?_
  refine WC.BB mixed<|rF 3 [0,1,2,3,4,5,6]<|?_
  refine J3 ?_
  refine pV (N3 (lo:=k) rfl rfl rfl Tryz.underlying25 AO Er Er Er) rfl ?_
  refine J2 ?_
  refine pV (CT (hi:=k) rfl rfl rfl Tryz.underlying25 AO (by rw [hmin]) Er) rfl ?_
  refine J1 ?_
  refine rO 2 [7] ?_
  refine WL.copyL rfl rfl rfl Tryz.underlying25 AO (new:=bcs (fun _=>255) (min k (16-k))) (by rw [Kv]) (fun w' hS'=>by
  rw [← Lg.take (k:=min k (16-k)) (fun i hi=>ha i Er) Er]
  intro i v hv
  rw [List.getElem?_take] at hv
  split at hv
  · rw [Nat.zero_add];exact hS'.cell (g:=gb) hv
  · cases hv) (Ade _ _) Gg (.none rfl) rfl rfl ?_
  refine J1 ?_
  refine rF 0 [8,9] ?_
  refine pV (AS rfl rfl rfl (show _=((k+min k (16-k):Nat):Int) from by rw [Kv];exact (AF Er Er).trans Er)) rfl ?_
  refine J4 ?_
  exact eW (k+min k (16-k),CW cs2 (0+k*1) (bcs (fun _=>255) (min k (16-k)))) Eu ⟨by dsimp only;omega,by dsimp only;omega,by dsimp only;rw [Nat.zero_add,Nat.mul_one];exact ha.CW Er,by dsimp only;rw [Jy _ _ _ Gg];exact hl⟩
  refine J15 ?_
  refine eT1 ?_
  obtain rfl:k=16:=Er
  exact fun w' h=>⟨gb,cs2,rfl,ha,hl,h⟩
def hiB (n:Int):Int:=n / 256 % 256
def n2 (m:Int):List Value:=[.int .u8 (hiB m), .int .u8 (m % 256)]
theorem put2_c (p:Nat→Prop) (w0 w1:World) (L E:List Ent) (ad:Option Addr) (k c:Nat) (xs:List Value) (m:Int) (hV:Vec 1 ad k c xs E) (hS0:St p w0 w1 (E++L)) (hk:k≤1000000) (_:0≤m) (_:m≤9223372036854775807) :
    Calls Tryz.prog 48 #[.slice ad k c, .int .i64 m] w1 fun e w'=>∃ ad' c' E',e = .returned (.slice ad' (k+2) c')∧Vec 1 ad' (k+2) c' (xs++n2 m) E'∧St p w0 w' (E'++L):=by
  refine enter Tryz.func48 rfl Tryz.ntmps48 rfl hS0 ?_
  refine J9 ?_
  refine zV (Lc (m:=8) (c:=256) rfl rfl rfl rfl Et Et) rfl ?_
  refine zV (AQ rfl rfl Tryz.underlying5 Tryz.underlying3 (HL _)) rfl ?_
  refine J1 ?_
  refine zV (AQ rfl rfl Tryz.underlying5 Tryz.underlying3 (HL _)) rfl<|zB Tryz.underlying25 AO BF rfl rfl<|?_
  intro g11 hg11
  refine WL.as (L':=.row g11 (n2 m)::(E++L)) rfl<|WL.to (L':=E++(.row g11 (n2 m)::L)) (fun w hS=>hS.front [_])<|?_
  refine WL.AN rfl rfl rfl Tryz.underlying25 Tryz.underlying25 AO Hx BF rfl rfl hV (new:=n2 m) (fun _=>⟨g11,0,rfl,fun w hS=>BZ (g:=g11) w hS⟩) rfl rfl Er (.none rfl) rfl rfl ?_
  intro ad12 c12 E12 hV12 hr12
  exact Cs
theorem Ud (p:Nat→Prop) (w0 w1:World) (L:List Ent) (b o k:Nat) (xs:List Value) (m:Int) (hx:∀ w,St p w0 w L→w.rangeAt b o xs) (hl:xs.length=k) (hS0:St p w0 w1 L) (hk:k≤1000000) (_:0≤m) (_:m≤9223372036854775807) :
    Calls Tryz.prog 48 #[.slice (some ⟨b,o,none⟩) k k, .int .i64 m] w1 fun e w'=>∃ ad' c' E',e = .returned (.slice ad' (k+2) c')∧Vec 1 ad' (k+2) c' (xs++n2 m) E'∧St p w0 w' (E'++L):=by
  refine enter Tryz.func48 rfl Tryz.ntmps48 rfl hS0 ?_
  refine J9 ?_
  refine zV (Lc (m:=8) (c:=256) rfl rfl rfl rfl Et Et) rfl ?_
  refine zV (AQ rfl rfl Tryz.underlying5 Tryz.underlying3 (HL _)) rfl ?_
  refine J1 ?_
  refine zV (AQ rfl rfl Tryz.underlying5 Tryz.underlying3 (HL _)) rfl<|zB Tryz.underlying25 AO BF rfl rfl<|?_
  intro g11 hg11
  refine WL.as (L':=.row g11 (n2 m)::L) rfl ?_
  refine WL.AcI (new:=n2 m) rfl rfl rfl Tryz.underlying25 Tryz.underlying25 AO Hx BF rfl rfl Er (fun _=>⟨b,o,rfl,fun w hS=>hx w hS.tail⟩) Er (fun _=>⟨g11,0,rfl,fun w hS=>BZ (g:=g11) w hS⟩) rfl Er (.none rfl) rfl rfl ?_
  intro ad12 c12 E12 hV12
  exact Cs
theorem Zy (w:World) (b o n c:Nat) (f:Nat→Int) (hf:Byt f) (hr:Rd w b o n f) (hn:2≤n) :
    Calls Tryz.prog 110 #[.slice (some ⟨b,o,none⟩) n c] w fun e w'=>e = .returned (.int .i64 (f 0*256+f 1))∧Frm (fun _=>False) w w':=by
  have b0:=hf 0
  have b1:=hf 1
  refine enter Tryz.func110 rfl Tryz.ntmps110 rfl (St.start (fun _=>False) w) ?_
  refine J6 ?_
  refine cQ mixed ?_
  refine J1 ?_
  refine qV (AB (lo:=0) rfl rfl rfl Tryz.underlying25 AO rfl Er) rfl ?_
  refine qV (AA rfl rfl BH (AL (fun h=>h) (by have:=hr 0 (by omega);rwa [show o+0*1=o+0 by omega]))) rfl ?_
  refine qV (AQ rfl rfl Tryz.underlying3 Tryz.underlying5 (AF Er Er)) rfl ?_
  refine qV (OT (m:=8) (c:=256) rfl rfl rfl rfl Et Et (AF Er Er)) rfl ?_
  refine J1 ?_
  refine qV (AB (lo:=1) rfl rfl rfl Tryz.underlying25 AO rfl Er) rfl ?_
  refine qV (AA rfl rfl BH (AL (fun h=>h) (by have:=hr 1 (by omega);rwa [show o+1*1=o+1 by omega]))) rfl ?_
  refine qV (AQ rfl rfl Tryz.underlying3 Tryz.underlying5 (AF Er Er)) rfl ?_
  refine qV (Uz rfl rfl rfl (bits_join .i64 63 Et (fun n h1 h2=>AF Er Er) 8 (f 0*256) (f 1) Er Er Er Er Er Er)) rfl ?_
  exact Eb
def BI (k:Int):Int:=if k=1 then 29 else if k=2 then 23 else if k=3 then 21 else if k=4 then 19 else 0
theorem V5 (w:World) (k:Int):Calls Tryz.prog 112 #[.int .i64 k] w fun e w'=>e = .returned (.int .i64 (BI k))∧Frm (fun _=>False) w w':=by
  refine enter Tryz.func112 rfl Tryz.ntmps112 rfl (St.start (fun _=>False) w) ?_
  refine J14 ?_
  refine JT (fun h5=>?_) (fun h5=>?_)
  refine J12 ?_
  refine eT1 ?_
  exact fun w' h=>⟨by unfold BI;rw [if_pos h5],h.frm⟩
  refine J6 ?_
  refine JT (fun h7=>?_) (fun h7=>?_)
  refine J12 ?_
  refine eT1 ?_
  exact fun w' h=>⟨by unfold BI;rw [if_neg h5,if_pos h7],h.frm⟩
  refine J6 ?_
  refine JT (fun h9=>?_) (fun h9=>?_)
  refine J12 ?_
  refine eT1 ?_
  exact fun w' h=>⟨by unfold BI;rw [if_neg h5,if_neg h7,if_pos h9],h.frm⟩
  refine J6 ?_
  refine JT (fun h11=>?_) (fun h11=>?_)
  refine J12 ?_
  refine eT1 ?_
  exact fun w' h=>⟨by unfold BI;rw [if_neg h5,if_neg h7,if_neg h9,if_pos h11],h.frm⟩
  refine J13 ?_
  refine eT1 ?_
  exact fun w' h=>⟨by unfold BI;rw [if_neg h5,if_neg h7,if_neg h9,if_neg h11],h.frm⟩
def AG (c s:Int) (d:ByteArray):List Value:=[.int .i64 c, .int .i64 s, .string d]
theorem Pm (w:World) (b o n c:Nat) (f:Nat→Int) (hr:Rd w b o n f) (hn:18≤n) (hc:n≤c) :
    Calls Tryz.prog 111 #[.slice (some ⟨b,o,none⟩) n c] w fun e w'=>e = .returned (.agg (AG 1 2 (str (fun i=>f (16+i)) 2)).toArray)∧Frm (fun _=>False) w w':=by
  refine enter Tryz.func111 rfl Tryz.ntmps111 rfl (St.start (fun _=>False) w) ?_
  refine J2 ?_
  refine WL.alloc rfl CV (.none rfl) rfl rfl ?_
  intro g2 hg2
  refine J5 ?_
  refine zV (HH (lo:=16) (hi:=18) rfl rfl rfl rfl Tryz.underlying25 AO rfl rfl Er Er Er) rfl ?_
  refine zV (CJ (fun i=>f (16+i)) rfl rfl Tryz.underlying25 Tryz.underlying5 Tryz.underlying9 (fun w' hS' _=>⟨b,o+16,by rw [show o+16*1=o+16 by omega],(hS'.IW (fun h=>h) hr).sub 16 2 Er⟩)) rfl ?_
  refine J5 ?_
  exact A9

def HN (f:Nat→Int):Bool:=(List.range 16).all fun i=>decide (f i=255)
theorem Jw {f:Nat→Int}:HN f=true↔∀ i,i<16→f i=255:=by
  unfold HN
  rw [List.all_eq_true]
  exact ⟨fun h i hi=>of_decide_eq_true (h i (List.mem_range.2 hi)),fun h i hi=>decide_eq_true (h i (List.mem_range.1 hi))⟩
theorem PV {f:Nat→Int}{i:Nat}(hi:i<16) (h:f i≠255):HN f=false:=by
  cases hm:HN f with
  | false=>rfl
  | true=>exact absurd (Jw.1 hm i hi) h
def CC (f:Nat→Int):Int:=f 16*256+f 17
def BX (n:Nat) (f:Nat→Int):Int×Int×Int×ByteArray :=
  if n<19 then (0,1,2,⟨#[]⟩)
  else if HN f=false then (0,1,1,⟨#[]⟩)
  else if CC f<19∨4096<CC f then (0,1,2,str (fun i=>f (16+i)) 2)
  else if BI (f 18)=0 then (0,1,3,str (fun i=>f (18+i)) 1)
  else if CC f<BI (f 18)∨f 18=4∧CC f≠19 then (0,1,2,str (fun i=>f (16+i)) 2)
  else (CC f,0,0,⟨#[]⟩)
theorem JY {n:Nat}{f:Nat→Int}(h1:¬ n<19) (h2:HN f=true):BX n f=if CC f<19∨4096<CC f then (0,1,2,str (fun i=>f (16+i)) 2) else if BI (f 18)=0 then (0,1,3,str (fun i=>f (18+i)) 1) else if CC f<BI (f 18)∨f 18=4∧CC f≠19 then (0,1,2,str (fun i=>f (16+i)) 2) else (CC f,0,0,⟨#[]⟩):=by
  unfold BX;rw [if_neg h1,if_neg (by rw [h2];decide)]
def MC (r:Int×Int×Int×ByteArray):Value:=.tuple #[.int .i64 r.1, .agg (AG r.2.1 r.2.2.1 r.2.2.2).toArray]
theorem RdO.get {w:World}{ad:Option Addr}{n:Nat}{f:Nat→Int}(h:RdO w ad n f) (hn:0<n):∃ b o,ad=some ⟨b,o,none⟩∧Rd w b o n f:=h hn
theorem Hf {k:Int}:BI k=0↔¬ (1≤k∧k≤4):=by unfold BI;split <;> (try split) <;> (try split) <;> (try split) <;> omega
set_option maxHeartbeats 2000000 in
theorem Rg (w0:World) (ad:Option Addr) (n c:Nat) (f:Nat→Int) (hf:Byt f) (hr0:RdO w0 ad n f) (hn:n≤1000000) (hnc:n≤c) :
    Calls Tryz.prog 84 #[.slice ad n c] w0 fun e w'=>e = .returned (MC (BX n f))∧Frm (fun _=>False) w0 w':=by
  refine enter Tryz.func84 rfl Tryz.ntmps84 rfl (St.start (fun _=>False) w0) ?_
  refine J3 ?_
  refine WL.alloc rfl CV (.none rfl) rfl rfl ?_
  intro g3 hg3
  refine J7 ?_
  refine JT (fun h10=>?_) (fun h10=>?_)
  refine J12 ?_
  exact Dj
  refine J8 ?_
  obtain ⟨b,o,rfl,hr⟩:=hr0.get Er
  have h16:=hf 16
  have h17:=hf 17
  have h18:=hf 18
  refine J1 ?_
  refine zV (CT (hi:=16) rfl rfl rfl Tryz.underlying25 AO rfl Er) rfl ?_
  refine J5 ?_
  refine WC.loop (fun k:Nat=>[(15, .int .i64 k),(14, .int .i64 16),(13, .slice (some ⟨b,o,none⟩) 16 c),(0, .slice (some ⟨b,o,none⟩) n c),(3, .pointer (some ⟨g3,0,none⟩))]) (fun _=>[.row g3 (AG 0 0 ⟨#[]⟩)]) (fun k=>k≤16∧∀ i,i<k→f i=255) (fun k=>16-k) 0 ⟨Nat.zero_le _,fun i h=>absurd h (Nat.not_lt_zero i)⟩ Km (.refl _) ?_
  rintro k ⟨hk,he⟩
  refine J2 ?_
  refine JT (fun h16=>?_) (fun h16=>?_)
  refine J10 ?_
  have hb:=hf k
  refine zV (AB (lo:=k) rfl rfl rfl Tryz.underlying25 AO Er Er) rfl ?_
  refine zV (AA rfl rfl BH (AL (fun h=>h) (by have:=hr k (by omega);rwa [show o+k*1=o+k by omega]))) rfl ?_
  refine J6 ?_
  refine JT (fun h20=>?_) (fun h20=>?_)
  refine J16 ?_
  refine eT2 ?_
  exact fun w' h=>⟨by unfold BX;rw [if_neg Er,if_pos (PV Er h20)];rfl,h.frm⟩
  refine J10 ?_
  exact eW (k+1) Er ⟨by omega,fun i hi=>by
  by_cases e:i=k
  · subst e;exact Classical.not_not.1 h20
  · exact he i Er⟩ (.int rfl Er (.cons rfl (.cons rfl (.cons rfl (.cons rfl .nil)))))
  refine J10 ?_
  refine cQ mixed ?_
  have hm:HN f=true:=Jw.2 fun i hi=>he i Er
  have e0:=JY (n:=n) (f:=f) Er hm
  refine J1 ?_
  refine qV (N3 (lo:=16) rfl rfl rfl Tryz.underlying25 AO rfl Er Er) rfl ?_
  refine WQ.call _ rfl rfl Nj (.none rfl) rfl rfl (fun w hS=>Calls.still (by
  have:=Zy w b (o+16*1) (n-16) (c-16) (fun i=>f (16+i)) (fun i=>hf _) (by rw [show o+16*1=o+16 by omega];exact (hS.IW (fun h=>h) hr).sub 16 (n-16) (by omega)) Er
  exact this) hS) ?_
  refine J1 ?_
  refine qV (AB (lo:=18) rfl rfl rfl Tryz.underlying25 AO rfl Er) rfl ?_
  refine qV (AA rfl rfl BH (AL (fun h=>h) (by have:=hr 18 (by omega);rwa [show o+18*1=o+18 by omega]))) rfl ?_
  refine qV (AQ rfl rfl Tryz.underlying3 Tryz.underlying5 (AF Er Er)) rfl ?_
  refine J8 ?_
  refine JT (fun h31=>?_) (fun h31=>?_)
  refine J10 ?_
  refine zk Pk rfl (fun w hS=>Pm w b o n c f (hS.IW (fun h=>h) hr) Er hnc) ?_
  refine J6 ?_
  refine eT2 ?_
  exact fun w' h=>⟨by rw [e0,if_pos (.inl h31)];rfl,h.frm⟩
  refine J2 ?_
  refine JT (fun h34=>?_) (fun h34=>?_)
  refine J7 ?_
  refine zk Pk rfl (fun w hS=>Pm w b o n c f (hS.IW (fun h=>h) hr) Er hnc) ?_
  refine J6 ?_
  refine eT2 ?_
  exact fun w' h=>⟨by rw [e0,if_pos (.inr h34)];rfl,h.frm⟩
  refine J10 ?_
  refine zk Zz rfl (fun w hS=>V5 w (f 18)) ?_
  refine JT (fun h40=>?_) (fun h40=>?_)
  refine J4 ?_
  refine WC.BB mixed<|rF 3 [0,1,4]<|?_
  refine J1 ?_
  refine pV (HH (lo:=18) (hi:=19) rfl rfl rfl rfl Tryz.underlying25 AO rfl rfl Er Er Er) rfl ?_
  refine J2 ?_
  refine rA 1 [2,3] rfl ?_
  refine qV (CJ (fun i=>f (18+i)) rfl rfl Tryz.underlying25 Tryz.underlying5 Tryz.underlying9 (fun w' hS' _=>⟨b,o+18,by rw [show o+18*1=o+18 by omega],(hS'.IW (fun h=>h) hr).sub 18 1 Er⟩)) rfl ?_
  refine J2 ?_
  refine rO 0 [5] ?_
  refine J6 ?_
  refine eT2 ?_
  exact fun w' h=>⟨by rw [e0,if_neg (show ¬ (CC f<19∨4096<CC f) from fun q=>q.elim h31 h34),if_pos h40];rfl,h.frm⟩
  refine J10 ?_
  refine zk Zz rfl (fun w hS=>V5 w (f 18)) ?_
  refine JT (fun h48=>?_) (fun h48=>?_)
  refine J14 ?_
  refine zk Pk rfl (fun w hS=>Pm w b o n c f (hS.IW (fun h=>h) hr) Er hnc) ?_
  refine J6 ?_
  refine eT2 ?_
  exact fun w' h=>⟨by rw [e0,if_neg (show ¬ (CC f<19∨4096<CC f) from fun q=>q.elim h31 h34),if_neg h40,if_pos (.inl h48)];rfl,h.frm⟩
  refine J2 ?_
  refine JT (fun h51=>?_) (fun h51=>?_)
  refine J2 ?_
  refine JT (fun h54=>?_) (fun h54=>?_)
  refine J8 ?_
  refine zk Pk rfl (fun w hS=>Pm w b o n c f (hS.IW (fun h=>h) hr) Er hnc) ?_
  refine J6 ?_
  refine eT2 ?_
  exact fun w' h=>⟨by rw [e0,if_neg (show ¬ (CC f<19∨4096<CC f) from fun q=>q.elim h31 h34),if_neg h40,if_pos (.inr ⟨h51,h54⟩)];rfl,h.frm⟩
  refine J16 ?_
  refine eT2 ?_
  exact fun w' h=>⟨by rw [e0,if_neg (show ¬ (CC f<19∨4096<CC f) from fun q=>q.elim h31 h34),if_neg h40,if_neg (fun q=>q.elim h48 fun q=>h54 q.2)];rfl,h.frm⟩
  refine J19 ?_
  refine eT2 ?_
  exact fun w' h=>⟨by rw [e0,if_neg (show ¬ (CC f<19∨4096<CC f) from fun q=>q.elim h31 h34),if_neg h40,if_neg (fun q=>q.elim h48 fun q=>h51 q.1)];rfl,h.frm⟩
theorem CD (w:World) (c s:Int) (ad:Option Addr) (m cap:Nat) (g:Nat→Int) (hr:RdO w ad m g) :
    Calls Tryz.prog 91 #[.int .i64 c, .int .i64 s, .slice ad m cap] w fun e w'=>e = .returned (.agg (AG c s (str g m)).toArray)∧Frm (fun _=>False) w w':=by
  refine enter Tryz.func91 rfl Tryz.ntmps91 rfl (St.start (fun _=>False) w) ?_
  refine J2 ?_
  refine WL.alloc rfl FI (.none rfl) rfl rfl ?_
  intro g6 hg6
  refine J7 ?_
  refine zV (CJ (g) rfl rfl Tryz.underlying25 Tryz.underlying5 Tryz.underlying9 (rdOOld (fun _ h=>h) hr)) rfl ?_
  refine J5 ?_
  exact A9
theorem RdO.nil (w:World) (g:Nat→Int):RdO w none 0 g:=fun h=>absurd h (Nat.lt_irrefl 0)
set_option maxHeartbeats 2000000 in
theorem MM (w0:World) (ad:Option Addr) (n c:Nat) (f:Nat→Int) (hf:Byt f) (hr0:RdO w0 ad n f) (hn:n≤1000000) (hnc:n≤c) :
    Calls Tryz.prog 71 #[.slice ad n c] w0 fun e w'=>e = .returned (MC (BX n f))∧Frm (fun _=>False) w0 w':=by
  refine enter Tryz.func71 rfl Tryz.ntmps71 rfl (St.start (fun _=>False) w0) ?_
  refine J3 ?_
  refine WL.alloc rfl FI (.none rfl) rfl rfl ?_
  intro g3 hg3
  refine J7 ?_
  refine JT (fun h9=>?_) (fun h9=>?_)
  refine J5 ?_
  refine zk G7 rfl (fun w hS=>CD w 1 2 none 0 0 (fun _=>0) (RdO.nil w _)) ?_
  refine J6 ?_
  exact Dj
  refine J12 ?_
  refine WC.loop (fun k:Nat=>[(4, .int .i64 k),(0, .slice ad n c),(3, .pointer (some ⟨g3,0,none⟩))]) (fun _=>[.row g3 (AG 0 0 ⟨#[]⟩)]) (fun k=>k≤16∧∀ i,i<k→f i=255) (fun k=>16-k) 0 ⟨Nat.zero_le _,fun i h=>absurd h (Nat.not_lt_zero i)⟩ Km (.refl _) ?_
  rintro k ⟨hk,he⟩
  obtain ⟨b,o,rfl,hr⟩:=hr0.get Er
  have h16:=hf 16
  have h17:=hf 17
  have h18:=hf 18
  refine J4 ?_
  refine JT (fun h12=>?_) (fun h12=>?_)
  refine J9 ?_
  have hb:=hf k
  refine J2 ?_
  refine zV (AB (lo:=k) rfl rfl rfl Tryz.underlying25 AO Er Er) rfl ?_
  refine zV (AA rfl rfl BH (AL (fun h=>h) (by have:=hr k (by omega);rwa [show o+k*1=o+k by omega]))) rfl ?_
  refine JT (fun h19=>?_) (fun h19=>?_)
  refine J5 ?_
  refine zk G7 rfl (fun w hS=>CD w 1 1 none 0 0 (fun _=>0) (RdO.nil w _)) ?_
  refine J10 ?_
  refine eT2 ?_
  exact fun w' h=>⟨by unfold BX;rw [if_neg Er,if_pos (PV (i:=k) Er Er)];rfl,h.frm⟩
  refine J11 ?_
  exact eW (k+1) Er ⟨by omega,fun i hi=>by
  by_cases e:i=k
  · subst e;omega
  · exact he i Er⟩ (.int rfl Er (.cons rfl (.cons rfl .nil)))
  refine J9 ?_
  refine cQ mixed ?_
  have hm:HN f=true:=Jw.2 fun i hi=>he i Er
  have e0:=JY (n:=n) (f:=f) Er hm
  refine J1 ?_
  refine qV (AB (lo:=16) rfl rfl rfl Tryz.underlying25 AO rfl Er) rfl ?_
  refine qV (AA rfl rfl BH (AL (fun h=>h) (by have:=hr 16 (by omega);rwa [show o+16*1=o+16 by omega]))) rfl ?_
  refine qV (AQ rfl rfl Tryz.underlying3 Tryz.underlying5 (AF Er Er)) rfl ?_
  refine qV (FY rfl rfl rfl (AF Er Er)) rfl ?_
  refine J1 ?_
  refine qV (AB (lo:=17) rfl rfl rfl Tryz.underlying25 AO rfl Er) rfl ?_
  refine qV (AA rfl rfl BH (AL (fun h=>h) (by have:=hr 17 (by omega);rwa [show o+17*1=o+17 by omega]))) rfl ?_
  refine qV (AQ rfl rfl Tryz.underlying3 Tryz.underlying5 (AF Er Er)) rfl ?_
  refine J7 ?_
  refine zV (AB (lo:=18) rfl rfl rfl Tryz.underlying25 AO rfl Er) rfl ?_
  refine zV (AA rfl rfl BH (AL (fun h=>h) (by have:=hr 18 (by omega);rwa [show o+18*1=o+18 by omega]))) rfl ?_
  refine zV (AQ rfl rfl Tryz.underlying3 Tryz.underlying5 (AF Er Er)) rfl ?_
  refine J7 ?_
  refine JT (fun h36=>?_) (fun h36=>?_)
  refine J10 ?_
  refine zV (HH (lo:=16) (hi:=18) rfl rfl rfl rfl Tryz.underlying25 AO rfl rfl Er Er Er) rfl ?_
  refine zk G7 rfl (fun w hS=>CD w 1 2 (some ⟨b,o+16*1,none⟩) 2 (c-16) (fun i=>f (16+i)) (fun _=>⟨b,o+16,by rw [show o+16*1=o+16 by omega],(hS.IW (fun h=>h) hr).sub 16 2 Er⟩)) ?_
  refine J6 ?_
  refine eT2 ?_
  exact fun w' h=>⟨by rw [e0,if_pos (.inl h36)];rfl,h.frm⟩
  refine J2 ?_
  refine JT (fun h39=>?_) (fun h39=>?_)
  refine J7 ?_
  refine zV (HH (lo:=16) (hi:=18) rfl rfl rfl rfl Tryz.underlying25 AO rfl rfl Er Er Er) rfl ?_
  refine zk G7 rfl (fun w hS=>CD w 1 2 (some ⟨b,o+16*1,none⟩) 2 (c-16) (fun i=>f (16+i)) (fun _=>⟨b,o+16,by rw [show o+16*1=o+16 by omega],(hS.IW (fun h=>h) hr).sub 16 2 Er⟩)) ?_
  refine J6 ?_
  refine eT2 ?_
  exact fun w' h=>⟨by rw [e0,if_pos (.inr h39)];rfl,h.frm⟩
  refine J10 ?_
  refine JT (fun h45=>?_) (fun h45=>?_)
  refine J10 ?_
  exact Bf
  refine J2 ?_
  refine JT (fun h48=>?_) (fun h48=>?_)
  refine J7 ?_
  exact Bf
  refine J7 ?_
  refine WC.cut (fun _:Unit=>[(82, .bool (decide (CC f<BI (f 18)∨f 18=4∧CC f≠19))),(5, .int .i64 (CC f)),(0, .slice (some ⟨b,o,none⟩) n c),(3, .pointer (some ⟨g3,0,none⟩))]) (fun _=>[.row g3 (AG 0 0 ⟨#[]⟩)]) (fun _=>True) ?_ ?_
  refine J1 ?_
  have hlz:¬ BI (f 18)=0:=fun q=>Hf.1 q Er
  rw [if_neg (show ¬ (CC f<19∨4096<CC f) from fun q=>q.elim h36 h39),if_neg hlz] at e0
  refine J1 ?_
  refine JT (fun h54=>?_) (fun h54=>?_)
  refine J2 ?_
  refine JT (fun h57=>?_) (fun h57=>?_)
  refine J26 ?_
  exact eM () trivial (.eq rfl (by
  have hl:CC f=f 16*256+f 17:=rfl
  unfold BI
  first|(rw [decide_eq_true];split <;> (try split) <;> (try split) <;> (try split) <;> omega)|(rw [decide_eq_false];split <;> (try split) <;> (try split) <;> (try split) <;> omega)) (.cons rfl (.cons rfl (.cons rfl .nil))))
  refine J3 ?_
  refine JT (fun h61=>?_) (fun h61=>?_)
  refine J2 ?_
  refine JT (fun h64=>?_) (fun h64=>?_)
  refine J19 ?_
  exact eM () trivial (.eq rfl (by
  have hl:CC f=f 16*256+f 17:=rfl
  unfold BI
  first|(rw [decide_eq_true];split <;> (try split) <;> (try split) <;> (try split) <;> omega)|(rw [decide_eq_false];split <;> (try split) <;> (try split) <;> (try split) <;> omega)) (.cons rfl (.cons rfl (.cons rfl .nil))))
  refine J4 ?_
  refine JT (fun h69=>?_) (fun h69=>?_)
  refine J2 ?_
  refine JT (fun h72=>?_) (fun h72=>?_)
  refine J11 ?_
  exact eM () trivial (.eq rfl (by
  have hl:CC f=f 16*256+f 17:=rfl
  unfold BI
  first|(rw [decide_eq_true];split <;> (try split) <;> (try split) <;> (try split) <;> omega)|(rw [decide_eq_false];split <;> (try split) <;> (try split) <;> (try split) <;> omega)) (.cons rfl (.cons rfl (.cons rfl .nil))))
  refine J4 ?_
  refine JT (fun h77=>?_) (fun h77=>?_)
  refine J2 ?_
  refine JT (fun h80=>?_) (fun h80=>?_)
  refine J3 ?_
  exact eM () trivial (.eq rfl (by
  have hl:CC f=f 16*256+f 17:=rfl
  unfold BI
  first|(rw [decide_eq_true];split <;> (try split) <;> (try split) <;> (try split) <;> omega)|(rw [decide_eq_false];split <;> (try split) <;> (try split) <;> (try split) <;> omega)) (.cons rfl (.cons rfl (.cons rfl .nil))))
  refine J3 ?_
  exact eM () trivial (.eq rfl (by
  have hl:CC f=f 16*256+f 17:=rfl
  unfold BI
  first|(rw [decide_eq_true];split <;> (try split) <;> (try split) <;> (try split) <;> omega)|(rw [decide_eq_false];split <;> (try split) <;> (try split) <;> (try split) <;> omega)) (.cons rfl (.cons rfl (.cons rfl .nil))))
  refine J6 ?_
  exact eM () trivial (.eq rfl (by
  have hl:CC f=f 16*256+f 17:=rfl
  unfold BI
  first|(rw [decide_eq_true];split <;> (try split) <;> (try split) <;> (try split) <;> omega)|(rw [decide_eq_false];split <;> (try split) <;> (try split) <;> (try split) <;> omega)) (.cons rfl (.cons rfl (.cons rfl .nil))))
  refine J7 ?_
  refine JT (fun h77=>?_) (fun h77=>?_)
  refine J2 ?_
  refine JT (fun h80=>?_) (fun h80=>?_)
  refine J3 ?_
  exact eM () trivial (.eq rfl (by
  have hl:CC f=f 16*256+f 17:=rfl
  unfold BI
  first|(rw [decide_eq_true];split <;> (try split) <;> (try split) <;> (try split) <;> omega)|(rw [decide_eq_false];split <;> (try split) <;> (try split) <;> (try split) <;> omega)) (.cons rfl (.cons rfl (.cons rfl .nil))))
  refine J3 ?_
  exact eM () trivial (.eq rfl (by
  have hl:CC f=f 16*256+f 17:=rfl
  unfold BI
  first|(rw [decide_eq_true];split <;> (try split) <;> (try split) <;> (try split) <;> omega)|(rw [decide_eq_false];split <;> (try split) <;> (try split) <;> (try split) <;> omega)) (.cons rfl (.cons rfl (.cons rfl .nil))))
  refine J6 ?_
  exact eM () trivial (.eq rfl (by
  have hl:CC f=f 16*256+f 17:=rfl
  unfold BI
  first|(rw [decide_eq_true];split <;> (try split) <;> (try split) <;> (try split) <;> omega)|(rw [decide_eq_false];split <;> (try split) <;> (try split) <;> (try split) <;> omega)) (.cons rfl (.cons rfl (.cons rfl .nil))))
  refine J7 ?_
  refine JT (fun h69=>?_) (fun h69=>?_)
  refine J2 ?_
  refine JT (fun h72=>?_) (fun h72=>?_)
  refine J11 ?_
  exact eM () trivial (.eq rfl (by
  have hl:CC f=f 16*256+f 17:=rfl
  unfold BI
  first|(rw [decide_eq_true];split <;> (try split) <;> (try split) <;> (try split) <;> omega)|(rw [decide_eq_false];split <;> (try split) <;> (try split) <;> (try split) <;> omega)) (.cons rfl (.cons rfl (.cons rfl .nil))))
  refine J4 ?_
  refine JT (fun h77=>?_) (fun h77=>?_)
  refine J2 ?_
  refine JT (fun h80=>?_) (fun h80=>?_)
  refine J3 ?_
  exact eM () trivial (.eq rfl (by
  have hl:CC f=f 16*256+f 17:=rfl
  unfold BI
  first|(rw [decide_eq_true];split <;> (try split) <;> (try split) <;> (try split) <;> omega)|(rw [decide_eq_false];split <;> (try split) <;> (try split) <;> (try split) <;> omega)) (.cons rfl (.cons rfl (.cons rfl .nil))))
  refine J3 ?_
  exact eM () trivial (.eq rfl (by
  have hl:CC f=f 16*256+f 17:=rfl
  unfold BI
  first|(rw [decide_eq_true];split <;> (try split) <;> (try split) <;> (try split) <;> omega)|(rw [decide_eq_false];split <;> (try split) <;> (try split) <;> (try split) <;> omega)) (.cons rfl (.cons rfl (.cons rfl .nil))))
  refine J6 ?_
  exact eM () trivial (.eq rfl (by
  have hl:CC f=f 16*256+f 17:=rfl
  unfold BI
  first|(rw [decide_eq_true];split <;> (try split) <;> (try split) <;> (try split) <;> omega)|(rw [decide_eq_false];split <;> (try split) <;> (try split) <;> (try split) <;> omega)) (.cons rfl (.cons rfl (.cons rfl .nil))))
  refine J7 ?_
  refine JT (fun h77=>?_) (fun h77=>?_)
  refine J2 ?_
  refine JT (fun h80=>?_) (fun h80=>?_)
  refine J3 ?_
  exact eM () trivial (.eq rfl (by
  have hl:CC f=f 16*256+f 17:=rfl
  unfold BI
  first|(rw [decide_eq_true];split <;> (try split) <;> (try split) <;> (try split) <;> omega)|(rw [decide_eq_false];split <;> (try split) <;> (try split) <;> (try split) <;> omega)) (.cons rfl (.cons rfl (.cons rfl .nil))))
  refine J3 ?_
  exact eM () trivial (.eq rfl (by
  have hl:CC f=f 16*256+f 17:=rfl
  unfold BI
  first|(rw [decide_eq_true];split <;> (try split) <;> (try split) <;> (try split) <;> omega)|(rw [decide_eq_false];split <;> (try split) <;> (try split) <;> (try split) <;> omega)) (.cons rfl (.cons rfl (.cons rfl .nil))))
  refine J6 ?_
  exact eM () trivial (.eq rfl (by
  have hl:CC f=f 16*256+f 17:=rfl
  unfold BI
  first|(rw [decide_eq_true];split <;> (try split) <;> (try split) <;> (try split) <;> omega)|(rw [decide_eq_false];split <;> (try split) <;> (try split) <;> (try split) <;> omega)) (.cons rfl (.cons rfl (.cons rfl .nil))))
  refine J6 ?_
  refine JT (fun h61=>?_) (fun h61=>?_)
  refine J2 ?_
  refine JT (fun h64=>?_) (fun h64=>?_)
  refine J19 ?_
  exact eM () trivial (.eq rfl (by
  have hl:CC f=f 16*256+f 17:=rfl
  unfold BI
  first|(rw [decide_eq_true];split <;> (try split) <;> (try split) <;> (try split) <;> omega)|(rw [decide_eq_false];split <;> (try split) <;> (try split) <;> (try split) <;> omega)) (.cons rfl (.cons rfl (.cons rfl .nil))))
  refine J4 ?_
  refine JT (fun h69=>?_) (fun h69=>?_)
  refine J2 ?_
  refine JT (fun h72=>?_) (fun h72=>?_)
  refine J11 ?_
  exact eM () trivial (.eq rfl (by
  have hl:CC f=f 16*256+f 17:=rfl
  unfold BI
  first|(rw [decide_eq_true];split <;> (try split) <;> (try split) <;> (try split) <;> omega)|(rw [decide_eq_false];split <;> (try split) <;> (try split) <;> (try split) <;> omega)) (.cons rfl (.cons rfl (.cons rfl .nil))))
  refine J4 ?_
  refine JT (fun h77=>?_) (fun h77=>?_)
  refine J2 ?_
  refine JT (fun h80=>?_) (fun h80=>?_)
  refine J3 ?_
  exact eM () trivial (.eq rfl (by
  have hl:CC f=f 16*256+f 17:=rfl
  unfold BI
  first|(rw [decide_eq_true];split <;> (try split) <;> (try split) <;> (try split) <;> omega)|(rw [decide_eq_false];split <;> (try split) <;> (try split) <;> (try split) <;> omega)) (.cons rfl (.cons rfl (.cons rfl .nil))))
  refine J3 ?_
  exact eM () trivial (.eq rfl (by
  have hl:CC f=f 16*256+f 17:=rfl
  unfold BI
  first|(rw [decide_eq_true];split <;> (try split) <;> (try split) <;> (try split) <;> omega)|(rw [decide_eq_false];split <;> (try split) <;> (try split) <;> (try split) <;> omega)) (.cons rfl (.cons rfl (.cons rfl .nil))))
  refine J6 ?_
  exact eM () trivial (.eq rfl (by
  have hl:CC f=f 16*256+f 17:=rfl
  unfold BI
  first|(rw [decide_eq_true];split <;> (try split) <;> (try split) <;> (try split) <;> omega)|(rw [decide_eq_false];split <;> (try split) <;> (try split) <;> (try split) <;> omega)) (.cons rfl (.cons rfl (.cons rfl .nil))))
  refine J7 ?_
  refine JT (fun h77=>?_) (fun h77=>?_)
  refine J2 ?_
  refine JT (fun h80=>?_) (fun h80=>?_)
  refine J3 ?_
  exact eM () trivial (.eq rfl (by
  have hl:CC f=f 16*256+f 17:=rfl
  unfold BI
  first|(rw [decide_eq_true];split <;> (try split) <;> (try split) <;> (try split) <;> omega)|(rw [decide_eq_false];split <;> (try split) <;> (try split) <;> (try split) <;> omega)) (.cons rfl (.cons rfl (.cons rfl .nil))))
  refine J3 ?_
  exact eM () trivial (.eq rfl (by
  have hl:CC f=f 16*256+f 17:=rfl
  unfold BI
  first|(rw [decide_eq_true];split <;> (try split) <;> (try split) <;> (try split) <;> omega)|(rw [decide_eq_false];split <;> (try split) <;> (try split) <;> (try split) <;> omega)) (.cons rfl (.cons rfl (.cons rfl .nil))))
  refine J6 ?_
  exact eM () trivial (.eq rfl (by
  have hl:CC f=f 16*256+f 17:=rfl
  unfold BI
  first|(rw [decide_eq_true];split <;> (try split) <;> (try split) <;> (try split) <;> omega)|(rw [decide_eq_false];split <;> (try split) <;> (try split) <;> (try split) <;> omega)) (.cons rfl (.cons rfl (.cons rfl .nil))))
  refine J7 ?_
  refine JT (fun h69=>?_) (fun h69=>?_)
  refine J2 ?_
  refine JT (fun h72=>?_) (fun h72=>?_)
  refine J11 ?_
  exact eM () trivial (.eq rfl (by
  have hl:CC f=f 16*256+f 17:=rfl
  unfold BI
  first|(rw [decide_eq_true];split <;> (try split) <;> (try split) <;> (try split) <;> omega)|(rw [decide_eq_false];split <;> (try split) <;> (try split) <;> (try split) <;> omega)) (.cons rfl (.cons rfl (.cons rfl .nil))))
  refine J4 ?_
  refine JT (fun h77=>?_) (fun h77=>?_)
  refine J2 ?_
  refine JT (fun h80=>?_) (fun h80=>?_)
  refine J3 ?_
  exact eM () trivial (.eq rfl (by
  have hl:CC f=f 16*256+f 17:=rfl
  unfold BI
  first|(rw [decide_eq_true];split <;> (try split) <;> (try split) <;> (try split) <;> omega)|(rw [decide_eq_false];split <;> (try split) <;> (try split) <;> (try split) <;> omega)) (.cons rfl (.cons rfl (.cons rfl .nil))))
  refine J3 ?_
  exact eM () trivial (.eq rfl (by
  have hl:CC f=f 16*256+f 17:=rfl
  unfold BI
  first|(rw [decide_eq_true];split <;> (try split) <;> (try split) <;> (try split) <;> omega)|(rw [decide_eq_false];split <;> (try split) <;> (try split) <;> (try split) <;> omega)) (.cons rfl (.cons rfl (.cons rfl .nil))))
  refine J6 ?_
  exact eM () trivial (.eq rfl (by
  have hl:CC f=f 16*256+f 17:=rfl
  unfold BI
  first|(rw [decide_eq_true];split <;> (try split) <;> (try split) <;> (try split) <;> omega)|(rw [decide_eq_false];split <;> (try split) <;> (try split) <;> (try split) <;> omega)) (.cons rfl (.cons rfl (.cons rfl .nil))))
  refine J7 ?_
  refine JT (fun h77=>?_) (fun h77=>?_)
  refine J2 ?_
  refine JT (fun h80=>?_) (fun h80=>?_)
  refine J3 ?_
  exact eM () trivial (.eq rfl (by
  have hl:CC f=f 16*256+f 17:=rfl
  unfold BI
  first|(rw [decide_eq_true];split <;> (try split) <;> (try split) <;> (try split) <;> omega)|(rw [decide_eq_false];split <;> (try split) <;> (try split) <;> (try split) <;> omega)) (.cons rfl (.cons rfl (.cons rfl .nil))))
  refine J3 ?_
  exact eM () trivial (.eq rfl (by
  have hl:CC f=f 16*256+f 17:=rfl
  unfold BI
  first|(rw [decide_eq_true];split <;> (try split) <;> (try split) <;> (try split) <;> omega)|(rw [decide_eq_false];split <;> (try split) <;> (try split) <;> (try split) <;> omega)) (.cons rfl (.cons rfl (.cons rfl .nil))))
  refine J6 ?_
  exact eM () trivial (.eq rfl (by
  have hl:CC f=f 16*256+f 17:=rfl
  unfold BI
  first|(rw [decide_eq_true];split <;> (try split) <;> (try split) <;> (try split) <;> omega)|(rw [decide_eq_false];split <;> (try split) <;> (try split) <;> (try split) <;> omega)) (.cons rfl (.cons rfl (.cons rfl .nil))))
  intro _ _
  have hlz:¬ BI (f 18)=0:=fun q=>Hf.1 q Er
  rw [if_neg (show ¬ (CC f<19∨4096<CC f) from fun q=>q.elim h36 h39),if_neg hlz] at e0
  refine WC.Lp rfl (fun h82=>?_) (fun h82=>?_)
  refine J3 ?_
  refine zV (HH (lo:=16) (hi:=18) rfl rfl rfl rfl Tryz.underlying25 AO rfl rfl Er Er Er) rfl ?_
  refine zk G7 rfl (fun w hS=>CD w 1 2 (some ⟨b,o+16*1,none⟩) 2 (c-16) (fun i=>f (16+i)) (fun _=>⟨b,o+16,by rw [show o+16*1=o+16 by omega],(hS.IW (fun h=>h) hr).sub 16 2 Er⟩)) ?_
  refine J6 ?_
  refine eT2 ?_
  exact fun w' h=>⟨by rw [e0,if_pos h82];rfl,h.frm⟩
  refine J11 ?_
  refine eT2 ?_
  exact fun w' h=>⟨by rw [e0,if_neg h82];rfl,h.frm⟩

def msgK (k:Int):List Value:=[.int .i64 k, .int .i64 0, .int .i64 0, .int .u32 0, .slice none 0 0, .slice none 0 0, .int .i64 0, .int .i64 0, .slice none 0 0, .int .u32 0, .int .i64 0, .int .i64 0, .int .i64 0, .int .u32 0, .slice none 0 0, .slice none 0 0, .slice none 0 0, .int .i64 0, .int .i64 0, .string ⟨#[]⟩]
end Gq
end Go.Proofs.YtcmpamnhegndnaaGreatDoor
