import Derived.Test.YtcebcphnmbhcpaaGreatHpNum
import Derived.Test.YtcebcphnmbhcpaaGreatHpMap
import Derived.Test.YtcebcphnmbhcpaaGreatHpShort
import Derived.Test.YtcebcphnmbhcpaaGreatHpRange
import Derived.Test.YtcebcphnmbhcpaaGreatHpSub
import Derived.Test.YtcebcphnmbhcpaaGreatProg
import Derived.KernelRfl
namespace Go.Hp
open Go Go.Proofs
theorem ty_ag_104 : aggTy Tryz.prog 104 3 = true := by kernel_rfl
theorem ty_ag_205 : aggTy Tryz.prog 205 6 = true := by kernel_rfl
theorem ty_ag_50 : aggTy Tryz.prog 50 9 = true := by kernel_rfl
theorem ty_ag_70 : aggTy Tryz.prog 70 2 = true := by kernel_rfl
theorem ty_ag_82 : aggTy Tryz.prog 82 2 = true := by kernel_rfl
theorem ty_ar_150 : arrTy Tryz.prog 150 16 148 1 = true := by kernel_rfl
theorem ty_ar_39 : arrTy Tryz.prog 39 4 38 1 = true := by kernel_rfl
set_option maxRecDepth 100000 in
theorem ty_el2_198 : ∃ i, Tryz.prog.info? 205 = some i ∧ i.zero = some (.agg #[.int .i64 0, .int .i64 0, .int .i64 0, .int .i64 0, .int .i64 0, .slice none 0 0]) := ⟨_, rfl, rfl⟩
set_option maxRecDepth 100000 in
theorem ty_el2_38 : ∃ i, Tryz.prog.info? 9 = some i ∧ i.zero = some (.string { data := #[] }) := ⟨_, rfl, rfl⟩
set_option maxRecDepth 100000 in
theorem ty_el2_45 : ∃ i, Tryz.prog.info? 70 = some i ∧ i.zero = some (.agg #[.bool false, .slice none 0 0]) := ⟨_, rfl, rfl⟩
set_option maxRecDepth 100000 in
theorem ty_el2_47 : ∃ i, Tryz.prog.info? 5 = some i ∧ i.zero = some (.int .u8 0) := ⟨_, rfl, rfl⟩
set_option maxRecDepth 100000 in
theorem ty_el2_48 : ∃ i, Tryz.prog.info? 3 = some i ∧ i.zero = some (.int .i64 0) := ⟨_, rfl, rfl⟩
set_option maxRecDepth 100000 in
theorem ty_el2_51 : ∃ i, Tryz.prog.info? 55 = some i ∧ i.zero = some (.pointer none) := ⟨_, rfl, rfl⟩
set_option maxRecDepth 100000 in
theorem ty_el2_65 : ∃ i, Tryz.prog.info? 47 = some i ∧ i.zero = some (.slice none 0 0) := ⟨_, rfl, rfl⟩
set_option maxRecDepth 100000 in
theorem ty_el2_98 : ∃ i, Tryz.prog.info? 142 = some i ∧ i.zero = some (.pointer none) := ⟨_, rfl, rfl⟩
set_option maxRecDepth 100000 in
theorem ty_el_198 : ∃ i, Tryz.prog.info? 205 = some i ∧ i.zero = some (.agg #[.int .i64 0, .int .i64 0, .int .i64 0, .int .i64 0, .int .i64 0, .slice none 0 0]) ∧ i.bytes = 64 := ⟨_, rfl, rfl, rfl⟩
set_option maxRecDepth 100000 in
theorem ty_el_38 : ∃ i, Tryz.prog.info? 9 = some i ∧ i.zero = some (.string { data := #[] }) ∧ i.bytes = 16 := ⟨_, rfl, rfl, rfl⟩
set_option maxRecDepth 100000 in
theorem ty_el_45 : ∃ i, Tryz.prog.info? 70 = some i ∧ i.zero = some (.agg #[.bool false, .slice none 0 0]) ∧ i.bytes = 32 := ⟨_, rfl, rfl, rfl⟩
set_option maxRecDepth 100000 in
theorem ty_el_47 : ∃ i, Tryz.prog.info? 5 = some i ∧ i.zero = some (.int .u8 0) ∧ i.bytes = 1 := ⟨_, rfl, rfl, rfl⟩
set_option maxRecDepth 100000 in
theorem ty_el_48 : ∃ i, Tryz.prog.info? 3 = some i ∧ i.zero = some (.int .i64 0) ∧ i.bytes = 8 := ⟨_, rfl, rfl, rfl⟩
set_option maxRecDepth 100000 in
theorem ty_el_51 : ∃ i, Tryz.prog.info? 55 = some i ∧ i.zero = some (.pointer none) ∧ i.bytes = 8 := ⟨_, rfl, rfl, rfl⟩
set_option maxRecDepth 100000 in
theorem ty_el_65 : ∃ i, Tryz.prog.info? 47 = some i ∧ i.zero = some (.slice none 0 0) ∧ i.bytes = 24 := ⟨_, rfl, rfl, rfl⟩
set_option maxRecDepth 100000 in
theorem ty_el_98 : ∃ i, Tryz.prog.info? 142 = some i ∧ i.zero = some (.pointer none) ∧ i.bytes = 8 := ⟨_, rfl, rfl, rfl⟩
set_option maxRecDepth 100000 in
theorem ty_ez_197 : ∃ i, Tryz.prog.info? 197 = some i ∧ i.zero = some (.pointer none) := ⟨_, rfl, rfl⟩
theorem ty_fd_100_0 : fieldTy Tryz.prog 100 0 0 = true := by kernel_rfl
theorem ty_fd_100_1 : fieldTy Tryz.prog 100 1 1 = true := by kernel_rfl
theorem ty_fd_100_2 : fieldTy Tryz.prog 100 2 2 = true := by kernel_rfl
theorem ty_fd_100_3 : fieldTy Tryz.prog 100 3 3 = true := by kernel_rfl
theorem ty_fd_104_0 : fieldTy Tryz.prog 104 0 0 = true := by kernel_rfl
theorem ty_fd_104_1 : fieldTy Tryz.prog 104 1 1 = true := by kernel_rfl
theorem ty_fd_104_2 : fieldTy Tryz.prog 104 2 2 = true := by kernel_rfl
theorem ty_fd_106_0 : fieldTy Tryz.prog 106 0 0 = true := by kernel_rfl
theorem ty_fd_106_1 : fieldTy Tryz.prog 106 1 1 = true := by kernel_rfl
theorem ty_fd_106_2 : fieldTy Tryz.prog 106 2 2 = true := by kernel_rfl
theorem ty_fd_106_3 : fieldTy Tryz.prog 106 3 4 = true := by kernel_rfl
theorem ty_fd_106_4 : fieldTy Tryz.prog 106 4 7 = true := by kernel_rfl
theorem ty_fd_108_0 : fieldTy Tryz.prog 108 0 0 = true := by kernel_rfl
theorem ty_fd_110_0 : fieldTy Tryz.prog 110 0 0 = true := by kernel_rfl
theorem ty_fd_110_1 : fieldTy Tryz.prog 110 1 1 = true := by kernel_rfl
theorem ty_fd_110_2 : fieldTy Tryz.prog 110 2 2 = true := by kernel_rfl
theorem ty_fd_110_3 : fieldTy Tryz.prog 110 3 3 = true := by kernel_rfl
theorem ty_fd_110_4 : fieldTy Tryz.prog 110 4 12 = true := by kernel_rfl
theorem ty_fd_110_5 : fieldTy Tryz.prog 110 5 21 = true := by kernel_rfl
theorem ty_fd_114_0 : fieldTy Tryz.prog 114 0 0 = true := by kernel_rfl
theorem ty_fd_114_1 : fieldTy Tryz.prog 114 1 1 = true := by kernel_rfl
theorem ty_fd_114_2 : fieldTy Tryz.prog 114 2 2 = true := by kernel_rfl
theorem ty_fd_114_3 : fieldTy Tryz.prog 114 3 3 = true := by kernel_rfl
theorem ty_fd_117_0 : fieldTy Tryz.prog 117 0 0 = true := by kernel_rfl
theorem ty_fd_117_1 : fieldTy Tryz.prog 117 1 1 = true := by kernel_rfl
theorem ty_fd_125_0 : fieldTy Tryz.prog 125 0 0 = true := by kernel_rfl
theorem ty_fd_128_0 : fieldTy Tryz.prog 128 0 0 = true := by kernel_rfl
theorem ty_fd_130_1 : fieldTy Tryz.prog 130 1 1 = true := by kernel_rfl
theorem ty_fd_130_2 : fieldTy Tryz.prog 130 2 2 = true := by kernel_rfl
theorem ty_fd_133_0 : fieldTy Tryz.prog 133 0 0 = true := by kernel_rfl
theorem ty_fd_133_1 : fieldTy Tryz.prog 133 1 1 = true := by kernel_rfl
theorem ty_fd_136_1 : fieldTy Tryz.prog 136 1 1 = true := by kernel_rfl
theorem ty_fd_136_2 : fieldTy Tryz.prog 136 2 2 = true := by kernel_rfl
theorem ty_fd_136_3 : fieldTy Tryz.prog 136 3 3 = true := by kernel_rfl
theorem ty_fd_136_4 : fieldTy Tryz.prog 136 4 4 = true := by kernel_rfl
theorem ty_fd_136_5 : fieldTy Tryz.prog 136 5 5 = true := by kernel_rfl
theorem ty_fd_148_2 : fieldTy Tryz.prog 148 2 0 = true := by kernel_rfl
theorem ty_fd_163_2 : fieldTy Tryz.prog 163 2 0 = true := by kernel_rfl
theorem ty_fd_165_0 : fieldTy Tryz.prog 165 0 0 = true := by kernel_rfl
theorem ty_fd_165_1 : fieldTy Tryz.prog 165 1 1 = true := by kernel_rfl
theorem ty_fd_168_0 : fieldTy Tryz.prog 168 0 0 = true := by kernel_rfl
theorem ty_fd_168_2 : fieldTy Tryz.prog 168 2 2 = true := by kernel_rfl
theorem ty_fd_168_3 : fieldTy Tryz.prog 168 3 3 = true := by kernel_rfl
theorem ty_fd_200_0 : fieldTy Tryz.prog 200 0 0 = true := by kernel_rfl
theorem ty_fd_200_1 : fieldTy Tryz.prog 200 1 1 = true := by kernel_rfl
theorem ty_fd_200_2 : fieldTy Tryz.prog 200 2 2 = true := by kernel_rfl
theorem ty_fd_200_3 : fieldTy Tryz.prog 200 3 3 = true := by kernel_rfl
theorem ty_fd_200_4 : fieldTy Tryz.prog 200 4 4 = true := by kernel_rfl
theorem ty_fd_205_0 : fieldTy Tryz.prog 205 0 0 = true := by kernel_rfl
theorem ty_fd_205_1 : fieldTy Tryz.prog 205 1 1 = true := by kernel_rfl
theorem ty_fd_205_2 : fieldTy Tryz.prog 205 2 2 = true := by kernel_rfl
theorem ty_fd_205_3 : fieldTy Tryz.prog 205 3 3 = true := by kernel_rfl
theorem ty_fd_205_4 : fieldTy Tryz.prog 205 4 4 = true := by kernel_rfl
theorem ty_fd_205_5 : fieldTy Tryz.prog 205 5 5 = true := by kernel_rfl
theorem ty_fd_207_0 : fieldTy Tryz.prog 207 0 0 = true := by kernel_rfl
theorem ty_fd_207_1 : fieldTy Tryz.prog 207 1 1 = true := by kernel_rfl
theorem ty_fd_207_2 : fieldTy Tryz.prog 207 2 2 = true := by kernel_rfl
theorem ty_fd_207_3 : fieldTy Tryz.prog 207 3 3 = true := by kernel_rfl
theorem ty_fd_207_4 : fieldTy Tryz.prog 207 4 4 = true := by kernel_rfl
theorem ty_fd_207_5 : fieldTy Tryz.prog 207 5 5 = true := by kernel_rfl
theorem ty_fd_207_6 : fieldTy Tryz.prog 207 6 6 = true := by kernel_rfl
theorem ty_fd_207_7 : fieldTy Tryz.prog 207 7 7 = true := by kernel_rfl
theorem ty_fd_215_0 : fieldTy Tryz.prog 215 0 0 = true := by kernel_rfl
theorem ty_fd_243_0 : fieldTy Tryz.prog 243 0 0 = true := by kernel_rfl
theorem ty_fd_243_1 : fieldTy Tryz.prog 243 1 1 = true := by kernel_rfl
theorem ty_fd_37_2 : fieldTy Tryz.prog 37 2 2 = true := by kernel_rfl
theorem ty_fd_37_3 : fieldTy Tryz.prog 37 3 3 = true := by kernel_rfl
theorem ty_fd_50_0 : fieldTy Tryz.prog 50 0 0 = true := by kernel_rfl
theorem ty_fd_50_1 : fieldTy Tryz.prog 50 1 1 = true := by kernel_rfl
theorem ty_fd_50_2 : fieldTy Tryz.prog 50 2 2 = true := by kernel_rfl
theorem ty_fd_50_3 : fieldTy Tryz.prog 50 3 3 = true := by kernel_rfl
theorem ty_fd_50_4 : fieldTy Tryz.prog 50 4 4 = true := by kernel_rfl
theorem ty_fd_50_5 : fieldTy Tryz.prog 50 5 5 = true := by kernel_rfl
theorem ty_fd_50_6 : fieldTy Tryz.prog 50 6 6 = true := by kernel_rfl
theorem ty_fd_50_7 : fieldTy Tryz.prog 50 7 7 = true := by kernel_rfl
theorem ty_fd_50_8 : fieldTy Tryz.prog 50 8 8 = true := by kernel_rfl
theorem ty_fd_53_0 : fieldTy Tryz.prog 53 0 0 = true := by kernel_rfl
theorem ty_fd_53_1 : fieldTy Tryz.prog 53 1 1 = true := by kernel_rfl
theorem ty_fd_53_2 : fieldTy Tryz.prog 53 2 2 = true := by kernel_rfl
theorem ty_fd_53_3 : fieldTy Tryz.prog 53 3 3 = true := by kernel_rfl
theorem ty_fd_53_4 : fieldTy Tryz.prog 53 4 4 = true := by kernel_rfl
theorem ty_fd_70_0 : fieldTy Tryz.prog 70 0 0 = true := by kernel_rfl
theorem ty_fd_70_1 : fieldTy Tryz.prog 70 1 1 = true := by kernel_rfl
theorem ty_fd_82_0 : fieldTy Tryz.prog 82 0 0 = true := by kernel_rfl
theorem ty_fd_82_1 : fieldTy Tryz.prog 82 1 1 = true := by kernel_rfl
theorem ty_fd_88_0 : fieldTy Tryz.prog 88 0 0 = true := by kernel_rfl
theorem ty_fd_88_1 : fieldTy Tryz.prog 88 1 1 = true := by kernel_rfl
theorem ty_fl_82_1 : fldTy Tryz.prog 82 1 3 1 = true := by kernel_rfl
theorem ty_ik_3 : Tryz.prog.underlying 3 = some (.int .i64) := by kernel_rfl
theorem ty_ik_44 : Tryz.prog.underlying 44 = some (.int .u64) := by kernel_rfl
theorem ty_ik_5 : Tryz.prog.underlying 5 = some (.int .u8) := by kernel_rfl
theorem ty_li_50 : Go.liesAt Tryz.prog Tryz.prog.depth 50 (9 / Tryz.prog.cellsOf 50) 0 50 1 = true := by kernel_rfl
theorem ty_mp_134 : mapTy Tryz.prog 134 3 197 = true := by kernel_rfl
theorem ty_pe_89 : Tryz.prog.underlying 89 = some (.pointer 50) := by kernel_rfl
theorem ty_pt_140 : Tryz.prog.underlying 140 = some (.pointer (Tryz.prog.pointee 140)) := by kernel_rfl
theorem ty_pt_24 : Tryz.prog.underlying 24 = some (.pointer (Tryz.prog.pointee 24)) := by kernel_rfl
theorem ty_pt_26 : Tryz.prog.underlying 26 = some (.pointer (Tryz.prog.pointee 26)) := by kernel_rfl
theorem ty_pt_28 : Tryz.prog.underlying 28 = some (.pointer (Tryz.prog.pointee 28)) := by kernel_rfl
theorem ty_pt_29 : Tryz.prog.underlying 29 = some (.pointer (Tryz.prog.pointee 29)) := by kernel_rfl
theorem ty_pt_30 : Tryz.prog.underlying 30 = some (.pointer (Tryz.prog.pointee 30)) := by kernel_rfl
theorem ty_pt_31 : Tryz.prog.underlying 31 = some (.pointer (Tryz.prog.pointee 31)) := by kernel_rfl
theorem ty_pt_55 : Tryz.prog.underlying 55 = some (.pointer (Tryz.prog.pointee 55)) := by kernel_rfl
theorem ty_pt_89 : Tryz.prog.underlying 89 = some (.pointer (Tryz.prog.pointee 89)) := by kernel_rfl
theorem ty_pt_93 : Tryz.prog.underlying 93 = some (.pointer (Tryz.prog.pointee 93)) := by kernel_rfl
theorem ty_sc_112 : scalarTy Tryz.prog 112 = true := by kernel_rfl
theorem ty_sc_134 : scalarTy Tryz.prog 134 = true := by kernel_rfl
theorem ty_sc_140 : scalarTy Tryz.prog 140 = true := by kernel_rfl
theorem ty_sc_142 : scalarTy Tryz.prog 142 = true := by kernel_rfl
theorem ty_sc_192 : scalarTy Tryz.prog 192 = true := by kernel_rfl
theorem ty_sc_198 : scalarTy Tryz.prog 198 = true := by kernel_rfl
theorem ty_sc_23 : scalarTy Tryz.prog 23 = true := by kernel_rfl
theorem ty_sc_26 : scalarTy Tryz.prog 26 = true := by kernel_rfl
theorem ty_sc_29 : scalarTy Tryz.prog 29 = true := by kernel_rfl
theorem ty_sc_3 : scalarTy Tryz.prog 3 = true := by kernel_rfl
theorem ty_sc_30 : scalarTy Tryz.prog 30 = true := by kernel_rfl
theorem ty_sc_31 : scalarTy Tryz.prog 31 = true := by kernel_rfl
theorem ty_sc_32 : scalarTy Tryz.prog 32 = true := by kernel_rfl
theorem ty_sc_38 : scalarTy Tryz.prog 38 = true := by kernel_rfl
theorem ty_sc_4 : scalarTy Tryz.prog 4 = true := by kernel_rfl
theorem ty_sc_40 : scalarTy Tryz.prog 40 = true := by kernel_rfl
theorem ty_sc_44 : scalarTy Tryz.prog 44 = true := by kernel_rfl
theorem ty_sc_45 : scalarTy Tryz.prog 45 = true := by kernel_rfl
theorem ty_sc_47 : scalarTy Tryz.prog 47 = true := by kernel_rfl
theorem ty_sc_48 : scalarTy Tryz.prog 48 = true := by kernel_rfl
theorem ty_sc_5 : scalarTy Tryz.prog 5 = true := by kernel_rfl
theorem ty_sc_55 : scalarTy Tryz.prog 55 = true := by kernel_rfl
theorem ty_sc_65 : scalarTy Tryz.prog 65 = true := by kernel_rfl
theorem ty_sc_9 : scalarTy Tryz.prog 9 = true := by kernel_rfl
theorem ty_sc_97 : scalarTy Tryz.prog 97 = true := by kernel_rfl
theorem ty_sc_98 : scalarTy Tryz.prog 98 = true := by kernel_rfl
theorem ty_sl_198 : sliceTy Tryz.prog 198 205 6 = true := by kernel_rfl
theorem ty_sl_22 : sliceTy Tryz.prog 22 53 5 = true := by kernel_rfl
theorem ty_sl_38 : sliceTy Tryz.prog 38 9 1 = true := by kernel_rfl
theorem ty_sl_45 : sliceTy Tryz.prog 45 70 2 = true := by kernel_rfl
theorem ty_sl_47 : sliceTy Tryz.prog 47 5 1 = true := by kernel_rfl
theorem ty_sl_48 : sliceTy Tryz.prog 48 3 1 = true := by kernel_rfl
theorem ty_sl_51 : sliceTy Tryz.prog 51 55 1 = true := by kernel_rfl
theorem ty_sl_65 : sliceTy Tryz.prog 65 47 1 = true := by kernel_rfl
theorem ty_sl_98 : sliceTy Tryz.prog 98 142 1 = true := by kernel_rfl
theorem ty_sz_104 : sizeTy Tryz.prog 104 3 = true := by kernel_rfl
theorem ty_sz_112 : sizeTy Tryz.prog 112 1 = true := by kernel_rfl
theorem ty_sz_198 : sizeTy Tryz.prog 198 1 = true := by kernel_rfl
theorem ty_sz_205 : sizeTy Tryz.prog 205 6 = true := by kernel_rfl
theorem ty_sz_23 : sizeTy Tryz.prog 23 1 = true := by kernel_rfl
theorem ty_sz_3 : sizeTy Tryz.prog 3 1 = true := by kernel_rfl
theorem ty_sz_38 : sizeTy Tryz.prog 38 1 = true := by kernel_rfl
theorem ty_sz_4 : sizeTy Tryz.prog 4 1 = true := by kernel_rfl
theorem ty_sz_40 : sizeTy Tryz.prog 40 1 = true := by kernel_rfl
theorem ty_sz_44 : sizeTy Tryz.prog 44 1 = true := by kernel_rfl
theorem ty_sz_45 : sizeTy Tryz.prog 45 1 = true := by kernel_rfl
theorem ty_sz_47 : sizeTy Tryz.prog 47 1 = true := by kernel_rfl
theorem ty_sz_48 : sizeTy Tryz.prog 48 1 = true := by kernel_rfl
theorem ty_sz_50 : sizeTy Tryz.prog 50 9 = true := by kernel_rfl
theorem ty_sz_55 : sizeTy Tryz.prog 55 1 = true := by kernel_rfl
theorem ty_sz_65 : sizeTy Tryz.prog 65 1 = true := by kernel_rfl
theorem ty_sz_70 : sizeTy Tryz.prog 70 2 = true := by kernel_rfl
theorem ty_sz_82 : sizeTy Tryz.prog 82 2 = true := by kernel_rfl
theorem ty_sz_98 : sizeTy Tryz.prog 98 1 = true := by kernel_rfl
theorem ty_un_3 : (Tryz.prog.underlying 3).isSome = true := by kernel_rfl
theorem ty_un_44 : (Tryz.prog.underlying 44).isSome = true := by kernel_rfl
theorem ty_un_5 : (Tryz.prog.underlying 5).isSome = true := by kernel_rfl
theorem ty_up_146 : Tryz.prog.underlying 146 = some .unsafePointer := by kernel_rfl
theorem ty_zd_100 : sizedTy Tryz.prog 100 = true := by kernel_rfl
theorem ty_zd_104 : sizedTy Tryz.prog 104 = true := by kernel_rfl
theorem ty_zd_106 : sizedTy Tryz.prog 106 = true := by kernel_rfl
theorem ty_zd_110 : sizedTy Tryz.prog 110 = true := by kernel_rfl
theorem ty_zd_114 : sizedTy Tryz.prog 114 = true := by kernel_rfl
theorem ty_zd_117 : sizedTy Tryz.prog 117 = true := by kernel_rfl
theorem ty_zd_125 : sizedTy Tryz.prog 125 = true := by kernel_rfl
theorem ty_zd_128 : sizedTy Tryz.prog 128 = true := by kernel_rfl
theorem ty_zd_130 : sizedTy Tryz.prog 130 = true := by kernel_rfl
theorem ty_zd_133 : sizedTy Tryz.prog 133 = true := by kernel_rfl
theorem ty_zd_136 : sizedTy Tryz.prog 136 = true := by kernel_rfl
theorem ty_zd_139 : sizedTy Tryz.prog 139 = true := by kernel_rfl
theorem ty_zd_150 : sizedTy Tryz.prog 150 = true := by kernel_rfl
theorem ty_zd_156 : sizedTy Tryz.prog 156 = true := by kernel_rfl
theorem ty_zd_165 : sizedTy Tryz.prog 165 = true := by kernel_rfl
theorem ty_zd_168 : sizedTy Tryz.prog 168 = true := by kernel_rfl
theorem ty_zd_200 : sizedTy Tryz.prog 200 = true := by kernel_rfl
theorem ty_zd_205 : sizedTy Tryz.prog 205 = true := by kernel_rfl
theorem ty_zd_207 : sizedTy Tryz.prog 207 = true := by kernel_rfl
theorem ty_zd_215 : sizedTy Tryz.prog 215 = true := by kernel_rfl
theorem ty_zd_243 : sizedTy Tryz.prog 243 = true := by kernel_rfl
theorem ty_zd_37 : sizedTy Tryz.prog 37 = true := by kernel_rfl
theorem ty_zd_50 : sizedTy Tryz.prog 50 = true := by kernel_rfl
theorem ty_zd_70 : sizedTy Tryz.prog 70 = true := by kernel_rfl
theorem ty_zd_82 : sizedTy Tryz.prog 82 = true := by kernel_rfl
theorem ty_zd_88 : sizedTy Tryz.prog 88 = true := by kernel_rfl
set_option maxRecDepth 100000 in
theorem ty_zr_100 : zeroTy Tryz.prog 100 [.pointer none, .int .u64 0, .slice none 0 0, .int .i64 0] := ⟨_, _, rfl, rfl, rfl⟩
set_option maxRecDepth 100000 in
theorem ty_zr_104 : zeroTy Tryz.prog 104 [.int .i64 0, .int .i64 0, .slice none 0 0] := ⟨_, _, rfl, rfl, rfl⟩
set_option maxRecDepth 100000 in
theorem ty_zr_106 : zeroTy Tryz.prog 106 [.pointer none, .bool false, .int .i64 0, .int .i64 0, .int .i64 0, .int .i64 0, .slice none 0 0, .int .i64 0] := ⟨_, _, rfl, rfl, rfl⟩
set_option maxRecDepth 100000 in
theorem ty_zr_110 : zeroTy Tryz.prog 110 [.pointer none, .nilFunc, .int .i64 0, .int .u64 0, .slice none 0 0, .int .i64 0, .int .i64 0, .int .i64 0, .int .i64 0, .int .i64 0, .int .i64 0, .slice none 0 0, .int .u64 0, .slice none 0 0, .int .i64 0, .int .i64 0, .int .i64 0, .int .i64 0, .int .i64 0, .int .i64 0, .slice none 0 0, .int .i64 0] := ⟨_, _, rfl, rfl, rfl⟩
set_option maxRecDepth 100000 in
theorem ty_zr_114 : zeroTy Tryz.prog 114 [.pointer none, .pointer none, .int .i64 0, .slice none 0 0, .int .i64 0] := ⟨_, _, rfl, rfl, rfl⟩
set_option maxRecDepth 100000 in
theorem ty_zr_117 : zeroTy Tryz.prog 117 [.pointer none, .pointer none] := ⟨_, _, rfl, rfl, rfl⟩
set_option maxRecDepth 100000 in
theorem ty_zr_125 : zeroTy Tryz.prog 125 [.slice none 0 0, .slice none 0 0, .slice none 0 0, .int .i64 0, .bool false, .int .i64 0, .int .i64 0] := ⟨_, _, rfl, rfl, rfl⟩
set_option maxRecDepth 100000 in
theorem ty_zr_128 : zeroTy Tryz.prog 128 [.slice none 0 0, .slice none 0 0, .int .i64 0, .bool false, .int .i64 0, .int .i64 0] := ⟨_, _, rfl, rfl, rfl⟩
set_option maxRecDepth 100000 in
theorem ty_zr_130 : zeroTy Tryz.prog 130 [.pointer none, .int .i64 0, .int .i64 0, .int .i64 0] := ⟨_, _, rfl, rfl, rfl⟩
set_option maxRecDepth 100000 in
theorem ty_zr_133 : zeroTy Tryz.prog 133 [.pointer none, .int .i64 0, .int .i64 0] := ⟨_, _, rfl, rfl, rfl⟩
set_option maxRecDepth 100000 in
theorem ty_zr_136 : zeroTy Tryz.prog 136 [.pointer none, .pointer none, .int .i64 0, .map none, .map none, .int .i64 0, .int .i64 0, .int .i64 0, .int .i64 0, .int .i64 0, .int .i64 0] := ⟨_, _, rfl, rfl, rfl⟩
set_option maxRecDepth 100000 in
theorem ty_zr_139 : zeroTy Tryz.prog 139 [.pointer none, .int .i64 0, .int .i64 0, .slice none 0 0, .int .i64 0, .int .i64 0, .int .i64 0, .int .i64 0, .int .i64 0, .int .i64 0] := ⟨_, _, rfl, rfl, rfl⟩
set_option maxRecDepth 100000 in
theorem ty_zr_150 : zeroTy Tryz.prog 150 [.pointer none, .pointer none, .pointer none, .pointer none, .pointer none, .pointer none, .pointer none, .pointer none, .pointer none, .pointer none, .pointer none, .pointer none, .pointer none, .pointer none, .pointer none, .pointer none] := ⟨_, _, rfl, rfl, rfl⟩
set_option maxRecDepth 100000 in
theorem ty_zr_165 : zeroTy Tryz.prog 165 [.int .i64 0, .pointer none] := ⟨_, _, rfl, rfl, rfl⟩
set_option maxRecDepth 100000 in
theorem ty_zr_168 : zeroTy Tryz.prog 168 [.int .i64 0, .int .i64 0, .int .i64 0, .int .i64 0, .int .i64 0] := ⟨_, _, rfl, rfl, rfl⟩
set_option maxRecDepth 100000 in
theorem ty_zr_200 : zeroTy Tryz.prog 200 [.int .i64 0, .int .i64 0, .int .i64 0, .slice none 0 0, .slice none 0 0] := ⟨_, _, rfl, rfl, rfl⟩
set_option maxRecDepth 100000 in
theorem ty_zr_205 : zeroTy Tryz.prog 205 [.int .i64 0, .int .i64 0, .int .i64 0, .int .i64 0, .int .i64 0, .slice none 0 0] := ⟨_, _, rfl, rfl, rfl⟩
set_option maxRecDepth 100000 in
theorem ty_zr_207 : zeroTy Tryz.prog 207 [.pointer none, .int .i64 0, .slice none 0 0, .bool false, .int .i64 0, .int .i64 0, .slice none 0 0, .int .i64 0] := ⟨_, _, rfl, rfl, rfl⟩
set_option maxRecDepth 100000 in
theorem ty_zr_215 : zeroTy Tryz.prog 215 [.slice none 0 0] := ⟨_, _, rfl, rfl, rfl⟩
set_option maxRecDepth 100000 in
theorem ty_zr_243 : zeroTy Tryz.prog 243 [.slice none 0 0, .int .i64 0] := ⟨_, _, rfl, rfl, rfl⟩
set_option maxRecDepth 100000 in
theorem ty_zr_37 : zeroTy Tryz.prog 37 [.pointer none, .pointer none, .pointer none, .pointer none, .pointer none, .pointer none, .pointer none, .pointer none] := ⟨_, _, rfl, rfl, rfl⟩
set_option maxRecDepth 100000 in
theorem ty_zr_39 : zeroTy Tryz.prog 39 [.slice none 0 0, .slice none 0 0, .slice none 0 0, .slice none 0 0] := ⟨_, _, rfl, rfl, rfl⟩
set_option maxRecDepth 100000 in
theorem ty_zr_50 : zeroTy Tryz.prog 50 [.int .u64 0, .slice none 0 0, .int .i64 0, .int .i64 0, .int .i64 0, .int .i64 0, .int .i64 0, .int .i64 0, .slice none 0 0] := ⟨_, _, rfl, rfl, rfl⟩
set_option maxRecDepth 100000 in
theorem ty_zr_70 : zeroTy Tryz.prog 70 [.bool false, .slice none 0 0] := ⟨_, _, rfl, rfl, rfl⟩
set_option maxRecDepth 100000 in
theorem ty_zr_82 : zeroTy Tryz.prog 82 [.int .i64 0, .int .i64 0] := ⟨_, _, rfl, rfl, rfl⟩
set_option maxRecDepth 100000 in
theorem ty_zr_88 : zeroTy Tryz.prog 88 [.pointer none, .pointer none] := ⟨_, _, rfl, rfl, rfl⟩
theorem Tryzmixed : Tryz.prog.follows .mixedOrders = true := by kernel_rfl
end Go.Hp
