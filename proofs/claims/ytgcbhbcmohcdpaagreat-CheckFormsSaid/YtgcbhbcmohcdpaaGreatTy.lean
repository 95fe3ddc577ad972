import Derived.Test.YtgcbhbcmohcdpaaGreatHpNum
import Derived.Test.YtgcbhbcmohcdpaaGreatHpMap
import Derived.Test.YtgcbhbcmohcdpaaGreatHpShort
import Derived.Test.YtgcbhbcmohcdpaaGreatHpRange
import Derived.Test.YtgcbhbcmohcdpaaGreatHpSub
import Derived.Test.YtgcbhbcmohcdpaaGreatProg
import Derived.KernelRfl
namespace Go.Hp
open Go Go.Proofs
theorem ty_ag_223 : aggTy Tryz.prog 223 6 = true := by kernel_rfl
theorem ty_ag_24 : aggTy Tryz.prog 24 5 = true := by kernel_rfl
theorem ty_ag_244 : aggTy Tryz.prog 244 64 = true := by kernel_rfl
theorem ty_ag_245 : aggTy Tryz.prog 245 64 = true := by kernel_rfl
theorem ty_ag_249 : aggTy Tryz.prog 249 65 = true := by kernel_rfl
theorem ty_ag_271 : aggTy Tryz.prog 271 16 = true := by kernel_rfl
theorem ty_ag_37 : aggTy Tryz.prog 37 5 = true := by kernel_rfl
theorem ty_ag_65 : aggTy Tryz.prog 65 4 = true := by kernel_rfl
theorem ty_ag_80 : aggTy Tryz.prog 80 2 = true := by kernel_rfl
theorem ty_ar_144 : arrTy Tryz.prog 144 16 142 1 = true := by kernel_rfl
theorem ty_ar_244 : arrTy Tryz.prog 244 64 5 1 = true := by kernel_rfl
theorem ty_ar_245 : arrTy Tryz.prog 245 64 5 1 = true := by kernel_rfl
theorem ty_ar_271 : arrTy Tryz.prog 271 16 260 1 = true := by kernel_rfl
set_option maxRecDepth 100000 in
theorem ty_el2_113 : ∃ i, Tryz.prog.info? 249 = some i ∧ i.zero = some (.agg #[.int .i64 0, .int .u8 0, .int .u8 0, .int .u8 0, .int .u8 0, .int .u8 0, .int .u8 0, .int .u8 0, .int .u8 0, .int .u8 0, .int .u8 0, .int .u8 0, .int .u8 0, .int .u8 0, .int .u8 0, .int .u8 0, .int .u8 0, .int .u8 0, .int .u8 0, .int .u8 0, .int .u8 0, .int .u8 0, .int .u8 0, .int .u8 0, .int .u8 0, .int .u8 0, .int .u8 0, .int .u8 0, .int .u8 0, .int .u8 0, .int .u8 0, .int .u8 0, .int .u8 0, .int .u8 0, .int .u8 0, .int .u8 0, .int .u8 0, .int .u8 0, .int .u8 0, .int .u8 0, .int .u8 0, .int .u8 0, .int .u8 0, .int .u8 0, .int .u8 0, .int .u8 0, .int .u8 0, .int .u8 0, .int .u8 0, .int .u8 0, .int .u8 0, .int .u8 0, .int .u8 0, .int .u8 0, .int .u8 0, .int .u8 0, .int .u8 0, .int .u8 0, .int .u8 0, .int .u8 0, .int .u8 0, .int .u8 0, .int .u8 0, .int .u8 0, .int .u8 0]) := ⟨_, rfl, rfl⟩
set_option maxRecDepth 100000 in
theorem ty_el2_116 : ∃ i, Tryz.prog.info? 25 = some i ∧ i.zero = some (.slice none 0 0) := ⟨_, rfl, rfl⟩
set_option maxRecDepth 100000 in
theorem ty_el2_145 : ∃ i, Tryz.prog.info? 135 = some i ∧ i.zero = some (.pointer none) := ⟨_, rfl, rfl⟩
set_option maxRecDepth 100000 in
theorem ty_el2_217 : ∃ i, Tryz.prog.info? 223 = some i ∧ i.zero = some (.agg #[.int .i64 0, .int .i64 0, .int .i64 0, .int .i64 0, .int .i64 0, .slice none 0 0]) := ⟨_, rfl, rfl⟩
set_option maxRecDepth 100000 in
theorem ty_el2_22 : ∃ i, Tryz.prog.info? 65 = some i ∧ i.zero = some (.agg #[.int .i64 0, .int .i64 0, .int .i64 0, .int .i64 0]) := ⟨_, rfl, rfl⟩
set_option maxRecDepth 100000 in
theorem ty_el2_25 : ∃ i, Tryz.prog.info? 5 = some i ∧ i.zero = some (.int .u8 0) := ⟨_, rfl, rfl⟩
set_option maxRecDepth 100000 in
theorem ty_el2_60 : ∃ i, Tryz.prog.info? 3 = some i ∧ i.zero = some (.int .i64 0) := ⟨_, rfl, rfl⟩
set_option maxRecDepth 100000 in
theorem ty_el_113 : ∃ i, Tryz.prog.info? 249 = some i ∧ i.zero = some (.agg #[.int .i64 0, .int .u8 0, .int .u8 0, .int .u8 0, .int .u8 0, .int .u8 0, .int .u8 0, .int .u8 0, .int .u8 0, .int .u8 0, .int .u8 0, .int .u8 0, .int .u8 0, .int .u8 0, .int .u8 0, .int .u8 0, .int .u8 0, .int .u8 0, .int .u8 0, .int .u8 0, .int .u8 0, .int .u8 0, .int .u8 0, .int .u8 0, .int .u8 0, .int .u8 0, .int .u8 0, .int .u8 0, .int .u8 0, .int .u8 0, .int .u8 0, .int .u8 0, .int .u8 0, .int .u8 0, .int .u8 0, .int .u8 0, .int .u8 0, .int .u8 0, .int .u8 0, .int .u8 0, .int .u8 0, .int .u8 0, .int .u8 0, .int .u8 0, .int .u8 0, .int .u8 0, .int .u8 0, .int .u8 0, .int .u8 0, .int .u8 0, .int .u8 0, .int .u8 0, .int .u8 0, .int .u8 0, .int .u8 0, .int .u8 0, .int .u8 0, .int .u8 0, .int .u8 0, .int .u8 0, .int .u8 0, .int .u8 0, .int .u8 0, .int .u8 0, .int .u8 0]) ∧ i.bytes = 72 := ⟨_, rfl, rfl, rfl⟩
set_option maxRecDepth 100000 in
theorem ty_el_116 : ∃ i, Tryz.prog.info? 25 = some i ∧ i.zero = some (.slice none 0 0) ∧ i.bytes = 24 := ⟨_, rfl, rfl, rfl⟩
set_option maxRecDepth 100000 in
theorem ty_el_217 : ∃ i, Tryz.prog.info? 223 = some i ∧ i.zero = some (.agg #[.int .i64 0, .int .i64 0, .int .i64 0, .int .i64 0, .int .i64 0, .slice none 0 0]) ∧ i.bytes = 64 := ⟨_, rfl, rfl, rfl⟩
set_option maxRecDepth 100000 in
theorem ty_el_22 : ∃ i, Tryz.prog.info? 65 = some i ∧ i.zero = some (.agg #[.int .i64 0, .int .i64 0, .int .i64 0, .int .i64 0]) ∧ i.bytes = 32 := ⟨_, rfl, rfl, rfl⟩
set_option maxRecDepth 100000 in
theorem ty_el_25 : ∃ i, Tryz.prog.info? 5 = some i ∧ i.zero = some (.int .u8 0) ∧ i.bytes = 1 := ⟨_, rfl, rfl, rfl⟩
set_option maxRecDepth 100000 in
theorem ty_el_60 : ∃ i, Tryz.prog.info? 3 = some i ∧ i.zero = some (.int .i64 0) ∧ i.bytes = 8 := ⟨_, rfl, rfl, rfl⟩
set_option maxRecDepth 100000 in
theorem ty_ez_216 : ∃ i, Tryz.prog.info? 216 = some i ∧ i.zero = some (.pointer none) := ⟨_, rfl, rfl⟩
theorem ty_fd_115_0 : fieldTy Tryz.prog 115 0 0 = true := by kernel_rfl
theorem ty_fd_115_1 : fieldTy Tryz.prog 115 1 1 = true := by kernel_rfl
theorem ty_fd_115_2 : fieldTy Tryz.prog 115 2 2 = true := by kernel_rfl
theorem ty_fd_115_3 : fieldTy Tryz.prog 115 3 3 = true := by kernel_rfl
theorem ty_fd_115_4 : fieldTy Tryz.prog 115 4 4 = true := by kernel_rfl
theorem ty_fd_115_5 : fieldTy Tryz.prog 115 5 5 = true := by kernel_rfl
theorem ty_fd_115_6 : fieldTy Tryz.prog 115 6 6 = true := by kernel_rfl
theorem ty_fd_119_0 : fieldTy Tryz.prog 119 0 0 = true := by kernel_rfl
theorem ty_fd_122_0 : fieldTy Tryz.prog 122 0 0 = true := by kernel_rfl
theorem ty_fd_122_1 : fieldTy Tryz.prog 122 1 1 = true := by kernel_rfl
theorem ty_fd_122_2 : fieldTy Tryz.prog 122 2 2 = true := by kernel_rfl
theorem ty_fd_122_3 : fieldTy Tryz.prog 122 3 3 = true := by kernel_rfl
theorem ty_fd_125_0 : fieldTy Tryz.prog 125 0 0 = true := by kernel_rfl
theorem ty_fd_125_1 : fieldTy Tryz.prog 125 1 1 = true := by kernel_rfl
theorem ty_fd_128_0 : fieldTy Tryz.prog 128 0 0 = true := by kernel_rfl
theorem ty_fd_128_1 : fieldTy Tryz.prog 128 1 1 = true := by kernel_rfl
theorem ty_fd_128_2 : fieldTy Tryz.prog 128 2 2 = true := by kernel_rfl
theorem ty_fd_128_3 : fieldTy Tryz.prog 128 3 3 = true := by kernel_rfl
theorem ty_fd_128_4 : fieldTy Tryz.prog 128 4 4 = true := by kernel_rfl
theorem ty_fd_128_5 : fieldTy Tryz.prog 128 5 5 = true := by kernel_rfl
theorem ty_fd_128_6 : fieldTy Tryz.prog 128 6 7 = true := by kernel_rfl
theorem ty_fd_128_7 : fieldTy Tryz.prog 128 7 9 = true := by kernel_rfl
theorem ty_fd_128_8 : fieldTy Tryz.prog 128 8 10 = true := by kernel_rfl
theorem ty_fd_142_2 : fieldTy Tryz.prog 142 2 0 = true := by kernel_rfl
theorem ty_fd_147_2 : fieldTy Tryz.prog 147 2 2 = true := by kernel_rfl
theorem ty_fd_147_3 : fieldTy Tryz.prog 147 3 3 = true := by kernel_rfl
theorem ty_fd_161_2 : fieldTy Tryz.prog 161 2 0 = true := by kernel_rfl
theorem ty_fd_163_0 : fieldTy Tryz.prog 163 0 0 = true := by kernel_rfl
theorem ty_fd_219_0 : fieldTy Tryz.prog 219 0 0 = true := by kernel_rfl
theorem ty_fd_219_2 : fieldTy Tryz.prog 219 2 2 = true := by kernel_rfl
theorem ty_fd_219_4 : fieldTy Tryz.prog 219 4 4 = true := by kernel_rfl
theorem ty_fd_223_0 : fieldTy Tryz.prog 223 0 0 = true := by kernel_rfl
theorem ty_fd_223_1 : fieldTy Tryz.prog 223 1 1 = true := by kernel_rfl
theorem ty_fd_223_2 : fieldTy Tryz.prog 223 2 2 = true := by kernel_rfl
theorem ty_fd_223_3 : fieldTy Tryz.prog 223 3 3 = true := by kernel_rfl
theorem ty_fd_223_4 : fieldTy Tryz.prog 223 4 4 = true := by kernel_rfl
theorem ty_fd_223_5 : fieldTy Tryz.prog 223 5 5 = true := by kernel_rfl
theorem ty_fd_225_0 : fieldTy Tryz.prog 225 0 0 = true := by kernel_rfl
theorem ty_fd_225_1 : fieldTy Tryz.prog 225 1 1 = true := by kernel_rfl
theorem ty_fd_225_2 : fieldTy Tryz.prog 225 2 2 = true := by kernel_rfl
theorem ty_fd_225_3 : fieldTy Tryz.prog 225 3 4 = true := by kernel_rfl
theorem ty_fd_225_4 : fieldTy Tryz.prog 225 4 5 = true := by kernel_rfl
theorem ty_fd_249_1 : fieldTy Tryz.prog 249 1 1 = true := by kernel_rfl
theorem ty_fd_24_0 : fieldTy Tryz.prog 24 0 0 = true := by kernel_rfl
theorem ty_fd_24_1 : fieldTy Tryz.prog 24 1 1 = true := by kernel_rfl
theorem ty_fd_24_2 : fieldTy Tryz.prog 24 2 2 = true := by kernel_rfl
theorem ty_fd_24_3 : fieldTy Tryz.prog 24 3 3 = true := by kernel_rfl
theorem ty_fd_24_4 : fieldTy Tryz.prog 24 4 4 = true := by kernel_rfl
theorem ty_fd_37_0 : fieldTy Tryz.prog 37 0 0 = true := by kernel_rfl
theorem ty_fd_37_1 : fieldTy Tryz.prog 37 1 1 = true := by kernel_rfl
theorem ty_fd_37_2 : fieldTy Tryz.prog 37 2 2 = true := by kernel_rfl
theorem ty_fd_37_3 : fieldTy Tryz.prog 37 3 3 = true := by kernel_rfl
theorem ty_fd_37_4 : fieldTy Tryz.prog 37 4 4 = true := by kernel_rfl
theorem ty_fd_49_0 : fieldTy Tryz.prog 49 0 0 = true := by kernel_rfl
theorem ty_fd_49_1 : fieldTy Tryz.prog 49 1 1 = true := by kernel_rfl
theorem ty_fd_49_2 : fieldTy Tryz.prog 49 2 2 = true := by kernel_rfl
theorem ty_fd_49_3 : fieldTy Tryz.prog 49 3 3 = true := by kernel_rfl
theorem ty_fd_54_0 : fieldTy Tryz.prog 54 0 0 = true := by kernel_rfl
theorem ty_fd_54_1 : fieldTy Tryz.prog 54 1 1 = true := by kernel_rfl
theorem ty_fd_54_3 : fieldTy Tryz.prog 54 3 3 = true := by kernel_rfl
theorem ty_fd_65_0 : fieldTy Tryz.prog 65 0 0 = true := by kernel_rfl
theorem ty_fd_65_1 : fieldTy Tryz.prog 65 1 1 = true := by kernel_rfl
theorem ty_fd_65_2 : fieldTy Tryz.prog 65 2 2 = true := by kernel_rfl
theorem ty_fd_65_3 : fieldTy Tryz.prog 65 3 3 = true := by kernel_rfl
theorem ty_fd_76_0 : fieldTy Tryz.prog 76 0 0 = true := by kernel_rfl
theorem ty_fd_76_1 : fieldTy Tryz.prog 76 1 1 = true := by kernel_rfl
theorem ty_fd_76_2 : fieldTy Tryz.prog 76 2 2 = true := by kernel_rfl
theorem ty_fd_80_0 : fieldTy Tryz.prog 80 0 0 = true := by kernel_rfl
theorem ty_fd_80_1 : fieldTy Tryz.prog 80 1 1 = true := by kernel_rfl
theorem ty_fd_82_0 : fieldTy Tryz.prog 82 0 0 = true := by kernel_rfl
theorem ty_fd_82_1 : fieldTy Tryz.prog 82 1 1 = true := by kernel_rfl
theorem ty_fd_82_10 : fieldTy Tryz.prog 82 10 19 = true := by kernel_rfl
theorem ty_fd_82_11 : fieldTy Tryz.prog 82 11 21 = true := by kernel_rfl
theorem ty_fd_82_12 : fieldTy Tryz.prog 82 12 26 = true := by kernel_rfl
theorem ty_fd_82_2 : fieldTy Tryz.prog 82 2 2 = true := by kernel_rfl
theorem ty_fd_82_3 : fieldTy Tryz.prog 82 3 3 = true := by kernel_rfl
theorem ty_fd_82_5 : fieldTy Tryz.prog 82 5 5 = true := by kernel_rfl
theorem ty_fd_82_6 : fieldTy Tryz.prog 82 6 10 = true := by kernel_rfl
theorem ty_fd_82_7 : fieldTy Tryz.prog 82 7 11 = true := by kernel_rfl
theorem ty_fd_82_8 : fieldTy Tryz.prog 82 8 13 = true := by kernel_rfl
theorem ty_fd_82_9 : fieldTy Tryz.prog 82 9 14 = true := by kernel_rfl
theorem ty_fd_85_0 : fieldTy Tryz.prog 85 0 0 = true := by kernel_rfl
theorem ty_fd_91_0 : fieldTy Tryz.prog 91 0 0 = true := by kernel_rfl
theorem ty_fd_91_1 : fieldTy Tryz.prog 91 1 1 = true := by kernel_rfl
theorem ty_fl_80_1 : fldTy Tryz.prog 80 1 3 1 = true := by kernel_rfl
theorem ty_ik_260 : Tryz.prog.underlying 260 = some (.int .u32) := by kernel_rfl
theorem ty_ik_3 : Tryz.prog.underlying 3 = some (.int .i64) := by kernel_rfl
theorem ty_ik_5 : Tryz.prog.underlying 5 = some (.int .u8) := by kernel_rfl
theorem ty_ik_62 : Tryz.prog.underlying 62 = some (.int .u64) := by kernel_rfl
theorem ty_li_150 : Go.liesAt Tryz.prog Tryz.prog.depth 150 (9 / Tryz.prog.cellsOf 150) 0 150 1 = true := by kernel_rfl
theorem ty_mp_126 : mapTy Tryz.prog 126 3 216 = true := by kernel_rfl
theorem ty_pe_136 : Tryz.prog.underlying 136 = some (.pointer 150) := by kernel_rfl
theorem ty_pt_132 : Tryz.prog.underlying 132 = some (.pointer (Tryz.prog.pointee 132)) := by kernel_rfl
theorem ty_pt_136 : Tryz.prog.underlying 136 = some (.pointer (Tryz.prog.pointee 136)) := by kernel_rfl
theorem ty_pt_175 : Tryz.prog.underlying 175 = some (.pointer (Tryz.prog.pointee 175)) := by kernel_rfl
theorem ty_pt_34 : Tryz.prog.underlying 34 = some (.pointer (Tryz.prog.pointee 34)) := by kernel_rfl
theorem ty_pt_38 : Tryz.prog.underlying 38 = some (.pointer (Tryz.prog.pointee 38)) := by kernel_rfl
theorem ty_pt_40 : Tryz.prog.underlying 40 = some (.pointer (Tryz.prog.pointee 40)) := by kernel_rfl
theorem ty_pt_41 : Tryz.prog.underlying 41 = some (.pointer (Tryz.prog.pointee 41)) := by kernel_rfl
theorem ty_pt_42 : Tryz.prog.underlying 42 = some (.pointer (Tryz.prog.pointee 42)) := by kernel_rfl
theorem ty_pt_43 : Tryz.prog.underlying 43 = some (.pointer (Tryz.prog.pointee 43)) := by kernel_rfl
theorem ty_pt_50 : Tryz.prog.underlying 50 = some (.pointer (Tryz.prog.pointee 50)) := by kernel_rfl
theorem ty_pt_51 : Tryz.prog.underlying 51 = some (.pointer (Tryz.prog.pointee 51)) := by kernel_rfl
theorem ty_sc_113 : scalarTy Tryz.prog 113 = true := by kernel_rfl
theorem ty_sc_116 : scalarTy Tryz.prog 116 = true := by kernel_rfl
theorem ty_sc_126 : scalarTy Tryz.prog 126 = true := by kernel_rfl
theorem ty_sc_135 : scalarTy Tryz.prog 135 = true := by kernel_rfl
theorem ty_sc_145 : scalarTy Tryz.prog 145 = true := by kernel_rfl
theorem ty_sc_210 : scalarTy Tryz.prog 210 = true := by kernel_rfl
theorem ty_sc_217 : scalarTy Tryz.prog 217 = true := by kernel_rfl
theorem ty_sc_22 : scalarTy Tryz.prog 22 = true := by kernel_rfl
theorem ty_sc_25 : scalarTy Tryz.prog 25 = true := by kernel_rfl
theorem ty_sc_26 : scalarTy Tryz.prog 26 = true := by kernel_rfl
theorem ty_sc_260 : scalarTy Tryz.prog 260 = true := by kernel_rfl
theorem ty_sc_27 : scalarTy Tryz.prog 27 = true := by kernel_rfl
theorem ty_sc_3 : scalarTy Tryz.prog 3 = true := by kernel_rfl
theorem ty_sc_38 : scalarTy Tryz.prog 38 = true := by kernel_rfl
theorem ty_sc_4 : scalarTy Tryz.prog 4 = true := by kernel_rfl
theorem ty_sc_40 : scalarTy Tryz.prog 40 = true := by kernel_rfl
theorem ty_sc_41 : scalarTy Tryz.prog 41 = true := by kernel_rfl
theorem ty_sc_42 : scalarTy Tryz.prog 42 = true := by kernel_rfl
theorem ty_sc_43 : scalarTy Tryz.prog 43 = true := by kernel_rfl
theorem ty_sc_44 : scalarTy Tryz.prog 44 = true := by kernel_rfl
theorem ty_sc_5 : scalarTy Tryz.prog 5 = true := by kernel_rfl
theorem ty_sc_50 : scalarTy Tryz.prog 50 = true := by kernel_rfl
theorem ty_sc_51 : scalarTy Tryz.prog 51 = true := by kernel_rfl
theorem ty_sc_58 : scalarTy Tryz.prog 58 = true := by kernel_rfl
theorem ty_sc_60 : scalarTy Tryz.prog 60 = true := by kernel_rfl
theorem ty_sc_62 : scalarTy Tryz.prog 62 = true := by kernel_rfl
theorem ty_sc_68 : scalarTy Tryz.prog 68 = true := by kernel_rfl
theorem ty_sl_113 : sliceTy Tryz.prog 113 249 65 = true := by kernel_rfl
theorem ty_sl_116 : sliceTy Tryz.prog 116 25 1 = true := by kernel_rfl
theorem ty_sl_145 : sliceTy Tryz.prog 145 135 1 = true := by kernel_rfl
theorem ty_sl_217 : sliceTy Tryz.prog 217 223 6 = true := by kernel_rfl
theorem ty_sl_22 : sliceTy Tryz.prog 22 65 4 = true := by kernel_rfl
theorem ty_sl_25 : sliceTy Tryz.prog 25 5 1 = true := by kernel_rfl
theorem ty_sl_60 : sliceTy Tryz.prog 60 3 1 = true := by kernel_rfl
theorem ty_sz_113 : sizeTy Tryz.prog 113 1 = true := by kernel_rfl
theorem ty_sz_116 : sizeTy Tryz.prog 116 1 = true := by kernel_rfl
theorem ty_sz_210 : sizeTy Tryz.prog 210 1 = true := by kernel_rfl
theorem ty_sz_217 : sizeTy Tryz.prog 217 1 = true := by kernel_rfl
theorem ty_sz_22 : sizeTy Tryz.prog 22 1 = true := by kernel_rfl
theorem ty_sz_223 : sizeTy Tryz.prog 223 6 = true := by kernel_rfl
theorem ty_sz_24 : sizeTy Tryz.prog 24 5 = true := by kernel_rfl
theorem ty_sz_245 : sizeTy Tryz.prog 245 64 = true := by kernel_rfl
theorem ty_sz_249 : sizeTy Tryz.prog 249 65 = true := by kernel_rfl
theorem ty_sz_25 : sizeTy Tryz.prog 25 1 = true := by kernel_rfl
theorem ty_sz_26 : sizeTy Tryz.prog 26 1 = true := by kernel_rfl
theorem ty_sz_260 : sizeTy Tryz.prog 260 1 = true := by kernel_rfl
theorem ty_sz_27 : sizeTy Tryz.prog 27 1 = true := by kernel_rfl
theorem ty_sz_271 : sizeTy Tryz.prog 271 16 = true := by kernel_rfl
theorem ty_sz_3 : sizeTy Tryz.prog 3 1 = true := by kernel_rfl
theorem ty_sz_37 : sizeTy Tryz.prog 37 5 = true := by kernel_rfl
theorem ty_sz_4 : sizeTy Tryz.prog 4 1 = true := by kernel_rfl
theorem ty_sz_5 : sizeTy Tryz.prog 5 1 = true := by kernel_rfl
theorem ty_sz_58 : sizeTy Tryz.prog 58 1 = true := by kernel_rfl
theorem ty_sz_60 : sizeTy Tryz.prog 60 1 = true := by kernel_rfl
theorem ty_sz_62 : sizeTy Tryz.prog 62 1 = true := by kernel_rfl
theorem ty_sz_65 : sizeTy Tryz.prog 65 4 = true := by kernel_rfl
theorem ty_sz_68 : sizeTy Tryz.prog 68 1 = true := by kernel_rfl
theorem ty_sz_80 : sizeTy Tryz.prog 80 2 = true := by kernel_rfl
theorem ty_un_260 : (Tryz.prog.underlying 260).isSome = true := by kernel_rfl
theorem ty_un_3 : (Tryz.prog.underlying 3).isSome = true := by kernel_rfl
theorem ty_un_5 : (Tryz.prog.underlying 5).isSome = true := by kernel_rfl
theorem ty_un_62 : (Tryz.prog.underlying 62).isSome = true := by kernel_rfl
theorem ty_up_140 : Tryz.prog.underlying 140 = some .unsafePointer := by kernel_rfl
theorem ty_zd_109 : sizedTy Tryz.prog 109 = true := by kernel_rfl
theorem ty_zd_115 : sizedTy Tryz.prog 115 = true := by kernel_rfl
theorem ty_zd_119 : sizedTy Tryz.prog 119 = true := by kernel_rfl
theorem ty_zd_122 : sizedTy Tryz.prog 122 = true := by kernel_rfl
theorem ty_zd_125 : sizedTy Tryz.prog 125 = true := by kernel_rfl
theorem ty_zd_128 : sizedTy Tryz.prog 128 = true := by kernel_rfl
theorem ty_zd_131 : sizedTy Tryz.prog 131 = true := by kernel_rfl
theorem ty_zd_144 : sizedTy Tryz.prog 144 = true := by kernel_rfl
theorem ty_zd_147 : sizedTy Tryz.prog 147 = true := by kernel_rfl
theorem ty_zd_156 : sizedTy Tryz.prog 156 = true := by kernel_rfl
theorem ty_zd_163 : sizedTy Tryz.prog 163 = true := by kernel_rfl
theorem ty_zd_171 : sizedTy Tryz.prog 171 = true := by kernel_rfl
theorem ty_zd_219 : sizedTy Tryz.prog 219 = true := by kernel_rfl
theorem ty_zd_223 : sizedTy Tryz.prog 223 = true := by kernel_rfl
theorem ty_zd_225 : sizedTy Tryz.prog 225 = true := by kernel_rfl
theorem ty_zd_24 : sizedTy Tryz.prog 24 = true := by kernel_rfl
theorem ty_zd_249 : sizedTy Tryz.prog 249 = true := by kernel_rfl
theorem ty_zd_37 : sizedTy Tryz.prog 37 = true := by kernel_rfl
theorem ty_zd_49 : sizedTy Tryz.prog 49 = true := by kernel_rfl
theorem ty_zd_54 : sizedTy Tryz.prog 54 = true := by kernel_rfl
theorem ty_zd_65 : sizedTy Tryz.prog 65 = true := by kernel_rfl
theorem ty_zd_76 : sizedTy Tryz.prog 76 = true := by kernel_rfl
theorem ty_zd_80 : sizedTy Tryz.prog 80 = true := by kernel_rfl
theorem ty_zd_82 : sizedTy Tryz.prog 82 = true := by kernel_rfl
theorem ty_zd_85 : sizedTy Tryz.prog 85 = true := by kernel_rfl
theorem ty_zd_91 : sizedTy Tryz.prog 91 = true := by kernel_rfl
set_option maxRecDepth 100000 in
theorem ty_zr_109 : zeroTy Tryz.prog 109 [.pointer none, .pointer none] := ⟨_, _, rfl, rfl, rfl⟩
set_option maxRecDepth 100000 in
theorem ty_zr_115 : zeroTy Tryz.prog 115 [.slice none 0 0, .slice none 0 0, .slice none 0 0, .int .i64 0, .bool false, .int .i64 0, .int .i64 0] := ⟨_, _, rfl, rfl, rfl⟩
set_option maxRecDepth 100000 in
theorem ty_zr_119 : zeroTy Tryz.prog 119 [.slice none 0 0, .slice none 0 0, .int .i64 0, .bool false, .int .i64 0, .int .i64 0] := ⟨_, _, rfl, rfl, rfl⟩
set_option maxRecDepth 100000 in
theorem ty_zr_122 : zeroTy Tryz.prog 122 [.pointer none, .int .i64 0, .int .i64 0, .int .i64 0] := ⟨_, _, rfl, rfl, rfl⟩
set_option maxRecDepth 100000 in
theorem ty_zr_125 : zeroTy Tryz.prog 125 [.pointer none, .int .i64 0, .int .i64 0] := ⟨_, _, rfl, rfl, rfl⟩
set_option maxRecDepth 100000 in
theorem ty_zr_128 : zeroTy Tryz.prog 128 [.pointer none, .pointer none, .int .i64 0, .map none, .map none, .int .i64 0, .int .i64 0, .int .i64 0, .int .i64 0, .int .i64 0, .int .i64 0] := ⟨_, _, rfl, rfl, rfl⟩
set_option maxRecDepth 100000 in
theorem ty_zr_131 : zeroTy Tryz.prog 131 [.pointer none, .int .i64 0, .int .i64 0, .slice none 0 0, .int .i64 0, .int .i64 0, .int .i64 0, .int .i64 0, .int .i64 0, .int .i64 0] := ⟨_, _, rfl, rfl, rfl⟩
set_option maxRecDepth 100000 in
theorem ty_zr_144 : zeroTy Tryz.prog 144 [.pointer none, .pointer none, .pointer none, .pointer none, .pointer none, .pointer none, .pointer none, .pointer none, .pointer none, .pointer none, .pointer none, .pointer none, .pointer none, .pointer none, .pointer none, .pointer none] := ⟨_, _, rfl, rfl, rfl⟩
set_option maxRecDepth 100000 in
theorem ty_zr_147 : zeroTy Tryz.prog 147 [.pointer none, .int .u64 0, .slice none 0 0, .int .i64 0] := ⟨_, _, rfl, rfl, rfl⟩
set_option maxRecDepth 100000 in
theorem ty_zr_163 : zeroTy Tryz.prog 163 [.int .i64 0, .pointer none] := ⟨_, _, rfl, rfl, rfl⟩
set_option maxRecDepth 100000 in
theorem ty_zr_171 : zeroTy Tryz.prog 171 [.int .i64 0, .int .i64 0, .int .i64 0, .int .i64 0, .int .i64 0] := ⟨_, _, rfl, rfl, rfl⟩
set_option maxRecDepth 100000 in
theorem ty_zr_210 : zeroTy Tryz.prog 210 [.pointer none] := ⟨_, _, rfl, rfl, rfl⟩
set_option maxRecDepth 100000 in
theorem ty_zr_219 : zeroTy Tryz.prog 219 [.int .i64 0, .int .i64 0, .int .i64 0, .slice none 0 0, .slice none 0 0] := ⟨_, _, rfl, rfl, rfl⟩
set_option maxRecDepth 100000 in
theorem ty_zr_223 : zeroTy Tryz.prog 223 [.int .i64 0, .int .i64 0, .int .i64 0, .int .i64 0, .int .i64 0, .slice none 0 0] := ⟨_, _, rfl, rfl, rfl⟩
set_option maxRecDepth 100000 in
theorem ty_zr_225 : zeroTy Tryz.prog 225 [.pointer none, .nilFunc, .int .i64 0, .int .i64 0, .int .i64 0, .int .i64 0] := ⟨_, _, rfl, rfl, rfl⟩
set_option maxRecDepth 100000 in
theorem ty_zr_24 : zeroTy Tryz.prog 24 [.int .i64 0, .int .i64 0, .int .i64 0, .int .i64 0, .slice none 0 0] := ⟨_, _, rfl, rfl, rfl⟩
set_option maxRecDepth 100000 in
theorem ty_zr_249 : zeroTy Tryz.prog 249 [.int .i64 0, .int .u8 0, .int .u8 0, .int .u8 0, .int .u8 0, .int .u8 0, .int .u8 0, .int .u8 0, .int .u8 0, .int .u8 0, .int .u8 0, .int .u8 0, .int .u8 0, .int .u8 0, .int .u8 0, .int .u8 0, .int .u8 0, .int .u8 0, .int .u8 0, .int .u8 0, .int .u8 0, .int .u8 0, .int .u8 0, .int .u8 0, .int .u8 0, .int .u8 0, .int .u8 0, .int .u8 0, .int .u8 0, .int .u8 0, .int .u8 0, .int .u8 0, .int .u8 0, .int .u8 0, .int .u8 0, .int .u8 0, .int .u8 0, .int .u8 0, .int .u8 0, .int .u8 0, .int .u8 0, .int .u8 0, .int .u8 0, .int .u8 0, .int .u8 0, .int .u8 0, .int .u8 0, .int .u8 0, .int .u8 0, .int .u8 0, .int .u8 0, .int .u8 0, .int .u8 0, .int .u8 0, .int .u8 0, .int .u8 0, .int .u8 0, .int .u8 0, .int .u8 0, .int .u8 0, .int .u8 0, .int .u8 0, .int .u8 0, .int .u8 0, .int .u8 0] := ⟨_, _, rfl, rfl, rfl⟩
set_option maxRecDepth 100000 in
theorem ty_zr_271 : zeroTy Tryz.prog 271 [.int .u32 0, .int .u32 0, .int .u32 0, .int .u32 0, .int .u32 0, .int .u32 0, .int .u32 0, .int .u32 0, .int .u32 0, .int .u32 0, .int .u32 0, .int .u32 0, .int .u32 0, .int .u32 0, .int .u32 0, .int .u32 0] := ⟨_, _, rfl, rfl, rfl⟩
set_option maxRecDepth 100000 in
theorem ty_zr_37 : zeroTy Tryz.prog 37 [.int .i64 0, .int .i64 0, .int .i64 0, .int .i64 0, .int .i64 0] := ⟨_, _, rfl, rfl, rfl⟩
set_option maxRecDepth 100000 in
theorem ty_zr_49 : zeroTy Tryz.prog 49 [.pointer none, .pointer none, .pointer none, .pointer none, .pointer none, .pointer none, .pointer none, .pointer none] := ⟨_, _, rfl, rfl, rfl⟩
set_option maxRecDepth 100000 in
theorem ty_zr_54 : zeroTy Tryz.prog 54 [.pointer none, .pointer none, .slice none 0 0, .int .i64 0, .int .i64 0, .int .i64 0, .int .i64 0, .int .i64 0, .int .i64 0] := ⟨_, _, rfl, rfl, rfl⟩
set_option maxRecDepth 100000 in
theorem ty_zr_58 : zeroTy Tryz.prog 58 [.pointer none] := ⟨_, _, rfl, rfl, rfl⟩
set_option maxRecDepth 100000 in
theorem ty_zr_65 : zeroTy Tryz.prog 65 [.int .i64 0, .int .i64 0, .int .i64 0, .int .i64 0] := ⟨_, _, rfl, rfl, rfl⟩
set_option maxRecDepth 100000 in
theorem ty_zr_68 : zeroTy Tryz.prog 68 [.pointer none] := ⟨_, _, rfl, rfl, rfl⟩
set_option maxRecDepth 100000 in
theorem ty_zr_76 : zeroTy Tryz.prog 76 [.slice none 0 0, .int .i64 0, .int .i64 0] := ⟨_, _, rfl, rfl, rfl⟩
set_option maxRecDepth 100000 in
theorem ty_zr_80 : zeroTy Tryz.prog 80 [.int .i64 0, .int .i64 0] := ⟨_, _, rfl, rfl, rfl⟩
set_option maxRecDepth 100000 in
theorem ty_zr_82 : zeroTy Tryz.prog 82 [.pointer none, .pointer none, .pointer none, .pointer none, .pointer none, .int .i64 0, .int .i64 0, .int .i64 0, .int .i64 0, .int .i64 0, .nilFunc, .int .i64 0, .int .i64 0, .slice none 0 0, .int .i64 0, .int .i64 0, .int .i64 0, .int .i64 0, .slice none 0 0, .int .i64 0, .int .i64 0, .int .i64 0, .int .i64 0, .int .i64 0, .int .i64 0, .int .i64 0, .int .i64 0] := ⟨_, _, rfl, rfl, rfl⟩
set_option maxRecDepth 100000 in
theorem ty_zr_85 : zeroTy Tryz.prog 85 [.slice none 0 0] := ⟨_, _, rfl, rfl, rfl⟩
set_option maxRecDepth 100000 in
theorem ty_zr_91 : zeroTy Tryz.prog 91 [.slice none 0 0, .int .i64 0] := ⟨_, _, rfl, rfl, rfl⟩
theorem Tryzmixed : Tryz.prog.follows .mixedOrders = true := by kernel_rfl
end Go.Hp
