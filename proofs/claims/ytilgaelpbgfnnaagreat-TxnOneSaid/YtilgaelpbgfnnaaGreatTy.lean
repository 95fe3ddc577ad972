import Derived.Test.YtilgaelpbgfnnaaGreatHpNum
import Derived.Test.YtilgaelpbgfnnaaGreatHpMap
import Derived.Test.YtilgaelpbgfnnaaGreatHpShort
import Derived.Test.YtilgaelpbgfnnaaGreatHpRange
import Derived.Test.YtilgaelpbgfnnaaGreatHpSub
import Derived.Test.YtilgaelpbgfnnaaGreatProg
import Derived.KernelRfl
namespace Go.Hp
open Go Go.Proofs
theorem ty_ag_247 : aggTy Tryz.prog 247 6 = true := by kernel_rfl
theorem ty_ag_43 : aggTy Tryz.prog 43 9 = true := by kernel_rfl
theorem ty_ag_51 : aggTy Tryz.prog 51 3 = true := by kernel_rfl
theorem ty_ag_56 : aggTy Tryz.prog 56 2 = true := by kernel_rfl
theorem ty_ag_63 : aggTy Tryz.prog 63 2 = true := by kernel_rfl
theorem ty_ar_192 : arrTy Tryz.prog 192 16 190 1 = true := by kernel_rfl
set_option maxRecDepth 100000 in
theorem ty_el2_122 : ∃ i, Tryz.prog.info? 184 = some i ∧ i.zero = some (.pointer none) := ⟨_, rfl, rfl⟩
set_option maxRecDepth 100000 in
theorem ty_el2_163 : ∃ i, Tryz.prog.info? 49 = some i ∧ i.zero = some (.slice none 0 0) := ⟨_, rfl, rfl⟩
set_option maxRecDepth 100000 in
theorem ty_el2_212 : ∃ i, Tryz.prog.info? 247 = some i ∧ i.zero = some (.agg #[.int .i64 0, .int .i64 0, .int .i64 0, .int .i64 0, .int .i64 0, .slice none 0 0]) := ⟨_, rfl, rfl⟩
set_option maxRecDepth 100000 in
theorem ty_el2_22 : ∃ i, Tryz.prog.info? 3 = some i ∧ i.zero = some (.int .i64 0) := ⟨_, rfl, rfl⟩
set_option maxRecDepth 100000 in
theorem ty_el2_26 : ∃ i, Tryz.prog.info? 46 = some i ∧ i.zero = some (.pointer none) := ⟨_, rfl, rfl⟩
set_option maxRecDepth 100000 in
theorem ty_el2_279 : ∃ i, Tryz.prog.info? 196 = some i ∧ i.zero = some (.nilFunc) := ⟨_, rfl, rfl⟩
set_option maxRecDepth 100000 in
theorem ty_el2_41 : ∃ i, Tryz.prog.info? 63 = some i ∧ i.zero = some (.agg #[.bool false, .slice none 0 0]) := ⟨_, rfl, rfl⟩
set_option maxRecDepth 100000 in
theorem ty_el2_49 : ∃ i, Tryz.prog.info? 5 = some i ∧ i.zero = some (.int .u8 0) := ⟨_, rfl, rfl⟩
set_option maxRecDepth 100000 in
theorem ty_el2_52 : ∃ i, Tryz.prog.info? 51 = some i ∧ i.zero = some (.agg #[.int .i64 0, .int .i64 0, .slice none 0 0]) := ⟨_, rfl, rfl⟩
set_option maxRecDepth 100000 in
theorem ty_el_122 : ∃ i, Tryz.prog.info? 184 = some i ∧ i.zero = some (.pointer none) ∧ i.bytes = 8 := ⟨_, rfl, rfl, rfl⟩
set_option maxRecDepth 100000 in
theorem ty_el_163 : ∃ i, Tryz.prog.info? 49 = some i ∧ i.zero = some (.slice none 0 0) ∧ i.bytes = 24 := ⟨_, rfl, rfl, rfl⟩
set_option maxRecDepth 100000 in
theorem ty_el_212 : ∃ i, Tryz.prog.info? 247 = some i ∧ i.zero = some (.agg #[.int .i64 0, .int .i64 0, .int .i64 0, .int .i64 0, .int .i64 0, .slice none 0 0]) ∧ i.bytes = 64 := ⟨_, rfl, rfl, rfl⟩
set_option maxRecDepth 100000 in
theorem ty_el_22 : ∃ i, Tryz.prog.info? 3 = some i ∧ i.zero = some (.int .i64 0) ∧ i.bytes = 8 := ⟨_, rfl, rfl, rfl⟩
set_option maxRecDepth 100000 in
theorem ty_el_26 : ∃ i, Tryz.prog.info? 46 = some i ∧ i.zero = some (.pointer none) ∧ i.bytes = 8 := ⟨_, rfl, rfl, rfl⟩
set_option maxRecDepth 100000 in
theorem ty_el_41 : ∃ i, Tryz.prog.info? 63 = some i ∧ i.zero = some (.agg #[.bool false, .slice none 0 0]) ∧ i.bytes = 32 := ⟨_, rfl, rfl, rfl⟩
set_option maxRecDepth 100000 in
theorem ty_el_49 : ∃ i, Tryz.prog.info? 5 = some i ∧ i.zero = some (.int .u8 0) ∧ i.bytes = 1 := ⟨_, rfl, rfl, rfl⟩
set_option maxRecDepth 100000 in
theorem ty_el_52 : ∃ i, Tryz.prog.info? 51 = some i ∧ i.zero = some (.agg #[.int .i64 0, .int .i64 0, .slice none 0 0]) ∧ i.bytes = 40 := ⟨_, rfl, rfl, rfl⟩
set_option maxRecDepth 100000 in
theorem ty_ez_210 : ∃ i, Tryz.prog.info? 210 = some i ∧ i.zero = some (.pointer none) := ⟨_, rfl, rfl⟩
theorem ty_fd_124_0 : fieldTy Tryz.prog 124 0 0 = true := by kernel_rfl
theorem ty_fd_124_1 : fieldTy Tryz.prog 124 1 1 = true := by kernel_rfl
theorem ty_fd_124_2 : fieldTy Tryz.prog 124 2 2 = true := by kernel_rfl
theorem ty_fd_124_3 : fieldTy Tryz.prog 124 3 3 = true := by kernel_rfl
theorem ty_fd_130_1 : fieldTy Tryz.prog 130 1 1 = true := by kernel_rfl
theorem ty_fd_130_2 : fieldTy Tryz.prog 130 2 2 = true := by kernel_rfl
theorem ty_fd_130_3 : fieldTy Tryz.prog 130 3 3 = true := by kernel_rfl
theorem ty_fd_130_4 : fieldTy Tryz.prog 130 4 4 = true := by kernel_rfl
theorem ty_fd_130_5 : fieldTy Tryz.prog 130 5 5 = true := by kernel_rfl
theorem ty_fd_166_0 : fieldTy Tryz.prog 166 0 0 = true := by kernel_rfl
theorem ty_fd_174_0 : fieldTy Tryz.prog 174 0 0 = true := by kernel_rfl
theorem ty_fd_174_1 : fieldTy Tryz.prog 174 1 1 = true := by kernel_rfl
theorem ty_fd_178_0 : fieldTy Tryz.prog 178 0 0 = true := by kernel_rfl
theorem ty_fd_180_1 : fieldTy Tryz.prog 180 1 1 = true := by kernel_rfl
theorem ty_fd_180_2 : fieldTy Tryz.prog 180 2 2 = true := by kernel_rfl
theorem ty_fd_190_2 : fieldTy Tryz.prog 190 2 0 = true := by kernel_rfl
theorem ty_fd_200_2 : fieldTy Tryz.prog 200 2 0 = true := by kernel_rfl
theorem ty_fd_202_0 : fieldTy Tryz.prog 202 0 0 = true := by kernel_rfl
theorem ty_fd_202_1 : fieldTy Tryz.prog 202 1 1 = true := by kernel_rfl
theorem ty_fd_202_2 : fieldTy Tryz.prog 202 2 2 = true := by kernel_rfl
theorem ty_fd_202_3 : fieldTy Tryz.prog 202 3 3 = true := by kernel_rfl
theorem ty_fd_204_0 : fieldTy Tryz.prog 204 0 0 = true := by kernel_rfl
theorem ty_fd_204_1 : fieldTy Tryz.prog 204 1 1 = true := by kernel_rfl
theorem ty_fd_214_0 : fieldTy Tryz.prog 214 0 0 = true := by kernel_rfl
theorem ty_fd_214_1 : fieldTy Tryz.prog 214 1 1 = true := by kernel_rfl
theorem ty_fd_214_2 : fieldTy Tryz.prog 214 2 2 = true := by kernel_rfl
theorem ty_fd_214_3 : fieldTy Tryz.prog 214 3 3 = true := by kernel_rfl
theorem ty_fd_214_4 : fieldTy Tryz.prog 214 4 4 = true := by kernel_rfl
theorem ty_fd_220_0 : fieldTy Tryz.prog 220 0 0 = true := by kernel_rfl
theorem ty_fd_228_0 : fieldTy Tryz.prog 228 0 0 = true := by kernel_rfl
theorem ty_fd_228_1 : fieldTy Tryz.prog 228 1 1 = true := by kernel_rfl
theorem ty_fd_247_0 : fieldTy Tryz.prog 247 0 0 = true := by kernel_rfl
theorem ty_fd_247_1 : fieldTy Tryz.prog 247 1 1 = true := by kernel_rfl
theorem ty_fd_247_2 : fieldTy Tryz.prog 247 2 2 = true := by kernel_rfl
theorem ty_fd_247_3 : fieldTy Tryz.prog 247 3 3 = true := by kernel_rfl
theorem ty_fd_247_4 : fieldTy Tryz.prog 247 4 4 = true := by kernel_rfl
theorem ty_fd_247_5 : fieldTy Tryz.prog 247 5 5 = true := by kernel_rfl
theorem ty_fd_38_2 : fieldTy Tryz.prog 38 2 2 = true := by kernel_rfl
theorem ty_fd_38_3 : fieldTy Tryz.prog 38 3 3 = true := by kernel_rfl
theorem ty_fd_43_0 : fieldTy Tryz.prog 43 0 0 = true := by kernel_rfl
theorem ty_fd_43_1 : fieldTy Tryz.prog 43 1 1 = true := by kernel_rfl
theorem ty_fd_43_2 : fieldTy Tryz.prog 43 2 2 = true := by kernel_rfl
theorem ty_fd_43_3 : fieldTy Tryz.prog 43 3 3 = true := by kernel_rfl
theorem ty_fd_43_4 : fieldTy Tryz.prog 43 4 4 = true := by kernel_rfl
theorem ty_fd_43_5 : fieldTy Tryz.prog 43 5 5 = true := by kernel_rfl
theorem ty_fd_43_6 : fieldTy Tryz.prog 43 6 6 = true := by kernel_rfl
theorem ty_fd_43_7 : fieldTy Tryz.prog 43 7 7 = true := by kernel_rfl
theorem ty_fd_43_8 : fieldTy Tryz.prog 43 8 8 = true := by kernel_rfl
theorem ty_fd_51_0 : fieldTy Tryz.prog 51 0 0 = true := by kernel_rfl
theorem ty_fd_51_1 : fieldTy Tryz.prog 51 1 1 = true := by kernel_rfl
theorem ty_fd_51_2 : fieldTy Tryz.prog 51 2 2 = true := by kernel_rfl
theorem ty_fd_54_0 : fieldTy Tryz.prog 54 0 0 = true := by kernel_rfl
theorem ty_fd_54_1 : fieldTy Tryz.prog 54 1 1 = true := by kernel_rfl
theorem ty_fd_54_2 : fieldTy Tryz.prog 54 2 2 = true := by kernel_rfl
theorem ty_fd_54_3 : fieldTy Tryz.prog 54 3 3 = true := by kernel_rfl
theorem ty_fd_56_0 : fieldTy Tryz.prog 56 0 0 = true := by kernel_rfl
theorem ty_fd_56_1 : fieldTy Tryz.prog 56 1 1 = true := by kernel_rfl
theorem ty_fd_58_0 : fieldTy Tryz.prog 58 0 0 = true := by kernel_rfl
theorem ty_fd_58_1 : fieldTy Tryz.prog 58 1 4 = true := by kernel_rfl
theorem ty_fd_58_2 : fieldTy Tryz.prog 58 2 5 = true := by kernel_rfl
theorem ty_fd_58_3 : fieldTy Tryz.prog 58 3 7 = true := by kernel_rfl
theorem ty_fd_58_4 : fieldTy Tryz.prog 58 4 8 = true := by kernel_rfl
theorem ty_fd_58_5 : fieldTy Tryz.prog 58 5 17 = true := by kernel_rfl
theorem ty_fd_60_0 : fieldTy Tryz.prog 60 0 0 = true := by kernel_rfl
theorem ty_fd_60_1 : fieldTy Tryz.prog 60 1 18 = true := by kernel_rfl
theorem ty_fd_60_2 : fieldTy Tryz.prog 60 2 19 = true := by kernel_rfl
theorem ty_fd_60_3 : fieldTy Tryz.prog 60 3 20 = true := by kernel_rfl
theorem ty_fd_60_4 : fieldTy Tryz.prog 60 4 21 = true := by kernel_rfl
theorem ty_fd_60_5 : fieldTy Tryz.prog 60 5 22 = true := by kernel_rfl
theorem ty_fd_63_0 : fieldTy Tryz.prog 63 0 0 = true := by kernel_rfl
theorem ty_fd_63_1 : fieldTy Tryz.prog 63 1 1 = true := by kernel_rfl
theorem ty_fd_72_0 : fieldTy Tryz.prog 72 0 0 = true := by kernel_rfl
theorem ty_fd_72_1 : fieldTy Tryz.prog 72 1 18 = true := by kernel_rfl
theorem ty_fd_74_0 : fieldTy Tryz.prog 74 0 0 = true := by kernel_rfl
theorem ty_fd_74_1 : fieldTy Tryz.prog 74 1 19 = true := by kernel_rfl
theorem ty_fl_56_0 : fldTy Tryz.prog 56 0 3 0 = true := by kernel_rfl
theorem ty_fl_56_1 : fldTy Tryz.prog 56 1 3 1 = true := by kernel_rfl
theorem ty_ik_3 : Tryz.prog.underlying 3 = some (.int .i64) := by kernel_rfl
theorem ty_ik_40 : Tryz.prog.underlying 40 = some (.int .u64) := by kernel_rfl
theorem ty_ik_5 : Tryz.prog.underlying 5 = some (.int .u8) := by kernel_rfl
theorem ty_li_43 : Go.liesAt Tryz.prog Tryz.prog.depth 43 (9 / Tryz.prog.cellsOf 43) 0 43 1 = true := by kernel_rfl
theorem ty_mp_128 : mapTy Tryz.prog 128 3 210 = true := by kernel_rfl
theorem ty_pe_118 : Tryz.prog.underlying 118 = some (.pointer 43) := by kernel_rfl
theorem ty_pt_118 : Tryz.prog.underlying 118 = some (.pointer (Tryz.prog.pointee 118)) := by kernel_rfl
theorem ty_pt_182 : Tryz.prog.underlying 182 = some (.pointer (Tryz.prog.pointee 182)) := by kernel_rfl
theorem ty_pt_193 : Tryz.prog.underlying 193 = some (.pointer (Tryz.prog.pointee 193)) := by kernel_rfl
theorem ty_pt_24 : Tryz.prog.underlying 24 = some (.pointer (Tryz.prog.pointee 24)) := by kernel_rfl
theorem ty_pt_29 : Tryz.prog.underlying 29 = some (.pointer (Tryz.prog.pointee 29)) := by kernel_rfl
theorem ty_pt_30 : Tryz.prog.underlying 30 = some (.pointer (Tryz.prog.pointee 30)) := by kernel_rfl
theorem ty_pt_31 : Tryz.prog.underlying 31 = some (.pointer (Tryz.prog.pointee 31)) := by kernel_rfl
theorem ty_pt_32 : Tryz.prog.underlying 32 = some (.pointer (Tryz.prog.pointee 32)) := by kernel_rfl
theorem ty_pt_46 : Tryz.prog.underlying 46 = some (.pointer (Tryz.prog.pointee 46)) := by kernel_rfl
theorem ty_pt_66 : Tryz.prog.underlying 66 = some (.pointer (Tryz.prog.pointee 66)) := by kernel_rfl
theorem ty_pt_76 : Tryz.prog.underlying 76 = some (.pointer (Tryz.prog.pointee 76)) := by kernel_rfl
theorem ty_sc_121 : scalarTy Tryz.prog 121 = true := by kernel_rfl
theorem ty_sc_122 : scalarTy Tryz.prog 122 = true := by kernel_rfl
theorem ty_sc_128 : scalarTy Tryz.prog 128 = true := by kernel_rfl
theorem ty_sc_134 : scalarTy Tryz.prog 134 = true := by kernel_rfl
theorem ty_sc_163 : scalarTy Tryz.prog 163 = true := by kernel_rfl
theorem ty_sc_182 : scalarTy Tryz.prog 182 = true := by kernel_rfl
theorem ty_sc_184 : scalarTy Tryz.prog 184 = true := by kernel_rfl
theorem ty_sc_196 : scalarTy Tryz.prog 196 = true := by kernel_rfl
theorem ty_sc_212 : scalarTy Tryz.prog 212 = true := by kernel_rfl
theorem ty_sc_22 : scalarTy Tryz.prog 22 = true := by kernel_rfl
theorem ty_sc_23 : scalarTy Tryz.prog 23 = true := by kernel_rfl
theorem ty_sc_27 : scalarTy Tryz.prog 27 = true := by kernel_rfl
theorem ty_sc_3 : scalarTy Tryz.prog 3 = true := by kernel_rfl
theorem ty_sc_30 : scalarTy Tryz.prog 30 = true := by kernel_rfl
theorem ty_sc_31 : scalarTy Tryz.prog 31 = true := by kernel_rfl
theorem ty_sc_32 : scalarTy Tryz.prog 32 = true := by kernel_rfl
theorem ty_sc_33 : scalarTy Tryz.prog 33 = true := by kernel_rfl
theorem ty_sc_4 : scalarTy Tryz.prog 4 = true := by kernel_rfl
theorem ty_sc_40 : scalarTy Tryz.prog 40 = true := by kernel_rfl
theorem ty_sc_41 : scalarTy Tryz.prog 41 = true := by kernel_rfl
theorem ty_sc_46 : scalarTy Tryz.prog 46 = true := by kernel_rfl
theorem ty_sc_49 : scalarTy Tryz.prog 49 = true := by kernel_rfl
theorem ty_sc_5 : scalarTy Tryz.prog 5 = true := by kernel_rfl
theorem ty_sc_52 : scalarTy Tryz.prog 52 = true := by kernel_rfl
theorem ty_sl_122 : sliceTy Tryz.prog 122 184 1 = true := by kernel_rfl
theorem ty_sl_163 : sliceTy Tryz.prog 163 49 1 = true := by kernel_rfl
theorem ty_sl_212 : sliceTy Tryz.prog 212 247 6 = true := by kernel_rfl
theorem ty_sl_22 : sliceTy Tryz.prog 22 3 1 = true := by kernel_rfl
theorem ty_sl_26 : sliceTy Tryz.prog 26 46 1 = true := by kernel_rfl
theorem ty_sl_279 : sliceTy Tryz.prog 279 196 1 = true := by kernel_rfl
theorem ty_sl_41 : sliceTy Tryz.prog 41 63 2 = true := by kernel_rfl
theorem ty_sl_49 : sliceTy Tryz.prog 49 5 1 = true := by kernel_rfl
theorem ty_sl_52 : sliceTy Tryz.prog 52 51 3 = true := by kernel_rfl
theorem ty_sz_122 : sizeTy Tryz.prog 122 1 = true := by kernel_rfl
theorem ty_sz_163 : sizeTy Tryz.prog 163 1 = true := by kernel_rfl
theorem ty_sz_212 : sizeTy Tryz.prog 212 1 = true := by kernel_rfl
theorem ty_sz_22 : sizeTy Tryz.prog 22 1 = true := by kernel_rfl
theorem ty_sz_23 : sizeTy Tryz.prog 23 1 = true := by kernel_rfl
theorem ty_sz_247 : sizeTy Tryz.prog 247 6 = true := by kernel_rfl
theorem ty_sz_27 : sizeTy Tryz.prog 27 1 = true := by kernel_rfl
theorem ty_sz_3 : sizeTy Tryz.prog 3 1 = true := by kernel_rfl
theorem ty_sz_40 : sizeTy Tryz.prog 40 1 = true := by kernel_rfl
theorem ty_sz_41 : sizeTy Tryz.prog 41 1 = true := by kernel_rfl
theorem ty_sz_43 : sizeTy Tryz.prog 43 9 = true := by kernel_rfl
theorem ty_sz_49 : sizeTy Tryz.prog 49 1 = true := by kernel_rfl
theorem ty_sz_51 : sizeTy Tryz.prog 51 3 = true := by kernel_rfl
theorem ty_sz_52 : sizeTy Tryz.prog 52 1 = true := by kernel_rfl
theorem ty_sz_54 : sizeTy Tryz.prog 54 4 = true := by kernel_rfl
theorem ty_sz_56 : sizeTy Tryz.prog 56 2 = true := by kernel_rfl
theorem ty_sz_63 : sizeTy Tryz.prog 63 2 = true := by kernel_rfl
theorem ty_un_3 : (Tryz.prog.underlying 3).isSome = true := by kernel_rfl
theorem ty_un_40 : (Tryz.prog.underlying 40).isSome = true := by kernel_rfl
theorem ty_un_5 : (Tryz.prog.underlying 5).isSome = true := by kernel_rfl
theorem ty_up_188 : Tryz.prog.underlying 188 = some .unsafePointer := by kernel_rfl
theorem ty_zd_124 : sizedTy Tryz.prog 124 = true := by kernel_rfl
theorem ty_zd_130 : sizedTy Tryz.prog 130 = true := by kernel_rfl
theorem ty_zd_156 : sizedTy Tryz.prog 156 = true := by kernel_rfl
theorem ty_zd_166 : sizedTy Tryz.prog 166 = true := by kernel_rfl
theorem ty_zd_172 : sizedTy Tryz.prog 172 = true := by kernel_rfl
theorem ty_zd_174 : sizedTy Tryz.prog 174 = true := by kernel_rfl
theorem ty_zd_178 : sizedTy Tryz.prog 178 = true := by kernel_rfl
theorem ty_zd_180 : sizedTy Tryz.prog 180 = true := by kernel_rfl
theorem ty_zd_192 : sizedTy Tryz.prog 192 = true := by kernel_rfl
theorem ty_zd_202 : sizedTy Tryz.prog 202 = true := by kernel_rfl
theorem ty_zd_204 : sizedTy Tryz.prog 204 = true := by kernel_rfl
theorem ty_zd_214 : sizedTy Tryz.prog 214 = true := by kernel_rfl
theorem ty_zd_220 : sizedTy Tryz.prog 220 = true := by kernel_rfl
theorem ty_zd_228 : sizedTy Tryz.prog 228 = true := by kernel_rfl
theorem ty_zd_247 : sizedTy Tryz.prog 247 = true := by kernel_rfl
theorem ty_zd_38 : sizedTy Tryz.prog 38 = true := by kernel_rfl
theorem ty_zd_43 : sizedTy Tryz.prog 43 = true := by kernel_rfl
theorem ty_zd_51 : sizedTy Tryz.prog 51 = true := by kernel_rfl
theorem ty_zd_54 : sizedTy Tryz.prog 54 = true := by kernel_rfl
theorem ty_zd_56 : sizedTy Tryz.prog 56 = true := by kernel_rfl
theorem ty_zd_60 : sizedTy Tryz.prog 60 = true := by kernel_rfl
theorem ty_zd_63 : sizedTy Tryz.prog 63 = true := by kernel_rfl
theorem ty_zd_72 : sizedTy Tryz.prog 72 = true := by kernel_rfl
theorem ty_zd_74 : sizedTy Tryz.prog 74 = true := by kernel_rfl
set_option maxRecDepth 100000 in
theorem ty_zr_124 : zeroTy Tryz.prog 124 [.pointer none, .int .u64 0, .slice none 0 0, .int .i64 0] := ⟨_, _, rfl, rfl, rfl⟩
set_option maxRecDepth 100000 in
theorem ty_zr_130 : zeroTy Tryz.prog 130 [.pointer none, .pointer none, .int .i64 0, .map none, .map none, .int .i64 0, .int .i64 0, .int .i64 0, .int .i64 0, .int .i64 0, .int .i64 0] := ⟨_, _, rfl, rfl, rfl⟩
set_option maxRecDepth 100000 in
theorem ty_zr_156 : zeroTy Tryz.prog 156 [.pointer none, .int .i64 0, .int .i64 0, .slice none 0 0, .int .i64 0, .int .i64 0, .int .i64 0, .int .i64 0, .int .i64 0, .int .i64 0] := ⟨_, _, rfl, rfl, rfl⟩
set_option maxRecDepth 100000 in
theorem ty_zr_166 : zeroTy Tryz.prog 166 [.slice none 0 0, .slice none 0 0, .int .i64 0, .bool false, .int .i64 0, .int .i64 0] := ⟨_, _, rfl, rfl, rfl⟩
set_option maxRecDepth 100000 in
theorem ty_zr_174 : zeroTy Tryz.prog 174 [.pointer none, .int .i64 0, .int .i64 0] := ⟨_, _, rfl, rfl, rfl⟩
set_option maxRecDepth 100000 in
theorem ty_zr_178 : zeroTy Tryz.prog 178 [.slice none 0 0, .slice none 0 0, .slice none 0 0, .int .i64 0, .bool false, .int .i64 0, .int .i64 0] := ⟨_, _, rfl, rfl, rfl⟩
set_option maxRecDepth 100000 in
theorem ty_zr_180 : zeroTy Tryz.prog 180 [.pointer none, .int .i64 0, .int .i64 0, .int .i64 0] := ⟨_, _, rfl, rfl, rfl⟩
set_option maxRecDepth 100000 in
theorem ty_zr_192 : zeroTy Tryz.prog 192 [.pointer none, .pointer none, .pointer none, .pointer none, .pointer none, .pointer none, .pointer none, .pointer none, .pointer none, .pointer none, .pointer none, .pointer none, .pointer none, .pointer none, .pointer none, .pointer none] := ⟨_, _, rfl, rfl, rfl⟩
set_option maxRecDepth 100000 in
theorem ty_zr_202 : zeroTy Tryz.prog 202 [.int .i64 0, .int .i64 0, .int .i64 0, .int .i64 0, .int .i64 0] := ⟨_, _, rfl, rfl, rfl⟩
set_option maxRecDepth 100000 in
theorem ty_zr_204 : zeroTy Tryz.prog 204 [.int .i64 0, .pointer none] := ⟨_, _, rfl, rfl, rfl⟩
set_option maxRecDepth 100000 in
theorem ty_zr_214 : zeroTy Tryz.prog 214 [.int .i64 0, .int .i64 0, .int .i64 0, .slice none 0 0, .slice none 0 0] := ⟨_, _, rfl, rfl, rfl⟩
set_option maxRecDepth 100000 in
theorem ty_zr_22 : zeroTy Tryz.prog 22 [.slice none 0 0] := ⟨_, _, rfl, rfl, rfl⟩
set_option maxRecDepth 100000 in
theorem ty_zr_220 : zeroTy Tryz.prog 220 [.slice none 0 0] := ⟨_, _, rfl, rfl, rfl⟩
set_option maxRecDepth 100000 in
theorem ty_zr_228 : zeroTy Tryz.prog 228 [.slice none 0 0, .int .i64 0] := ⟨_, _, rfl, rfl, rfl⟩
set_option maxRecDepth 100000 in
theorem ty_zr_247 : zeroTy Tryz.prog 247 [.int .i64 0, .int .i64 0, .int .i64 0, .int .i64 0, .int .i64 0, .slice none 0 0] := ⟨_, _, rfl, rfl, rfl⟩
set_option maxRecDepth 100000 in
theorem ty_zr_38 : zeroTy Tryz.prog 38 [.pointer none, .pointer none, .pointer none, .pointer none, .pointer none, .pointer none, .pointer none, .pointer none] := ⟨_, _, rfl, rfl, rfl⟩
set_option maxRecDepth 100000 in
theorem ty_zr_43 : zeroTy Tryz.prog 43 [.int .u64 0, .slice none 0 0, .int .i64 0, .int .i64 0, .int .i64 0, .int .i64 0, .int .i64 0, .int .i64 0, .slice none 0 0] := ⟨_, _, rfl, rfl, rfl⟩
set_option maxRecDepth 100000 in
theorem ty_zr_51 : zeroTy Tryz.prog 51 [.int .i64 0, .int .i64 0, .slice none 0 0] := ⟨_, _, rfl, rfl, rfl⟩
set_option maxRecDepth 100000 in
theorem ty_zr_54 : zeroTy Tryz.prog 54 [.pointer none, .pointer none, .nilFunc, .int .i64 0] := ⟨_, _, rfl, rfl, rfl⟩
set_option maxRecDepth 100000 in
theorem ty_zr_56 : zeroTy Tryz.prog 56 [.int .i64 0, .int .i64 0] := ⟨_, _, rfl, rfl, rfl⟩
set_option maxRecDepth 100000 in
theorem ty_zr_60 : zeroTy Tryz.prog 60 [.pointer none, .pointer none, .nilFunc, .int .i64 0, .int .i64 0, .int .i64 0, .int .i64 0, .slice none 0 0, .int .u64 0, .slice none 0 0, .int .i64 0, .int .i64 0, .int .i64 0, .int .i64 0, .int .i64 0, .int .i64 0, .slice none 0 0, .nilFunc, .int .u64 0, .slice none 0 0, .slice none 0 0, .int .i64 0, .slice none 0 0] := ⟨_, _, rfl, rfl, rfl⟩
set_option maxRecDepth 100000 in
theorem ty_zr_63 : zeroTy Tryz.prog 63 [.bool false, .slice none 0 0] := ⟨_, _, rfl, rfl, rfl⟩
set_option maxRecDepth 100000 in
theorem ty_zr_72 : zeroTy Tryz.prog 72 [.pointer none, .pointer none, .nilFunc, .int .i64 0, .int .i64 0, .int .i64 0, .int .i64 0, .slice none 0 0, .int .u64 0, .slice none 0 0, .int .i64 0, .int .i64 0, .int .i64 0, .int .i64 0, .int .i64 0, .int .i64 0, .slice none 0 0, .nilFunc, .int .i64 0] := ⟨_, _, rfl, rfl, rfl⟩
set_option maxRecDepth 100000 in
theorem ty_zr_74 : zeroTy Tryz.prog 74 [.pointer none, .pointer none, .nilFunc, .int .i64 0, .int .i64 0, .int .i64 0, .int .i64 0, .slice none 0 0, .int .u64 0, .slice none 0 0, .int .i64 0, .int .i64 0, .int .i64 0, .int .i64 0, .int .i64 0, .int .i64 0, .slice none 0 0, .nilFunc, .int .i64 0, .int .i64 0] := ⟨_, _, rfl, rfl, rfl⟩
theorem Tryzmixed : Tryz.prog.follows .mixedOrders = true := by kernel_rfl
end Go.Hp
