import Derived.Test.YtcnfcdlapbjgeaaHpNum
import Derived.Test.YtcnfcdlapbjgeaaHpMap
import Derived.Test.YtcnfcdlapbjgeaaHpShort
import Derived.Test.YtcnfcdlapbjgeaaProg
import Derived.KernelRfl
namespace Go.Hp
open Go Go.Proofs
theorem ty_ag_103 : aggTy Try.prog 103 64 = true := by kernel_rfl
theorem ty_ag_105 : aggTy Try.prog 105 65 = true := by kernel_rfl
theorem ty_ag_142 : aggTy Try.prog 142 16 = true := by kernel_rfl
theorem ty_ag_29 : aggTy Try.prog 29 2 = true := by kernel_rfl
theorem ty_ag_52 : aggTy Try.prog 52 6 = true := by kernel_rfl
theorem ty_ar_103 : arrTy Try.prog 103 64 5 1 = true := by kernel_rfl
theorem ty_ar_142 : arrTy Try.prog 142 16 138 1 = true := by kernel_rfl
set_option maxRecDepth 100000 in
theorem ty_el2_22 : ∃ i, Try.prog.info? 46 = some i ∧ i.zero = some (.slice none 0 0) := ⟨_, rfl, rfl⟩
set_option maxRecDepth 100000 in
theorem ty_el2_23 : ∃ i, Try.prog.info? 3 = some i ∧ i.zero = some (.int .i64 0) := ⟨_, rfl, rfl⟩
set_option maxRecDepth 100000 in
theorem ty_el2_46 : ∃ i, Try.prog.info? 5 = some i ∧ i.zero = some (.int .u8 0) := ⟨_, rfl, rfl⟩
set_option maxRecDepth 100000 in
theorem ty_el2_90 : ∃ i, Try.prog.info? 52 = some i ∧ i.zero = some (.agg #[.int .i64 0, .int .i64 0, .int .i64 0, .int .i64 0, .int .i64 0, .slice none 0 0]) := ⟨_, rfl, rfl⟩
set_option maxRecDepth 100000 in
theorem ty_el2_99 : ∃ i, Try.prog.info? 105 = some i ∧ i.zero = some (.agg #[.int .i64 0, .int .u8 0, .int .u8 0, .int .u8 0, .int .u8 0, .int .u8 0, .int .u8 0, .int .u8 0, .int .u8 0, .int .u8 0, .int .u8 0, .int .u8 0, .int .u8 0, .int .u8 0, .int .u8 0, .int .u8 0, .int .u8 0, .int .u8 0, .int .u8 0, .int .u8 0, .int .u8 0, .int .u8 0, .int .u8 0, .int .u8 0, .int .u8 0, .int .u8 0, .int .u8 0, .int .u8 0, .int .u8 0, .int .u8 0, .int .u8 0, .int .u8 0, .int .u8 0, .int .u8 0, .int .u8 0, .int .u8 0, .int .u8 0, .int .u8 0, .int .u8 0, .int .u8 0, .int .u8 0, .int .u8 0, .int .u8 0, .int .u8 0, .int .u8 0, .int .u8 0, .int .u8 0, .int .u8 0, .int .u8 0, .int .u8 0, .int .u8 0, .int .u8 0, .int .u8 0, .int .u8 0, .int .u8 0, .int .u8 0, .int .u8 0, .int .u8 0, .int .u8 0, .int .u8 0, .int .u8 0, .int .u8 0, .int .u8 0, .int .u8 0, .int .u8 0]) := ⟨_, rfl, rfl⟩
set_option maxRecDepth 100000 in
theorem ty_el_22 : ∃ i, Try.prog.info? 46 = some i ∧ i.zero = some (.slice none 0 0) ∧ i.bytes = 24 := ⟨_, rfl, rfl, rfl⟩
set_option maxRecDepth 100000 in
theorem ty_el_23 : ∃ i, Try.prog.info? 3 = some i ∧ i.zero = some (.int .i64 0) ∧ i.bytes = 8 := ⟨_, rfl, rfl, rfl⟩
set_option maxRecDepth 100000 in
theorem ty_el_46 : ∃ i, Try.prog.info? 5 = some i ∧ i.zero = some (.int .u8 0) ∧ i.bytes = 1 := ⟨_, rfl, rfl, rfl⟩
set_option maxRecDepth 100000 in
theorem ty_el_57 : ∃ i, Try.prog.info? 29 = some i ∧ i.zero = some (.agg #[.int .i64 0, .int .i64 0]) ∧ i.bytes = 16 := ⟨_, rfl, rfl, rfl⟩
set_option maxRecDepth 100000 in
theorem ty_el_62 : ∃ i, Try.prog.info? 106 = some i ∧ i.zero = some (.int .i64 0) ∧ i.bytes = 8 := ⟨_, rfl, rfl, rfl⟩
set_option maxRecDepth 100000 in
theorem ty_el_90 : ∃ i, Try.prog.info? 52 = some i ∧ i.zero = some (.agg #[.int .i64 0, .int .i64 0, .int .i64 0, .int .i64 0, .int .i64 0, .slice none 0 0]) ∧ i.bytes = 64 := ⟨_, rfl, rfl, rfl⟩
set_option maxRecDepth 100000 in
theorem ty_el_99 : ∃ i, Try.prog.info? 105 = some i ∧ i.zero = some (.agg #[.int .i64 0, .int .u8 0, .int .u8 0, .int .u8 0, .int .u8 0, .int .u8 0, .int .u8 0, .int .u8 0, .int .u8 0, .int .u8 0, .int .u8 0, .int .u8 0, .int .u8 0, .int .u8 0, .int .u8 0, .int .u8 0, .int .u8 0, .int .u8 0, .int .u8 0, .int .u8 0, .int .u8 0, .int .u8 0, .int .u8 0, .int .u8 0, .int .u8 0, .int .u8 0, .int .u8 0, .int .u8 0, .int .u8 0, .int .u8 0, .int .u8 0, .int .u8 0, .int .u8 0, .int .u8 0, .int .u8 0, .int .u8 0, .int .u8 0, .int .u8 0, .int .u8 0, .int .u8 0, .int .u8 0, .int .u8 0, .int .u8 0, .int .u8 0, .int .u8 0, .int .u8 0, .int .u8 0, .int .u8 0, .int .u8 0, .int .u8 0, .int .u8 0, .int .u8 0, .int .u8 0, .int .u8 0, .int .u8 0, .int .u8 0, .int .u8 0, .int .u8 0, .int .u8 0, .int .u8 0, .int .u8 0, .int .u8 0, .int .u8 0, .int .u8 0, .int .u8 0]) ∧ i.bytes = 72 := ⟨_, rfl, rfl, rfl⟩
set_option maxRecDepth 100000 in
theorem ty_ez_88 : ∃ i, Try.prog.info? 88 = some i ∧ i.zero = some (.pointer none) := ⟨_, rfl, rfl⟩
theorem ty_fd_101_0 : fieldTy Try.prog 101 0 0 = true := by kernel_rfl
theorem ty_fd_101_1 : fieldTy Try.prog 101 1 1 = true := by kernel_rfl
theorem ty_fd_101_2 : fieldTy Try.prog 101 2 2 = true := by kernel_rfl
theorem ty_fd_101_3 : fieldTy Try.prog 101 3 3 = true := by kernel_rfl
theorem ty_fd_101_4 : fieldTy Try.prog 101 4 4 = true := by kernel_rfl
theorem ty_fd_101_5 : fieldTy Try.prog 101 5 5 = true := by kernel_rfl
theorem ty_fd_101_6 : fieldTy Try.prog 101 6 6 = true := by kernel_rfl
theorem ty_fd_105_0 : fieldTy Try.prog 105 0 0 = true := by kernel_rfl
theorem ty_fd_105_1 : fieldTy Try.prog 105 1 1 = true := by kernel_rfl
theorem ty_fd_108_0 : fieldTy Try.prog 108 0 0 = true := by kernel_rfl
theorem ty_fd_108_1 : fieldTy Try.prog 108 1 1 = true := by kernel_rfl
theorem ty_fd_108_2 : fieldTy Try.prog 108 2 2 = true := by kernel_rfl
theorem ty_fd_108_3 : fieldTy Try.prog 108 3 3 = true := by kernel_rfl
theorem ty_fd_110_0 : fieldTy Try.prog 110 0 0 = true := by kernel_rfl
theorem ty_fd_110_1 : fieldTy Try.prog 110 1 1 = true := by kernel_rfl
theorem ty_fd_110_2 : fieldTy Try.prog 110 2 2 = true := by kernel_rfl
theorem ty_fd_110_3 : fieldTy Try.prog 110 3 3 = true := by kernel_rfl
theorem ty_fd_110_4 : fieldTy Try.prog 110 4 4 = true := by kernel_rfl
theorem ty_fd_110_5 : fieldTy Try.prog 110 5 5 = true := by kernel_rfl
theorem ty_fd_110_6 : fieldTy Try.prog 110 6 6 = true := by kernel_rfl
theorem ty_fd_110_7 : fieldTy Try.prog 110 7 7 = true := by kernel_rfl
theorem ty_fd_116_0 : fieldTy Try.prog 116 0 0 = true := by kernel_rfl
theorem ty_fd_119_0 : fieldTy Try.prog 119 0 0 = true := by kernel_rfl
theorem ty_fd_119_1 : fieldTy Try.prog 119 1 1 = true := by kernel_rfl
theorem ty_fd_29_0 : fieldTy Try.prog 29 0 0 = true := by kernel_rfl
theorem ty_fd_29_1 : fieldTy Try.prog 29 1 1 = true := by kernel_rfl
theorem ty_fd_43_0 : fieldTy Try.prog 43 0 0 = true := by kernel_rfl
theorem ty_fd_43_1 : fieldTy Try.prog 43 1 1 = true := by kernel_rfl
theorem ty_fd_43_2 : fieldTy Try.prog 43 2 2 = true := by kernel_rfl
theorem ty_fd_43_3 : fieldTy Try.prog 43 3 3 = true := by kernel_rfl
theorem ty_fd_43_4 : fieldTy Try.prog 43 4 4 = true := by kernel_rfl
theorem ty_fd_43_5 : fieldTy Try.prog 43 5 5 = true := by kernel_rfl
theorem ty_fd_52_0 : fieldTy Try.prog 52 0 0 = true := by kernel_rfl
theorem ty_fd_52_1 : fieldTy Try.prog 52 1 1 = true := by kernel_rfl
theorem ty_fd_52_2 : fieldTy Try.prog 52 2 2 = true := by kernel_rfl
theorem ty_fd_52_3 : fieldTy Try.prog 52 3 3 = true := by kernel_rfl
theorem ty_fd_52_4 : fieldTy Try.prog 52 4 4 = true := by kernel_rfl
theorem ty_fd_52_5 : fieldTy Try.prog 52 5 5 = true := by kernel_rfl
theorem ty_fd_87_0 : fieldTy Try.prog 87 0 0 = true := by kernel_rfl
theorem ty_fd_87_1 : fieldTy Try.prog 87 1 1 = true := by kernel_rfl
theorem ty_fd_87_2 : fieldTy Try.prog 87 2 2 = true := by kernel_rfl
theorem ty_fd_87_3 : fieldTy Try.prog 87 3 3 = true := by kernel_rfl
theorem ty_fd_87_4 : fieldTy Try.prog 87 4 4 = true := by kernel_rfl
theorem ty_fd_87_5 : fieldTy Try.prog 87 5 5 = true := by kernel_rfl
theorem ty_fd_87_6 : fieldTy Try.prog 87 6 7 = true := by kernel_rfl
theorem ty_fd_87_7 : fieldTy Try.prog 87 7 9 = true := by kernel_rfl
theorem ty_fd_87_8 : fieldTy Try.prog 87 8 10 = true := by kernel_rfl
theorem ty_fd_92_0 : fieldTy Try.prog 92 0 0 = true := by kernel_rfl
theorem ty_fd_92_1 : fieldTy Try.prog 92 1 1 = true := by kernel_rfl
theorem ty_fd_92_2 : fieldTy Try.prog 92 2 2 = true := by kernel_rfl
theorem ty_fd_92_3 : fieldTy Try.prog 92 3 3 = true := by kernel_rfl
theorem ty_fd_92_4 : fieldTy Try.prog 92 4 4 = true := by kernel_rfl
theorem ty_fd_97_0 : fieldTy Try.prog 97 0 0 = true := by kernel_rfl
theorem ty_fd_97_1 : fieldTy Try.prog 97 1 1 = true := by kernel_rfl
theorem ty_fd_97_2 : fieldTy Try.prog 97 2 2 = true := by kernel_rfl
theorem ty_fd_97_3 : fieldTy Try.prog 97 3 4 = true := by kernel_rfl
theorem ty_fd_97_4 : fieldTy Try.prog 97 4 5 = true := by kernel_rfl
theorem ty_fl_29_0 : fldTy Try.prog 29 0 3 0 = true := by kernel_rfl
theorem ty_fl_29_1 : fldTy Try.prog 29 1 3 1 = true := by kernel_rfl
theorem ty_ik_138 : Try.prog.underlying 138 = some (.int .u32) := by kernel_rfl
theorem ty_ik_3 : Try.prog.underlying 3 = some (.int .i64) := by kernel_rfl
theorem ty_ik_5 : Try.prog.underlying 5 = some (.int .u8) := by kernel_rfl
theorem ty_mp_85 : mapTy Try.prog 85 3 88 = true := by kernel_rfl
theorem ty_pt_32 : Try.prog.underlying 32 = some (.pointer (Try.prog.pointee 32)) := by kernel_rfl
theorem ty_pt_33 : Try.prog.underlying 33 = some (.pointer (Try.prog.pointee 33)) := by kernel_rfl
theorem ty_pt_34 : Try.prog.underlying 34 = some (.pointer (Try.prog.pointee 34)) := by kernel_rfl
theorem ty_pt_35 : Try.prog.underlying 35 = some (.pointer (Try.prog.pointee 35)) := by kernel_rfl
theorem ty_pt_36 : Try.prog.underlying 36 = some (.pointer (Try.prog.pointee 36)) := by kernel_rfl
theorem ty_pt_47 : Try.prog.underlying 47 = some (.pointer (Try.prog.pointee 47)) := by kernel_rfl
theorem ty_pt_69 : Try.prog.underlying 69 = some (.pointer (Try.prog.pointee 69)) := by kernel_rfl
theorem ty_sc_106 : scalarTy Try.prog 106 = true := by kernel_rfl
theorem ty_sc_138 : scalarTy Try.prog 138 = true := by kernel_rfl
theorem ty_sc_22 : scalarTy Try.prog 22 = true := by kernel_rfl
theorem ty_sc_24 : scalarTy Try.prog 24 = true := by kernel_rfl
theorem ty_sc_3 : scalarTy Try.prog 3 = true := by kernel_rfl
theorem ty_sc_30 : scalarTy Try.prog 30 = true := by kernel_rfl
theorem ty_sc_32 : scalarTy Try.prog 32 = true := by kernel_rfl
theorem ty_sc_33 : scalarTy Try.prog 33 = true := by kernel_rfl
theorem ty_sc_34 : scalarTy Try.prog 34 = true := by kernel_rfl
theorem ty_sc_35 : scalarTy Try.prog 35 = true := by kernel_rfl
theorem ty_sc_4 : scalarTy Try.prog 4 = true := by kernel_rfl
theorem ty_sc_46 : scalarTy Try.prog 46 = true := by kernel_rfl
theorem ty_sc_5 : scalarTy Try.prog 5 = true := by kernel_rfl
theorem ty_sc_85 : scalarTy Try.prog 85 = true := by kernel_rfl
theorem ty_sc_90 : scalarTy Try.prog 90 = true := by kernel_rfl
theorem ty_sc_99 : scalarTy Try.prog 99 = true := by kernel_rfl
theorem ty_sl_22 : sliceTy Try.prog 22 46 1 = true := by kernel_rfl
theorem ty_sl_23 : sliceTy Try.prog 23 3 1 = true := by kernel_rfl
theorem ty_sl_46 : sliceTy Try.prog 46 5 1 = true := by kernel_rfl
theorem ty_sl_57 : sliceTy Try.prog 57 29 2 = true := by kernel_rfl
theorem ty_sl_62 : sliceTy Try.prog 62 106 1 = true := by kernel_rfl
theorem ty_sl_90 : sliceTy Try.prog 90 52 6 = true := by kernel_rfl
theorem ty_sl_99 : sliceTy Try.prog 99 105 65 = true := by kernel_rfl
theorem ty_sz_105 : sizeTy Try.prog 105 65 = true := by kernel_rfl
theorem ty_sz_138 : sizeTy Try.prog 138 1 = true := by kernel_rfl
theorem ty_sz_142 : sizeTy Try.prog 142 16 = true := by kernel_rfl
theorem ty_sz_22 : sizeTy Try.prog 22 1 = true := by kernel_rfl
theorem ty_sz_24 : sizeTy Try.prog 24 1 = true := by kernel_rfl
theorem ty_sz_29 : sizeTy Try.prog 29 2 = true := by kernel_rfl
theorem ty_sz_3 : sizeTy Try.prog 3 1 = true := by kernel_rfl
theorem ty_sz_30 : sizeTy Try.prog 30 1 = true := by kernel_rfl
theorem ty_sz_32 : sizeTy Try.prog 32 1 = true := by kernel_rfl
theorem ty_sz_33 : sizeTy Try.prog 33 1 = true := by kernel_rfl
theorem ty_sz_34 : sizeTy Try.prog 34 1 = true := by kernel_rfl
theorem ty_sz_35 : sizeTy Try.prog 35 1 = true := by kernel_rfl
theorem ty_sz_36 : sizeTy Try.prog 36 1 = true := by kernel_rfl
theorem ty_sz_37 : sizeTy Try.prog 37 1 = true := by kernel_rfl
theorem ty_sz_4 : sizeTy Try.prog 4 1 = true := by kernel_rfl
theorem ty_sz_46 : sizeTy Try.prog 46 1 = true := by kernel_rfl
theorem ty_sz_5 : sizeTy Try.prog 5 1 = true := by kernel_rfl
theorem ty_sz_52 : sizeTy Try.prog 52 6 = true := by kernel_rfl
theorem ty_sz_90 : sizeTy Try.prog 90 1 = true := by kernel_rfl
theorem ty_sz_99 : sizeTy Try.prog 99 1 = true := by kernel_rfl
theorem ty_un_138 : (Try.prog.underlying 138).isSome = true := by kernel_rfl
theorem ty_un_3 : (Try.prog.underlying 3).isSome = true := by kernel_rfl
theorem ty_un_5 : (Try.prog.underlying 5).isSome = true := by kernel_rfl
theorem ty_zd_101 : sizedTy Try.prog 101 = true := by kernel_rfl
theorem ty_zd_105 : sizedTy Try.prog 105 = true := by kernel_rfl
theorem ty_zd_108 : sizedTy Try.prog 108 = true := by kernel_rfl
theorem ty_zd_110 : sizedTy Try.prog 110 = true := by kernel_rfl
theorem ty_zd_116 : sizedTy Try.prog 116 = true := by kernel_rfl
theorem ty_zd_119 : sizedTy Try.prog 119 = true := by kernel_rfl
theorem ty_zd_122 : sizedTy Try.prog 122 = true := by kernel_rfl
theorem ty_zd_29 : sizedTy Try.prog 29 = true := by kernel_rfl
theorem ty_zd_43 : sizedTy Try.prog 43 = true := by kernel_rfl
theorem ty_zd_52 : sizedTy Try.prog 52 = true := by kernel_rfl
theorem ty_zd_87 : sizedTy Try.prog 87 = true := by kernel_rfl
theorem ty_zd_92 : sizedTy Try.prog 92 = true := by kernel_rfl
theorem ty_zd_97 : sizedTy Try.prog 97 = true := by kernel_rfl
set_option maxRecDepth 100000 in
theorem ty_zr_101 : zeroTy Try.prog 101 [.slice none 0 0, .slice none 0 0, .slice none 0 0, .int .i64 0, .bool false, .int .i64 0, .int .i64 0] := ⟨_, _, rfl, rfl, rfl⟩
set_option maxRecDepth 100000 in
theorem ty_zr_105 : zeroTy Try.prog 105 [.int .i64 0, .int .u8 0, .int .u8 0, .int .u8 0, .int .u8 0, .int .u8 0, .int .u8 0, .int .u8 0, .int .u8 0, .int .u8 0, .int .u8 0, .int .u8 0, .int .u8 0, .int .u8 0, .int .u8 0, .int .u8 0, .int .u8 0, .int .u8 0, .int .u8 0, .int .u8 0, .int .u8 0, .int .u8 0, .int .u8 0, .int .u8 0, .int .u8 0, .int .u8 0, .int .u8 0, .int .u8 0, .int .u8 0, .int .u8 0, .int .u8 0, .int .u8 0, .int .u8 0, .int .u8 0, .int .u8 0, .int .u8 0, .int .u8 0, .int .u8 0, .int .u8 0, .int .u8 0, .int .u8 0, .int .u8 0, .int .u8 0, .int .u8 0, .int .u8 0, .int .u8 0, .int .u8 0, .int .u8 0, .int .u8 0, .int .u8 0, .int .u8 0, .int .u8 0, .int .u8 0, .int .u8 0, .int .u8 0, .int .u8 0, .int .u8 0, .int .u8 0, .int .u8 0, .int .u8 0, .int .u8 0, .int .u8 0, .int .u8 0, .int .u8 0, .int .u8 0] := ⟨_, _, rfl, rfl, rfl⟩
set_option maxRecDepth 100000 in
theorem ty_zr_108 : zeroTy Try.prog 108 [.pointer none, .int .i64 0, .int .i64 0, .int .i64 0] := ⟨_, _, rfl, rfl, rfl⟩
set_option maxRecDepth 100000 in
theorem ty_zr_110 : zeroTy Try.prog 110 [.pointer none, .int .i64 0, .slice none 0 0, .bool false, .int .i64 0, .int .i64 0, .slice none 0 0, .int .i64 0] := ⟨_, _, rfl, rfl, rfl⟩
set_option maxRecDepth 100000 in
theorem ty_zr_116 : zeroTy Try.prog 116 [.slice none 0 0, .slice none 0 0, .int .i64 0, .bool false, .int .i64 0, .int .i64 0] := ⟨_, _, rfl, rfl, rfl⟩
set_option maxRecDepth 100000 in
theorem ty_zr_119 : zeroTy Try.prog 119 [.pointer none, .int .i64 0, .int .i64 0] := ⟨_, _, rfl, rfl, rfl⟩
set_option maxRecDepth 100000 in
theorem ty_zr_122 : zeroTy Try.prog 122 [.pointer none, .int .i64 0, .int .i64 0, .slice none 0 0, .int .i64 0, .int .i64 0, .int .i64 0, .int .i64 0, .int .i64 0, .int .i64 0] := ⟨_, _, rfl, rfl, rfl⟩
set_option maxRecDepth 100000 in
theorem ty_zr_142 : zeroTy Try.prog 142 [.int .u32 0, .int .u32 0, .int .u32 0, .int .u32 0, .int .u32 0, .int .u32 0, .int .u32 0, .int .u32 0, .int .u32 0, .int .u32 0, .int .u32 0, .int .u32 0, .int .u32 0, .int .u32 0, .int .u32 0, .int .u32 0] := ⟨_, _, rfl, rfl, rfl⟩
set_option maxRecDepth 100000 in
theorem ty_zr_29 : zeroTy Try.prog 29 [.int .i64 0, .int .i64 0] := ⟨_, _, rfl, rfl, rfl⟩
set_option maxRecDepth 100000 in
theorem ty_zr_43 : zeroTy Try.prog 43 [.pointer none, .pointer none, .pointer none, .pointer none, .pointer none, .pointer none, .slice none 0 0, .slice none 0 0, .slice none 0 0, .slice none 0 0] := ⟨_, _, rfl, rfl, rfl⟩
set_option maxRecDepth 100000 in
theorem ty_zr_52 : zeroTy Try.prog 52 [.int .i64 0, .int .i64 0, .int .i64 0, .int .i64 0, .int .i64 0, .slice none 0 0] := ⟨_, _, rfl, rfl, rfl⟩
set_option maxRecDepth 100000 in
theorem ty_zr_87 : zeroTy Try.prog 87 [.pointer none, .pointer none, .int .i64 0, .map none, .map none, .int .i64 0, .int .i64 0, .int .i64 0, .int .i64 0, .int .i64 0, .int .i64 0] := ⟨_, _, rfl, rfl, rfl⟩
set_option maxRecDepth 100000 in
theorem ty_zr_92 : zeroTy Try.prog 92 [.int .i64 0, .int .i64 0, .int .i64 0, .slice none 0 0, .slice none 0 0] := ⟨_, _, rfl, rfl, rfl⟩
set_option maxRecDepth 100000 in
theorem ty_zr_97 : zeroTy Try.prog 97 [.pointer none, .nilFunc, .int .i64 0, .int .i64 0, .int .i64 0, .int .i64 0] := ⟨_, _, rfl, rfl, rfl⟩
theorem Trymixed : Try.prog.follows .mixedOrders = true := by kernel_rfl
end Go.Hp
