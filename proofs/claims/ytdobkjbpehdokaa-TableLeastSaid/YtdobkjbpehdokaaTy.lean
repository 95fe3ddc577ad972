import Derived.Test.YtdobkjbpehdokaaHpFlat
import Derived.Test.YtdobkjbpehdokaaProg
import Derived.KernelRfl
namespace Go.Hp
open Go Go.Proofs
theorem ty_ag_41 : aggTy Try.prog 41 5 = true := by kernel_rfl
theorem ty_ag_63 : aggTy Try.prog 63 9 = true := by kernel_rfl
theorem ty_ag_69 : aggTy Try.prog 69 2 = true := by kernel_rfl
theorem ty_ar_110 : arrTy Try.prog 110 16 108 1 = true := by kernel_rfl
theorem ty_ar_76 : arrTy Try.prog 76 514 4 1 = true := by kernel_rfl
set_option maxRecDepth 100000 in
theorem ty_el2_111 : ∃ i, Try.prog.info? 103 = some i ∧ i.zero = some (.pointer none) := ⟨_, rfl, rfl⟩
set_option maxRecDepth 100000 in
theorem ty_el2_23 : ∃ i, Try.prog.info? 3 = some i ∧ i.zero = some (.int .i64 0) := ⟨_, rfl, rfl⟩
set_option maxRecDepth 100000 in
theorem ty_el2_61 : ∃ i, Try.prog.info? 69 = some i ∧ i.zero = some (.agg #[.bool false, .slice none 0 0]) := ⟨_, rfl, rfl⟩
set_option maxRecDepth 100000 in
theorem ty_el2_67 : ∃ i, Try.prog.info? 5 = some i ∧ i.zero = some (.int .u8 0) := ⟨_, rfl, rfl⟩
set_option maxRecDepth 100000 in
theorem ty_el_111 : ∃ i, Try.prog.info? 103 = some i ∧ i.zero = some (.pointer none) ∧ i.bytes = 8 := ⟨_, rfl, rfl, rfl⟩
set_option maxRecDepth 100000 in
theorem ty_el_23 : ∃ i, Try.prog.info? 3 = some i ∧ i.zero = some (.int .i64 0) ∧ i.bytes = 8 := ⟨_, rfl, rfl, rfl⟩
set_option maxRecDepth 100000 in
theorem ty_el_59 : ∃ i, Try.prog.info? 60 = some i ∧ i.zero = some (.int .u64 0) ∧ i.bytes = 8 := ⟨_, rfl, rfl, rfl⟩
set_option maxRecDepth 100000 in
theorem ty_el_61 : ∃ i, Try.prog.info? 69 = some i ∧ i.zero = some (.agg #[.bool false, .slice none 0 0]) ∧ i.bytes = 32 := ⟨_, rfl, rfl, rfl⟩
set_option maxRecDepth 100000 in
theorem ty_el_67 : ∃ i, Try.prog.info? 5 = some i ∧ i.zero = some (.int .u8 0) ∧ i.bytes = 1 := ⟨_, rfl, rfl, rfl⟩
theorem ty_fd_108_2 : fieldTy Try.prog 108 2 0 = true := by kernel_rfl
theorem ty_fd_113_0 : fieldTy Try.prog 113 0 0 = true := by kernel_rfl
theorem ty_fd_113_1 : fieldTy Try.prog 113 1 1 = true := by kernel_rfl
theorem ty_fd_113_2 : fieldTy Try.prog 113 2 2 = true := by kernel_rfl
theorem ty_fd_113_3 : fieldTy Try.prog 113 3 3 = true := by kernel_rfl
theorem ty_fd_63_0 : fieldTy Try.prog 63 0 0 = true := by kernel_rfl
theorem ty_fd_63_1 : fieldTy Try.prog 63 1 1 = true := by kernel_rfl
theorem ty_fd_63_2 : fieldTy Try.prog 63 2 2 = true := by kernel_rfl
theorem ty_fd_63_3 : fieldTy Try.prog 63 3 3 = true := by kernel_rfl
theorem ty_fd_63_4 : fieldTy Try.prog 63 4 4 = true := by kernel_rfl
theorem ty_fd_63_5 : fieldTy Try.prog 63 5 5 = true := by kernel_rfl
theorem ty_fd_63_6 : fieldTy Try.prog 63 6 6 = true := by kernel_rfl
theorem ty_fd_63_7 : fieldTy Try.prog 63 7 7 = true := by kernel_rfl
theorem ty_fd_63_8 : fieldTy Try.prog 63 8 8 = true := by kernel_rfl
theorem ty_fd_69_0 : fieldTy Try.prog 69 0 0 = true := by kernel_rfl
theorem ty_fd_69_1 : fieldTy Try.prog 69 1 1 = true := by kernel_rfl
theorem ty_fd_73_0 : fieldTy Try.prog 73 0 0 = true := by kernel_rfl
theorem ty_fd_73_1 : fieldTy Try.prog 73 1 1 = true := by kernel_rfl
theorem ty_fd_73_3 : fieldTy Try.prog 73 3 3 = true := by kernel_rfl
theorem ty_fd_81_2 : fieldTy Try.prog 81 2 0 = true := by kernel_rfl
theorem ty_fd_83_0 : fieldTy Try.prog 83 0 0 = true := by kernel_rfl
theorem ty_fd_83_1 : fieldTy Try.prog 83 1 1 = true := by kernel_rfl
theorem ty_fd_83_2 : fieldTy Try.prog 83 2 2 = true := by kernel_rfl
theorem ty_fd_83_3 : fieldTy Try.prog 83 3 3 = true := by kernel_rfl
theorem ty_fd_83_4 : fieldTy Try.prog 83 4 4 = true := by kernel_rfl
theorem ty_fd_85_0 : fieldTy Try.prog 85 0 0 = true := by kernel_rfl
theorem ty_fd_85_1 : fieldTy Try.prog 85 1 1 = true := by kernel_rfl
theorem ty_ik_3 : Try.prog.underlying 3 = some (.int .i64) := by kernel_rfl
theorem ty_ik_5 : Try.prog.underlying 5 = some (.int .u8) := by kernel_rfl
theorem ty_li_63 : Go.liesAt Try.prog Try.prog.depth 63 (9 / Try.prog.cellsOf 63) 0 63 1 = true := by kernel_rfl
theorem ty_pe_104 : Try.prog.underlying 104 = some (.pointer 63) := by kernel_rfl
theorem ty_pt_104 : Try.prog.underlying 104 = some (.pointer (Try.prog.pointee 104)) := by kernel_rfl
theorem ty_pt_118 : Try.prog.underlying 118 = some (.pointer (Try.prog.pointee 118)) := by kernel_rfl
theorem ty_pt_25 : Try.prog.underlying 25 = some (.pointer (Try.prog.pointee 25)) := by kernel_rfl
theorem ty_pt_55 : Try.prog.underlying 55 = some (.pointer (Try.prog.pointee 55)) := by kernel_rfl
theorem ty_sc_103 : scalarTy Try.prog 103 = true := by kernel_rfl
theorem ty_sc_111 : scalarTy Try.prog 111 = true := by kernel_rfl
theorem ty_sc_23 : scalarTy Try.prog 23 = true := by kernel_rfl
theorem ty_sc_25 : scalarTy Try.prog 25 = true := by kernel_rfl
theorem ty_sc_27 : scalarTy Try.prog 27 = true := by kernel_rfl
theorem ty_sc_3 : scalarTy Try.prog 3 = true := by kernel_rfl
theorem ty_sc_4 : scalarTy Try.prog 4 = true := by kernel_rfl
theorem ty_sc_5 : scalarTy Try.prog 5 = true := by kernel_rfl
theorem ty_sc_60 : scalarTy Try.prog 60 = true := by kernel_rfl
theorem ty_sc_61 : scalarTy Try.prog 61 = true := by kernel_rfl
theorem ty_sc_67 : scalarTy Try.prog 67 = true := by kernel_rfl
theorem ty_sl_111 : sliceTy Try.prog 111 103 1 = true := by kernel_rfl
theorem ty_sl_23 : sliceTy Try.prog 23 3 1 = true := by kernel_rfl
theorem ty_sl_59 : sliceTy Try.prog 59 60 1 = true := by kernel_rfl
theorem ty_sl_61 : sliceTy Try.prog 61 69 2 = true := by kernel_rfl
theorem ty_sl_67 : sliceTy Try.prog 67 5 1 = true := by kernel_rfl
theorem ty_sl_71 : sliceTy Try.prog 71 73 12 = true := by kernel_rfl
theorem ty_sz_111 : sizeTy Try.prog 111 1 = true := by kernel_rfl
theorem ty_sz_23 : sizeTy Try.prog 23 1 = true := by kernel_rfl
theorem ty_sz_3 : sizeTy Try.prog 3 1 = true := by kernel_rfl
theorem ty_sz_4 : sizeTy Try.prog 4 1 = true := by kernel_rfl
theorem ty_sz_41 : sizeTy Try.prog 41 5 = true := by kernel_rfl
theorem ty_sz_60 : sizeTy Try.prog 60 1 = true := by kernel_rfl
theorem ty_sz_61 : sizeTy Try.prog 61 1 = true := by kernel_rfl
theorem ty_sz_63 : sizeTy Try.prog 63 9 = true := by kernel_rfl
theorem ty_sz_67 : sizeTy Try.prog 67 1 = true := by kernel_rfl
theorem ty_sz_69 : sizeTy Try.prog 69 2 = true := by kernel_rfl
theorem ty_un_3 : (Try.prog.underlying 3).isSome = true := by kernel_rfl
theorem ty_un_5 : (Try.prog.underlying 5).isSome = true := by kernel_rfl
theorem ty_up_106 : Try.prog.underlying 106 = some .unsafePointer := by kernel_rfl
theorem ty_zd_110 : sizedTy Try.prog 110 = true := by kernel_rfl
theorem ty_zd_113 : sizedTy Try.prog 113 = true := by kernel_rfl
theorem ty_zd_41 : sizedTy Try.prog 41 = true := by kernel_rfl
theorem ty_zd_63 : sizedTy Try.prog 63 = true := by kernel_rfl
theorem ty_zd_69 : sizedTy Try.prog 69 = true := by kernel_rfl
theorem ty_zd_83 : sizedTy Try.prog 83 = true := by kernel_rfl
theorem ty_zd_85 : sizedTy Try.prog 85 = true := by kernel_rfl
set_option maxRecDepth 100000 in
theorem ty_zr_110 : zeroTy Try.prog 110 [.pointer none, .pointer none, .pointer none, .pointer none, .pointer none, .pointer none, .pointer none, .pointer none, .pointer none, .pointer none, .pointer none, .pointer none, .pointer none, .pointer none, .pointer none, .pointer none] := ⟨_, _, rfl, rfl, rfl⟩
set_option maxRecDepth 100000 in
theorem ty_zr_113 : zeroTy Try.prog 113 [.pointer none, .int .u64 0, .slice none 0 0, .int .i64 0] := ⟨_, _, rfl, rfl, rfl⟩
set_option maxRecDepth 100000 in
theorem ty_zr_41 : zeroTy Try.prog 41 [.int .i64 0, .int .i64 0, .int .i64 0, .int .i64 0, .int .i64 0] := ⟨_, _, rfl, rfl, rfl⟩
set_option maxRecDepth 100000 in
theorem ty_zr_63 : zeroTy Try.prog 63 [.int .u64 0, .slice none 0 0, .int .i64 0, .int .i64 0, .int .i64 0, .int .i64 0, .int .i64 0, .int .i64 0, .slice none 0 0] := ⟨_, _, rfl, rfl, rfl⟩
set_option maxRecDepth 100000 in
theorem ty_zr_69 : zeroTy Try.prog 69 [.bool false, .slice none 0 0] := ⟨_, _, rfl, rfl, rfl⟩
set_option maxRecDepth 100000 in
theorem ty_zr_83 : zeroTy Try.prog 83 [.int .i64 0, .int .i64 0, .int .i64 0, .int .i64 0, .int .i64 0] := ⟨_, _, rfl, rfl, rfl⟩
set_option maxRecDepth 100000 in
theorem ty_zr_85 : zeroTy Try.prog 85 [.int .i64 0, .pointer none] := ⟨_, _, rfl, rfl, rfl⟩
theorem Trymixed : Try.prog.follows .mixedOrders = true := by kernel_rfl
end Go.Hp
