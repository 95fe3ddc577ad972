import Derived.Test.YtdobkjbpehdokaaHpFlat
import Derived.Test.YtdobkjbpehdokaaProg
import Derived.KernelRfl
namespace Go.Hp
open Go Go.Proofs
theorem ty_ag_41 : aggTy Try.prog 41 5 = true := by kernel_rfl
theorem ty_cc_93 : Try.prog.concrete 93 = true := by kernel_rfl
set_option maxRecDepth 100000 in
theorem ty_el2_23 : ∃ i, Try.prog.info? 3 = some i ∧ i.zero = some (.int .i64 0) := ⟨_, rfl, rfl⟩
set_option maxRecDepth 100000 in
theorem ty_el2_44 : ∃ i, Try.prog.info? 46 = some i ∧ i.zero = some (.agg #[.int .i64 0, .int .i64 0, .bool false, .bool false, .int .i64 0, .bool false, .int .i64 0]) := ⟨_, rfl, rfl⟩
set_option maxRecDepth 100000 in
theorem ty_el2_87 : ∃ i, Try.prog.info? 90 = some i ∧ i.zero = some (.pointer none) := ⟨_, rfl, rfl⟩
set_option maxRecDepth 100000 in
theorem ty_el_23 : ∃ i, Try.prog.info? 3 = some i ∧ i.zero = some (.int .i64 0) ∧ i.bytes = 8 := ⟨_, rfl, rfl, rfl⟩
set_option maxRecDepth 100000 in
theorem ty_el_44 : ∃ i, Try.prog.info? 46 = some i ∧ i.zero = some (.agg #[.int .i64 0, .int .i64 0, .bool false, .bool false, .int .i64 0, .bool false, .int .i64 0]) ∧ i.bytes = 48 := ⟨_, rfl, rfl, rfl⟩
set_option maxRecDepth 100000 in
theorem ty_el_87 : ∃ i, Try.prog.info? 90 = some i ∧ i.zero = some (.pointer none) ∧ i.bytes = 8 := ⟨_, rfl, rfl, rfl⟩
theorem ty_fd_36_0 : fieldTy Try.prog 36 0 0 = true := by kernel_rfl
theorem ty_fd_36_1 : fieldTy Try.prog 36 1 1 = true := by kernel_rfl
theorem ty_fd_36_2 : fieldTy Try.prog 36 2 2 = true := by kernel_rfl
theorem ty_fd_41_1 : fieldTy Try.prog 41 1 1 = true := by kernel_rfl
theorem ty_fd_41_2 : fieldTy Try.prog 41 2 2 = true := by kernel_rfl
theorem ty_fd_46_0 : fieldTy Try.prog 46 0 0 = true := by kernel_rfl
theorem ty_fd_46_1 : fieldTy Try.prog 46 1 1 = true := by kernel_rfl
theorem ty_fd_46_2 : fieldTy Try.prog 46 2 2 = true := by kernel_rfl
theorem ty_fd_46_3 : fieldTy Try.prog 46 3 3 = true := by kernel_rfl
theorem ty_fd_46_4 : fieldTy Try.prog 46 4 4 = true := by kernel_rfl
theorem ty_fd_46_5 : fieldTy Try.prog 46 5 5 = true := by kernel_rfl
theorem ty_fd_46_6 : fieldTy Try.prog 46 6 6 = true := by kernel_rfl
theorem ty_fd_81_2 : fieldTy Try.prog 81 2 0 = true := by kernel_rfl
theorem ty_fd_83_0 : fieldTy Try.prog 83 0 0 = true := by kernel_rfl
theorem ty_fd_83_1 : fieldTy Try.prog 83 1 1 = true := by kernel_rfl
theorem ty_fd_83_2 : fieldTy Try.prog 83 2 2 = true := by kernel_rfl
theorem ty_fd_83_3 : fieldTy Try.prog 83 3 3 = true := by kernel_rfl
theorem ty_fd_83_4 : fieldTy Try.prog 83 4 4 = true := by kernel_rfl
theorem ty_fd_85_0 : fieldTy Try.prog 85 0 0 = true := by kernel_rfl
theorem ty_fd_85_1 : fieldTy Try.prog 85 1 1 = true := by kernel_rfl
theorem ty_fd_89_0 : fieldTy Try.prog 89 0 0 = true := by kernel_rfl
theorem ty_fd_92_0 : fieldTy Try.prog 92 0 0 = true := by kernel_rfl
theorem ty_fd_92_1 : fieldTy Try.prog 92 1 1 = true := by kernel_rfl
theorem ty_fd_92_2 : fieldTy Try.prog 92 2 2 = true := by kernel_rfl
theorem ty_fd_95_0 : fieldTy Try.prog 95 0 0 = true := by kernel_rfl
theorem ty_fd_95_1 : fieldTy Try.prog 95 1 1 = true := by kernel_rfl
theorem ty_fd_95_3 : fieldTy Try.prog 95 3 3 = true := by kernel_rfl
theorem ty_fd_95_4 : fieldTy Try.prog 95 4 4 = true := by kernel_rfl
theorem ty_fd_95_5 : fieldTy Try.prog 95 5 5 = true := by kernel_rfl
theorem ty_fl_41_2 : fldTy Try.prog 41 2 3 2 = true := by kernel_rfl
theorem ty_mt_93_Step_77 : methTy Try.prog 93 "Step" 77 = true := by kernel_rfl
theorem ty_pt_25 : Try.prog.underlying 25 = some (.pointer (Try.prog.pointee 25)) := by kernel_rfl
theorem ty_pt_27 : Try.prog.underlying 27 = some (.pointer (Try.prog.pointee 27)) := by kernel_rfl
theorem ty_pt_29 : Try.prog.underlying 29 = some (.pointer (Try.prog.pointee 29)) := by kernel_rfl
theorem ty_sc_25 : scalarTy Try.prog 25 = true := by kernel_rfl
theorem ty_sc_27 : scalarTy Try.prog 27 = true := by kernel_rfl
theorem ty_sc_3 : scalarTy Try.prog 3 = true := by kernel_rfl
theorem ty_sc_33 : scalarTy Try.prog 33 = true := by kernel_rfl
theorem ty_sc_4 : scalarTy Try.prog 4 = true := by kernel_rfl
theorem ty_sc_53 : scalarTy Try.prog 53 = true := by kernel_rfl
theorem ty_sc_87 : scalarTy Try.prog 87 = true := by kernel_rfl
theorem ty_sc_90 : scalarTy Try.prog 90 = true := by kernel_rfl
theorem ty_sl_22 : sliceTy Try.prog 22 36 3 = true := by kernel_rfl
theorem ty_sl_23 : sliceTy Try.prog 23 3 1 = true := by kernel_rfl
theorem ty_sl_44 : sliceTy Try.prog 44 46 7 = true := by kernel_rfl
theorem ty_sl_87 : sliceTy Try.prog 87 90 1 = true := by kernel_rfl
theorem ty_sz_3 : sizeTy Try.prog 3 1 = true := by kernel_rfl
theorem ty_sz_4 : sizeTy Try.prog 4 1 = true := by kernel_rfl
theorem ty_sz_41 : sizeTy Try.prog 41 5 = true := by kernel_rfl
theorem ty_sz_53 : sizeTy Try.prog 53 1 = true := by kernel_rfl
theorem ty_sz_87 : sizeTy Try.prog 87 1 = true := by kernel_rfl
theorem ty_zd_41 : sizedTy Try.prog 41 = true := by kernel_rfl
theorem ty_zd_46 : sizedTy Try.prog 46 = true := by kernel_rfl
theorem ty_zd_83 : sizedTy Try.prog 83 = true := by kernel_rfl
theorem ty_zd_85 : sizedTy Try.prog 85 = true := by kernel_rfl
theorem ty_zd_89 : sizedTy Try.prog 89 = true := by kernel_rfl
theorem ty_zd_92 : sizedTy Try.prog 92 = true := by kernel_rfl
theorem ty_zd_95 : sizedTy Try.prog 95 = true := by kernel_rfl
set_option maxRecDepth 100000 in
theorem ty_zr_41 : zeroTy Try.prog 41 [.int .i64 0, .int .i64 0, .int .i64 0, .int .i64 0, .int .i64 0] := ⟨_, _, rfl, rfl, rfl⟩
set_option maxRecDepth 100000 in
theorem ty_zr_46 : zeroTy Try.prog 46 [.int .i64 0, .int .i64 0, .bool false, .bool false, .int .i64 0, .bool false, .int .i64 0] := ⟨_, _, rfl, rfl, rfl⟩
set_option maxRecDepth 100000 in
theorem ty_zr_83 : zeroTy Try.prog 83 [.int .i64 0, .int .i64 0, .int .i64 0, .int .i64 0, .int .i64 0] := ⟨_, _, rfl, rfl, rfl⟩
set_option maxRecDepth 100000 in
theorem ty_zr_85 : zeroTy Try.prog 85 [.int .i64 0, .pointer none] := ⟨_, _, rfl, rfl, rfl⟩
set_option maxRecDepth 100000 in
theorem ty_zr_89 : zeroTy Try.prog 89 [.slice none 0 0] := ⟨_, _, rfl, rfl, rfl⟩
set_option maxRecDepth 100000 in
theorem ty_zr_92 : zeroTy Try.prog 92 [.nilIface, .bool false, .int .i64 0] := ⟨_, _, rfl, rfl, rfl⟩
set_option maxRecDepth 100000 in
theorem ty_zr_95 : zeroTy Try.prog 95 [.pointer none, .int .i64 0, .int .i64 0, .int .i64 0, .bool false, .nilFunc] := ⟨_, _, rfl, rfl, rfl⟩
theorem Trymixed : Try.prog.follows .mixedOrders = true := by kernel_rfl
end Go.Hp
