import Derived.Test.YtoplcafnmghifaaHpLoud
import Derived.Test.YtoplcafnmghifaaProg
import Derived.KernelRfl
namespace Go.Hp
open Go Go.Proofs
theorem ty_ag_31 : aggTy Try.prog 31 5 = true := by kernel_rfl
theorem ty_ag_37 : aggTy Try.prog 37 4 = true := by kernel_rfl
theorem ty_ar_42 : arrTy Try.prog 42 4 3 1 = true := by kernel_rfl
theorem ty_el2_35 : ∃ i, Try.prog.info? 26 = some i ∧ i.zero = some (.pointer none) := ⟨_, rfl, rfl⟩
theorem ty_el_22 : ∃ i, Try.prog.info? 3 = some i ∧ i.zero = some (.int .i64 0) ∧ i.bytes = 8 := ⟨_, rfl, rfl, rfl⟩
theorem ty_el_35 : ∃ i, Try.prog.info? 26 = some i ∧ i.zero = some (.pointer none) ∧ i.bytes = 8 := ⟨_, rfl, rfl, rfl⟩
theorem ty_fd_31_0 : fieldTy Try.prog 31 0 0 = true := by kernel_rfl
theorem ty_fd_31_1 : fieldTy Try.prog 31 1 1 = true := by kernel_rfl
theorem ty_fd_31_2 : fieldTy Try.prog 31 2 2 = true := by kernel_rfl
theorem ty_fd_31_3 : fieldTy Try.prog 31 3 3 = true := by kernel_rfl
theorem ty_fd_31_4 : fieldTy Try.prog 31 4 4 = true := by kernel_rfl
theorem ty_fd_37_0 : fieldTy Try.prog 37 0 0 = true := by kernel_rfl
theorem ty_fd_37_1 : fieldTy Try.prog 37 1 1 = true := by kernel_rfl
theorem ty_fd_37_2 : fieldTy Try.prog 37 2 2 = true := by kernel_rfl
theorem ty_fd_37_3 : fieldTy Try.prog 37 3 3 = true := by kernel_rfl
theorem ty_fd_79_2 : fieldTy Try.prog 79 2 0 = true := by kernel_rfl
theorem ty_fd_81_0 : fieldTy Try.prog 81 0 0 = true := by kernel_rfl
theorem ty_fd_81_1 : fieldTy Try.prog 81 1 1 = true := by kernel_rfl
theorem ty_fd_81_2 : fieldTy Try.prog 81 2 2 = true := by kernel_rfl
theorem ty_fd_81_3 : fieldTy Try.prog 81 3 3 = true := by kernel_rfl
theorem ty_fd_81_4 : fieldTy Try.prog 81 4 4 = true := by kernel_rfl
theorem ty_fd_83_0 : fieldTy Try.prog 83 0 0 = true := by kernel_rfl
theorem ty_fd_83_1 : fieldTy Try.prog 83 1 1 = true := by kernel_rfl
theorem ty_pt_24 : Try.prog.underlying 24 = some (.pointer (Try.prog.pointee 24)) := by kernel_rfl
theorem ty_pt_26 : Try.prog.underlying 26 = some (.pointer (Try.prog.pointee 26)) := by kernel_rfl
theorem ty_sc_24 : scalarTy Try.prog 24 = true := by kernel_rfl
theorem ty_sc_26 : scalarTy Try.prog 26 = true := by kernel_rfl
theorem ty_sc_3 : scalarTy Try.prog 3 = true := by kernel_rfl
theorem ty_sl_22 : sliceTy Try.prog 22 3 1 = true := by kernel_rfl
theorem ty_sl_34 : sliceTy Try.prog 34 37 4 = true := by kernel_rfl
theorem ty_sl_35 : sliceTy Try.prog 35 26 1 = true := by kernel_rfl
theorem ty_sz_3 : sizeTy Try.prog 3 1 = true := by kernel_rfl
theorem ty_sz_31 : sizeTy Try.prog 31 5 = true := by kernel_rfl
theorem ty_zd_31 : sizedTy Try.prog 31 = true := by kernel_rfl
theorem ty_zd_81 : sizedTy Try.prog 81 = true := by kernel_rfl
theorem ty_zd_83 : sizedTy Try.prog 83 = true := by kernel_rfl
theorem ty_zr_31 : zeroTy Try.prog 31 [.int .i64 0, .int .i64 0, .int .i64 0, .int .i64 0, .int .i64 0] := ⟨_, _, rfl, rfl, rfl⟩
theorem ty_zr_42 : zeroTy Try.prog 42 [.int .i64 0, .int .i64 0, .int .i64 0, .int .i64 0] := ⟨_, _, rfl, rfl, rfl⟩
theorem ty_zr_81 : zeroTy Try.prog 81 [.int .i64 0, .int .i64 0, .int .i64 0, .int .i64 0, .int .i64 0] := ⟨_, _, rfl, rfl, rfl⟩
theorem ty_zr_83 : zeroTy Try.prog 83 [.int .i64 0, .pointer none] := ⟨_, _, rfl, rfl, rfl⟩
theorem Trymixed : Try.prog.follows .mixedOrders = true := by kernel_rfl
end Go.Hp
