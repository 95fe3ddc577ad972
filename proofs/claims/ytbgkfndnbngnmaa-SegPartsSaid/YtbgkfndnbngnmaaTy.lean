import Derived.Test.YtbgkfndnbngnmaaHpNum
import Derived.Test.YtbgkfndnbngnmaaProg
import Derived.KernelRfl
namespace Go.Hp
open Go Go.Proofs
theorem ty_ag_35 : aggTy Try.prog 35 6 = true := by kernel_rfl
theorem ty_ag_62 : aggTy Try.prog 62 64 = true := by kernel_rfl
theorem ty_ag_80 : aggTy Try.prog 80 65 = true := by kernel_rfl
theorem ty_ag_82 : aggTy Try.prog 82 16 = true := by kernel_rfl
theorem ty_ar_62 : arrTy Try.prog 62 64 5 1 = true := by kernel_rfl
theorem ty_ar_82 : arrTy Try.prog 82 16 60 1 = true := by kernel_rfl
set_option maxRecDepth 100000 in
theorem ty_el2_22 : ∃ i, Try.prog.info? 5 = some i ∧ i.zero = some (.int .u8 0) := ⟨_, rfl, rfl⟩
set_option maxRecDepth 100000 in
theorem ty_el2_23 : ∃ i, Try.prog.info? 35 = some i ∧ i.zero = some (.agg #[.int .i64 0, .int .i64 0, .int .i64 0, .int .i64 0, .int .i64 0, .slice none 0 0]) := ⟨_, rfl, rfl⟩
set_option maxRecDepth 100000 in
theorem ty_el2_67 : ∃ i, Try.prog.info? 80 = some i ∧ i.zero = some (.agg #[.int .i64 0, .int .u8 0, .int .u8 0, .int .u8 0, .int .u8 0, .int .u8 0, .int .u8 0, .int .u8 0, .int .u8 0, .int .u8 0, .int .u8 0, .int .u8 0, .int .u8 0, .int .u8 0, .int .u8 0, .int .u8 0, .int .u8 0, .int .u8 0, .int .u8 0, .int .u8 0, .int .u8 0, .int .u8 0, .int .u8 0, .int .u8 0, .int .u8 0, .int .u8 0, .int .u8 0, .int .u8 0, .int .u8 0, .int .u8 0, .int .u8 0, .int .u8 0, .int .u8 0, .int .u8 0, .int .u8 0, .int .u8 0, .int .u8 0, .int .u8 0, .int .u8 0, .int .u8 0, .int .u8 0, .int .u8 0, .int .u8 0, .int .u8 0, .int .u8 0, .int .u8 0, .int .u8 0, .int .u8 0, .int .u8 0, .int .u8 0, .int .u8 0, .int .u8 0, .int .u8 0, .int .u8 0, .int .u8 0, .int .u8 0, .int .u8 0, .int .u8 0, .int .u8 0, .int .u8 0, .int .u8 0, .int .u8 0, .int .u8 0, .int .u8 0, .int .u8 0]) := ⟨_, rfl, rfl⟩
set_option maxRecDepth 100000 in
theorem ty_el2_75 : ∃ i, Try.prog.info? 22 = some i ∧ i.zero = some (.slice none 0 0) := ⟨_, rfl, rfl⟩
set_option maxRecDepth 100000 in
theorem ty_el_22 : ∃ i, Try.prog.info? 5 = some i ∧ i.zero = some (.int .u8 0) ∧ i.bytes = 1 := ⟨_, rfl, rfl, rfl⟩
set_option maxRecDepth 100000 in
theorem ty_el_23 : ∃ i, Try.prog.info? 35 = some i ∧ i.zero = some (.agg #[.int .i64 0, .int .i64 0, .int .i64 0, .int .i64 0, .int .i64 0, .slice none 0 0]) ∧ i.bytes = 64 := ⟨_, rfl, rfl, rfl⟩
set_option maxRecDepth 100000 in
theorem ty_el_67 : ∃ i, Try.prog.info? 80 = some i ∧ i.zero = some (.agg #[.int .i64 0, .int .u8 0, .int .u8 0, .int .u8 0, .int .u8 0, .int .u8 0, .int .u8 0, .int .u8 0, .int .u8 0, .int .u8 0, .int .u8 0, .int .u8 0, .int .u8 0, .int .u8 0, .int .u8 0, .int .u8 0, .int .u8 0, .int .u8 0, .int .u8 0, .int .u8 0, .int .u8 0, .int .u8 0, .int .u8 0, .int .u8 0, .int .u8 0, .int .u8 0, .int .u8 0, .int .u8 0, .int .u8 0, .int .u8 0, .int .u8 0, .int .u8 0, .int .u8 0, .int .u8 0, .int .u8 0, .int .u8 0, .int .u8 0, .int .u8 0, .int .u8 0, .int .u8 0, .int .u8 0, .int .u8 0, .int .u8 0, .int .u8 0, .int .u8 0, .int .u8 0, .int .u8 0, .int .u8 0, .int .u8 0, .int .u8 0, .int .u8 0, .int .u8 0, .int .u8 0, .int .u8 0, .int .u8 0, .int .u8 0, .int .u8 0, .int .u8 0, .int .u8 0, .int .u8 0, .int .u8 0, .int .u8 0, .int .u8 0, .int .u8 0, .int .u8 0]) ∧ i.bytes = 72 := ⟨_, rfl, rfl, rfl⟩
theorem ty_fd_35_0 : fieldTy Try.prog 35 0 0 = true := by kernel_rfl
theorem ty_fd_35_1 : fieldTy Try.prog 35 1 1 = true := by kernel_rfl
theorem ty_fd_35_2 : fieldTy Try.prog 35 2 2 = true := by kernel_rfl
theorem ty_fd_35_3 : fieldTy Try.prog 35 3 3 = true := by kernel_rfl
theorem ty_fd_35_4 : fieldTy Try.prog 35 4 4 = true := by kernel_rfl
theorem ty_fd_35_5 : fieldTy Try.prog 35 5 5 = true := by kernel_rfl
theorem ty_fd_69_0 : fieldTy Try.prog 69 0 0 = true := by kernel_rfl
theorem ty_fd_69_1 : fieldTy Try.prog 69 1 1 = true := by kernel_rfl
theorem ty_fd_69_2 : fieldTy Try.prog 69 2 2 = true := by kernel_rfl
theorem ty_fd_69_3 : fieldTy Try.prog 69 3 3 = true := by kernel_rfl
theorem ty_fd_69_4 : fieldTy Try.prog 69 4 4 = true := by kernel_rfl
theorem ty_fd_69_5 : fieldTy Try.prog 69 5 5 = true := by kernel_rfl
theorem ty_fd_71_0 : fieldTy Try.prog 71 0 0 = true := by kernel_rfl
theorem ty_fd_71_1 : fieldTy Try.prog 71 1 1 = true := by kernel_rfl
theorem ty_fd_71_2 : fieldTy Try.prog 71 2 2 = true := by kernel_rfl
theorem ty_fd_71_3 : fieldTy Try.prog 71 3 3 = true := by kernel_rfl
theorem ty_fd_80_1 : fieldTy Try.prog 80 1 1 = true := by kernel_rfl
theorem ty_ik_3 : Try.prog.underlying 3 = some (.int .i64) := by kernel_rfl
theorem ty_ik_5 : Try.prog.underlying 5 = some (.int .u8) := by kernel_rfl
theorem ty_ik_60 : Try.prog.underlying 60 = some (.int .u32) := by kernel_rfl
theorem ty_pt_41 : Try.prog.underlying 41 = some (.pointer (Try.prog.pointee 41)) := by kernel_rfl
theorem ty_pt_44 : Try.prog.underlying 44 = some (.pointer (Try.prog.pointee 44)) := by kernel_rfl
theorem ty_sc_22 : scalarTy Try.prog 22 = true := by kernel_rfl
theorem ty_sc_3 : scalarTy Try.prog 3 = true := by kernel_rfl
theorem ty_sc_4 : scalarTy Try.prog 4 = true := by kernel_rfl
theorem ty_sc_41 : scalarTy Try.prog 41 = true := by kernel_rfl
theorem ty_sc_5 : scalarTy Try.prog 5 = true := by kernel_rfl
theorem ty_sc_60 : scalarTy Try.prog 60 = true := by kernel_rfl
theorem ty_sc_67 : scalarTy Try.prog 67 = true := by kernel_rfl
theorem ty_sl_22 : sliceTy Try.prog 22 5 1 = true := by kernel_rfl
theorem ty_sl_23 : sliceTy Try.prog 23 35 6 = true := by kernel_rfl
theorem ty_sl_67 : sliceTy Try.prog 67 80 65 = true := by kernel_rfl
theorem ty_sl_75 : sliceTy Try.prog 75 22 1 = true := by kernel_rfl
theorem ty_sz_3 : sizeTy Try.prog 3 1 = true := by kernel_rfl
theorem ty_sz_35 : sizeTy Try.prog 35 6 = true := by kernel_rfl
theorem ty_sz_4 : sizeTy Try.prog 4 1 = true := by kernel_rfl
theorem ty_sz_5 : sizeTy Try.prog 5 1 = true := by kernel_rfl
theorem ty_sz_60 : sizeTy Try.prog 60 1 = true := by kernel_rfl
theorem ty_sz_67 : sizeTy Try.prog 67 1 = true := by kernel_rfl
theorem ty_sz_80 : sizeTy Try.prog 80 65 = true := by kernel_rfl
theorem ty_sz_82 : sizeTy Try.prog 82 16 = true := by kernel_rfl
theorem ty_un_3 : (Try.prog.underlying 3).isSome = true := by kernel_rfl
theorem ty_un_5 : (Try.prog.underlying 5).isSome = true := by kernel_rfl
theorem ty_un_60 : (Try.prog.underlying 60).isSome = true := by kernel_rfl
theorem ty_zd_35 : sizedTy Try.prog 35 = true := by kernel_rfl
theorem ty_zd_69 : sizedTy Try.prog 69 = true := by kernel_rfl
theorem ty_zd_71 : sizedTy Try.prog 71 = true := by kernel_rfl
theorem ty_zd_80 : sizedTy Try.prog 80 = true := by kernel_rfl
set_option maxRecDepth 100000 in
theorem ty_zr_35 : zeroTy Try.prog 35 [.int .i64 0, .int .i64 0, .int .i64 0, .int .i64 0, .int .i64 0, .slice none 0 0] := ⟨_, _, rfl, rfl, rfl⟩
set_option maxRecDepth 100000 in
theorem ty_zr_69 : zeroTy Try.prog 69 [.slice none 0 0, .slice none 0 0, .slice none 0 0, .int .i64 0, .bool false, .int .i64 0, .int .i64 0] := ⟨_, _, rfl, rfl, rfl⟩
set_option maxRecDepth 100000 in
theorem ty_zr_71 : zeroTy Try.prog 71 [.pointer none, .int .i64 0, .int .i64 0, .int .i64 0] := ⟨_, _, rfl, rfl, rfl⟩
set_option maxRecDepth 100000 in
theorem ty_zr_80 : zeroTy Try.prog 80 [.int .i64 0, .int .u8 0, .int .u8 0, .int .u8 0, .int .u8 0, .int .u8 0, .int .u8 0, .int .u8 0, .int .u8 0, .int .u8 0, .int .u8 0, .int .u8 0, .int .u8 0, .int .u8 0, .int .u8 0, .int .u8 0, .int .u8 0, .int .u8 0, .int .u8 0, .int .u8 0, .int .u8 0, .int .u8 0, .int .u8 0, .int .u8 0, .int .u8 0, .int .u8 0, .int .u8 0, .int .u8 0, .int .u8 0, .int .u8 0, .int .u8 0, .int .u8 0, .int .u8 0, .int .u8 0, .int .u8 0, .int .u8 0, .int .u8 0, .int .u8 0, .int .u8 0, .int .u8 0, .int .u8 0, .int .u8 0, .int .u8 0, .int .u8 0, .int .u8 0, .int .u8 0, .int .u8 0, .int .u8 0, .int .u8 0, .int .u8 0, .int .u8 0, .int .u8 0, .int .u8 0, .int .u8 0, .int .u8 0, .int .u8 0, .int .u8 0, .int .u8 0, .int .u8 0, .int .u8 0, .int .u8 0, .int .u8 0, .int .u8 0, .int .u8 0, .int .u8 0] := ⟨_, _, rfl, rfl, rfl⟩
set_option maxRecDepth 100000 in
theorem ty_zr_82 : zeroTy Try.prog 82 [.int .u32 0, .int .u32 0, .int .u32 0, .int .u32 0, .int .u32 0, .int .u32 0, .int .u32 0, .int .u32 0, .int .u32 0, .int .u32 0, .int .u32 0, .int .u32 0, .int .u32 0, .int .u32 0, .int .u32 0, .int .u32 0] := ⟨_, _, rfl, rfl, rfl⟩
theorem Trymixed : Try.prog.follows .mixedOrders = true := by kernel_rfl
end Go.Hp
