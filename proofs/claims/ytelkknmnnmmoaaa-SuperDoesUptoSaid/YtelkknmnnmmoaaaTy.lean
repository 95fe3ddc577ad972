import Derived.Test.YtelkknmnnmmoaaaHpNum
import Derived.Test.YtelkknmnnmmoaaaProg
import Derived.KernelRfl
namespace Go.Hp
open Go Go.Proofs
theorem ty_ag_23 : aggTy Try.prog 23 5 = true := by kernel_rfl
theorem ty_ag_45 : aggTy Try.prog 45 9 = true := by kernel_rfl
theorem ty_ag_60 : aggTy Try.prog 60 64 = true := by kernel_rfl
theorem ty_ag_61 : aggTy Try.prog 61 64 = true := by kernel_rfl
theorem ty_ag_73 : aggTy Try.prog 73 65 = true := by kernel_rfl
theorem ty_ag_77 : aggTy Try.prog 77 2 = true := by kernel_rfl
theorem ty_ag_84 : aggTy Try.prog 84 16 = true := by kernel_rfl
theorem ty_ar_60 : arrTy Try.prog 60 64 5 1 = true := by kernel_rfl
theorem ty_ar_61 : arrTy Try.prog 61 64 5 1 = true := by kernel_rfl
theorem ty_ar_84 : arrTy Try.prog 84 16 64 1 = true := by kernel_rfl
set_option maxRecDepth 100000 in
theorem ty_el2_24 : ∃ i, Try.prog.info? 5 = some i ∧ i.zero = some (.int .u8 0) := ⟨_, rfl, rfl⟩
set_option maxRecDepth 100000 in
theorem ty_el2_56 : ∃ i, Try.prog.info? 24 = some i ∧ i.zero = some (.slice none 0 0) := ⟨_, rfl, rfl⟩
set_option maxRecDepth 100000 in
theorem ty_el2_57 : ∃ i, Try.prog.info? 77 = some i ∧ i.zero = some (.agg #[.int .i64 0, .slice none 0 0]) := ⟨_, rfl, rfl⟩
set_option maxRecDepth 100000 in
theorem ty_el2_68 : ∃ i, Try.prog.info? 73 = some i ∧ i.zero = some (.agg #[.int .i64 0, .int .u8 0, .int .u8 0, .int .u8 0, .int .u8 0, .int .u8 0, .int .u8 0, .int .u8 0, .int .u8 0, .int .u8 0, .int .u8 0, .int .u8 0, .int .u8 0, .int .u8 0, .int .u8 0, .int .u8 0, .int .u8 0, .int .u8 0, .int .u8 0, .int .u8 0, .int .u8 0, .int .u8 0, .int .u8 0, .int .u8 0, .int .u8 0, .int .u8 0, .int .u8 0, .int .u8 0, .int .u8 0, .int .u8 0, .int .u8 0, .int .u8 0, .int .u8 0, .int .u8 0, .int .u8 0, .int .u8 0, .int .u8 0, .int .u8 0, .int .u8 0, .int .u8 0, .int .u8 0, .int .u8 0, .int .u8 0, .int .u8 0, .int .u8 0, .int .u8 0, .int .u8 0, .int .u8 0, .int .u8 0, .int .u8 0, .int .u8 0, .int .u8 0, .int .u8 0, .int .u8 0, .int .u8 0, .int .u8 0, .int .u8 0, .int .u8 0, .int .u8 0, .int .u8 0, .int .u8 0, .int .u8 0, .int .u8 0, .int .u8 0, .int .u8 0]) := ⟨_, rfl, rfl⟩
set_option maxRecDepth 100000 in
theorem ty_el2_74 : ∃ i, Try.prog.info? 3 = some i ∧ i.zero = some (.int .i64 0) := ⟨_, rfl, rfl⟩
set_option maxRecDepth 100000 in
theorem ty_el_24 : ∃ i, Try.prog.info? 5 = some i ∧ i.zero = some (.int .u8 0) ∧ i.bytes = 1 := ⟨_, rfl, rfl, rfl⟩
set_option maxRecDepth 100000 in
theorem ty_el_43 : ∃ i, Try.prog.info? 75 = some i ∧ i.zero = some (.int .i64 0) ∧ i.bytes = 8 := ⟨_, rfl, rfl, rfl⟩
set_option maxRecDepth 100000 in
theorem ty_el_56 : ∃ i, Try.prog.info? 24 = some i ∧ i.zero = some (.slice none 0 0) ∧ i.bytes = 24 := ⟨_, rfl, rfl, rfl⟩
set_option maxRecDepth 100000 in
theorem ty_el_57 : ∃ i, Try.prog.info? 77 = some i ∧ i.zero = some (.agg #[.int .i64 0, .slice none 0 0]) ∧ i.bytes = 32 := ⟨_, rfl, rfl, rfl⟩
set_option maxRecDepth 100000 in
theorem ty_el_68 : ∃ i, Try.prog.info? 73 = some i ∧ i.zero = some (.agg #[.int .i64 0, .int .u8 0, .int .u8 0, .int .u8 0, .int .u8 0, .int .u8 0, .int .u8 0, .int .u8 0, .int .u8 0, .int .u8 0, .int .u8 0, .int .u8 0, .int .u8 0, .int .u8 0, .int .u8 0, .int .u8 0, .int .u8 0, .int .u8 0, .int .u8 0, .int .u8 0, .int .u8 0, .int .u8 0, .int .u8 0, .int .u8 0, .int .u8 0, .int .u8 0, .int .u8 0, .int .u8 0, .int .u8 0, .int .u8 0, .int .u8 0, .int .u8 0, .int .u8 0, .int .u8 0, .int .u8 0, .int .u8 0, .int .u8 0, .int .u8 0, .int .u8 0, .int .u8 0, .int .u8 0, .int .u8 0, .int .u8 0, .int .u8 0, .int .u8 0, .int .u8 0, .int .u8 0, .int .u8 0, .int .u8 0, .int .u8 0, .int .u8 0, .int .u8 0, .int .u8 0, .int .u8 0, .int .u8 0, .int .u8 0, .int .u8 0, .int .u8 0, .int .u8 0, .int .u8 0, .int .u8 0, .int .u8 0, .int .u8 0, .int .u8 0, .int .u8 0]) ∧ i.bytes = 72 := ⟨_, rfl, rfl, rfl⟩
theorem ty_fd_23_0 : fieldTy Try.prog 23 0 0 = true := by kernel_rfl
theorem ty_fd_23_1 : fieldTy Try.prog 23 1 1 = true := by kernel_rfl
theorem ty_fd_23_2 : fieldTy Try.prog 23 2 2 = true := by kernel_rfl
theorem ty_fd_23_3 : fieldTy Try.prog 23 3 3 = true := by kernel_rfl
theorem ty_fd_23_4 : fieldTy Try.prog 23 4 4 = true := by kernel_rfl
theorem ty_fd_45_0 : fieldTy Try.prog 45 0 0 = true := by kernel_rfl
theorem ty_fd_45_1 : fieldTy Try.prog 45 1 1 = true := by kernel_rfl
theorem ty_fd_45_2 : fieldTy Try.prog 45 2 2 = true := by kernel_rfl
theorem ty_fd_45_3 : fieldTy Try.prog 45 3 7 = true := by kernel_rfl
theorem ty_fd_45_4 : fieldTy Try.prog 45 4 8 = true := by kernel_rfl
theorem ty_fd_59_0 : fieldTy Try.prog 59 0 0 = true := by kernel_rfl
theorem ty_fd_59_1 : fieldTy Try.prog 59 1 1 = true := by kernel_rfl
theorem ty_fd_59_2 : fieldTy Try.prog 59 2 2 = true := by kernel_rfl
theorem ty_fd_59_3 : fieldTy Try.prog 59 3 3 = true := by kernel_rfl
theorem ty_fd_59_4 : fieldTy Try.prog 59 4 4 = true := by kernel_rfl
theorem ty_fd_59_5 : fieldTy Try.prog 59 5 5 = true := by kernel_rfl
theorem ty_fd_70_0 : fieldTy Try.prog 70 0 0 = true := by kernel_rfl
theorem ty_fd_70_1 : fieldTy Try.prog 70 1 1 = true := by kernel_rfl
theorem ty_fd_70_2 : fieldTy Try.prog 70 2 2 = true := by kernel_rfl
theorem ty_fd_70_3 : fieldTy Try.prog 70 3 3 = true := by kernel_rfl
theorem ty_fd_70_4 : fieldTy Try.prog 70 4 4 = true := by kernel_rfl
theorem ty_fd_70_5 : fieldTy Try.prog 70 5 5 = true := by kernel_rfl
theorem ty_fd_70_6 : fieldTy Try.prog 70 6 6 = true := by kernel_rfl
theorem ty_fd_73_0 : fieldTy Try.prog 73 0 0 = true := by kernel_rfl
theorem ty_fd_73_1 : fieldTy Try.prog 73 1 1 = true := by kernel_rfl
theorem ty_fd_77_0 : fieldTy Try.prog 77 0 0 = true := by kernel_rfl
theorem ty_fd_77_1 : fieldTy Try.prog 77 1 1 = true := by kernel_rfl
theorem ty_ik_3 : Try.prog.underlying 3 = some (.int .i64) := by kernel_rfl
theorem ty_ik_5 : Try.prog.underlying 5 = some (.int .u8) := by kernel_rfl
theorem ty_ik_64 : Try.prog.underlying 64 = some (.int .u32) := by kernel_rfl
theorem ty_pt_32 : Try.prog.underlying 32 = some (.pointer (Try.prog.pointee 32)) := by kernel_rfl
theorem ty_sc_24 : scalarTy Try.prog 24 = true := by kernel_rfl
theorem ty_sc_3 : scalarTy Try.prog 3 = true := by kernel_rfl
theorem ty_sc_4 : scalarTy Try.prog 4 = true := by kernel_rfl
theorem ty_sc_43 : scalarTy Try.prog 43 = true := by kernel_rfl
theorem ty_sc_5 : scalarTy Try.prog 5 = true := by kernel_rfl
theorem ty_sc_56 : scalarTy Try.prog 56 = true := by kernel_rfl
theorem ty_sc_57 : scalarTy Try.prog 57 = true := by kernel_rfl
theorem ty_sc_64 : scalarTy Try.prog 64 = true := by kernel_rfl
theorem ty_sc_68 : scalarTy Try.prog 68 = true := by kernel_rfl
theorem ty_sc_75 : scalarTy Try.prog 75 = true := by kernel_rfl
theorem ty_sl_24 : sliceTy Try.prog 24 5 1 = true := by kernel_rfl
theorem ty_sl_42 : sliceTy Try.prog 42 45 9 = true := by kernel_rfl
theorem ty_sl_43 : sliceTy Try.prog 43 75 1 = true := by kernel_rfl
theorem ty_sl_56 : sliceTy Try.prog 56 24 1 = true := by kernel_rfl
theorem ty_sl_57 : sliceTy Try.prog 57 77 2 = true := by kernel_rfl
theorem ty_sl_68 : sliceTy Try.prog 68 73 65 = true := by kernel_rfl
theorem ty_sl_74 : sliceTy Try.prog 74 3 1 = true := by kernel_rfl
theorem ty_sz_23 : sizeTy Try.prog 23 5 = true := by kernel_rfl
theorem ty_sz_24 : sizeTy Try.prog 24 1 = true := by kernel_rfl
theorem ty_sz_3 : sizeTy Try.prog 3 1 = true := by kernel_rfl
theorem ty_sz_4 : sizeTy Try.prog 4 1 = true := by kernel_rfl
theorem ty_sz_45 : sizeTy Try.prog 45 9 = true := by kernel_rfl
theorem ty_sz_5 : sizeTy Try.prog 5 1 = true := by kernel_rfl
theorem ty_sz_56 : sizeTy Try.prog 56 1 = true := by kernel_rfl
theorem ty_sz_57 : sizeTy Try.prog 57 1 = true := by kernel_rfl
theorem ty_sz_61 : sizeTy Try.prog 61 64 = true := by kernel_rfl
theorem ty_sz_64 : sizeTy Try.prog 64 1 = true := by kernel_rfl
theorem ty_sz_68 : sizeTy Try.prog 68 1 = true := by kernel_rfl
theorem ty_sz_73 : sizeTy Try.prog 73 65 = true := by kernel_rfl
theorem ty_sz_77 : sizeTy Try.prog 77 2 = true := by kernel_rfl
theorem ty_sz_84 : sizeTy Try.prog 84 16 = true := by kernel_rfl
theorem ty_un_3 : (Try.prog.underlying 3).isSome = true := by kernel_rfl
theorem ty_un_5 : (Try.prog.underlying 5).isSome = true := by kernel_rfl
theorem ty_un_64 : (Try.prog.underlying 64).isSome = true := by kernel_rfl
theorem ty_zd_23 : sizedTy Try.prog 23 = true := by kernel_rfl
theorem ty_zd_59 : sizedTy Try.prog 59 = true := by kernel_rfl
theorem ty_zd_70 : sizedTy Try.prog 70 = true := by kernel_rfl
theorem ty_zd_73 : sizedTy Try.prog 73 = true := by kernel_rfl
theorem ty_zd_77 : sizedTy Try.prog 77 = true := by kernel_rfl
set_option maxRecDepth 100000 in
theorem ty_zr_23 : zeroTy Try.prog 23 [.int .i64 0, .int .i64 0, .int .i64 0, .int .i64 0, .int .i64 0] := ⟨_, _, rfl, rfl, rfl⟩
set_option maxRecDepth 100000 in
theorem ty_zr_45 : zeroTy Try.prog 45 [.int .i64 0, .int .i64 0, .int .i64 0, .int .i64 0, .int .i64 0, .int .i64 0, .int .i64 0, .slice none 0 0, .slice none 0 0] := ⟨_, _, rfl, rfl, rfl⟩
set_option maxRecDepth 100000 in
theorem ty_zr_59 : zeroTy Try.prog 59 [.slice none 0 0, .slice none 0 0, .int .i64 0, .bool false, .int .i64 0, .int .i64 0] := ⟨_, _, rfl, rfl, rfl⟩
set_option maxRecDepth 100000 in
theorem ty_zr_70 : zeroTy Try.prog 70 [.slice none 0 0, .slice none 0 0, .slice none 0 0, .int .i64 0, .bool false, .int .i64 0, .int .i64 0] := ⟨_, _, rfl, rfl, rfl⟩
set_option maxRecDepth 100000 in
theorem ty_zr_73 : zeroTy Try.prog 73 [.int .i64 0, .int .u8 0, .int .u8 0, .int .u8 0, .int .u8 0, .int .u8 0, .int .u8 0, .int .u8 0, .int .u8 0, .int .u8 0, .int .u8 0, .int .u8 0, .int .u8 0, .int .u8 0, .int .u8 0, .int .u8 0, .int .u8 0, .int .u8 0, .int .u8 0, .int .u8 0, .int .u8 0, .int .u8 0, .int .u8 0, .int .u8 0, .int .u8 0, .int .u8 0, .int .u8 0, .int .u8 0, .int .u8 0, .int .u8 0, .int .u8 0, .int .u8 0, .int .u8 0, .int .u8 0, .int .u8 0, .int .u8 0, .int .u8 0, .int .u8 0, .int .u8 0, .int .u8 0, .int .u8 0, .int .u8 0, .int .u8 0, .int .u8 0, .int .u8 0, .int .u8 0, .int .u8 0, .int .u8 0, .int .u8 0, .int .u8 0, .int .u8 0, .int .u8 0, .int .u8 0, .int .u8 0, .int .u8 0, .int .u8 0, .int .u8 0, .int .u8 0, .int .u8 0, .int .u8 0, .int .u8 0, .int .u8 0, .int .u8 0, .int .u8 0, .int .u8 0] := ⟨_, _, rfl, rfl, rfl⟩
set_option maxRecDepth 100000 in
theorem ty_zr_77 : zeroTy Try.prog 77 [.int .i64 0, .slice none 0 0] := ⟨_, _, rfl, rfl, rfl⟩
set_option maxRecDepth 100000 in
theorem ty_zr_84 : zeroTy Try.prog 84 [.int .u32 0, .int .u32 0, .int .u32 0, .int .u32 0, .int .u32 0, .int .u32 0, .int .u32 0, .int .u32 0, .int .u32 0, .int .u32 0, .int .u32 0, .int .u32 0, .int .u32 0, .int .u32 0, .int .u32 0, .int .u32 0] := ⟨_, _, rfl, rfl, rfl⟩
theorem Trymixed : Try.prog.follows .mixedOrders = true := by kernel_rfl
end Go.Hp
