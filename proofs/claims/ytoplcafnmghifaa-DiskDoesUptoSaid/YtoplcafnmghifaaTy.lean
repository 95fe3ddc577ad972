import Derived.Test.YtoplcafnmghifaaHpLoud
import Derived.Test.YtoplcafnmghifaaProg
import Derived.KernelRfl
namespace Go.Hp
open Go Go.Proofs
theorem ty_ag_53 : aggTy Try.prog 53 5 = true := by kernel_rfl
theorem ty_ag_91 : aggTy Try.prog 91 64 = true := by kernel_rfl
theorem ty_ag_93 : aggTy Try.prog 93 65 = true := by kernel_rfl
theorem ty_ag_95 : aggTy Try.prog 95 2 = true := by kernel_rfl
theorem ty_ar_91 : arrTy Try.prog 91 64 5 1 = true := by kernel_rfl
theorem ty_el2_44 : ∃ i, Try.prog.info? 53 = some i ∧ i.zero = some (.agg #[.int .i64 0, .int .i64 0, .int .i64 0, .slice none 0 0, .slice none 0 0]) := ⟨_, rfl, rfl⟩
theorem ty_el2_51 : ∃ i, Try.prog.info? 5 = some i ∧ i.zero = some (.int .u8 0) := ⟨_, rfl, rfl⟩
theorem ty_el2_65 : ∃ i, Try.prog.info? 51 = some i ∧ i.zero = some (.slice none 0 0) := ⟨_, rfl, rfl⟩
theorem ty_el2_66 : ∃ i, Try.prog.info? 95 = some i ∧ i.zero = some (.agg #[.int .i64 0, .slice none 0 0]) := ⟨_, rfl, rfl⟩
theorem ty_el2_88 : ∃ i, Try.prog.info? 93 = some i ∧ i.zero = some (.agg #[.int .i64 0, .int .u8 0, .int .u8 0, .int .u8 0, .int .u8 0, .int .u8 0, .int .u8 0, .int .u8 0, .int .u8 0, .int .u8 0, .int .u8 0, .int .u8 0, .int .u8 0, .int .u8 0, .int .u8 0, .int .u8 0, .int .u8 0, .int .u8 0, .int .u8 0, .int .u8 0, .int .u8 0, .int .u8 0, .int .u8 0, .int .u8 0, .int .u8 0, .int .u8 0, .int .u8 0, .int .u8 0, .int .u8 0, .int .u8 0, .int .u8 0, .int .u8 0, .int .u8 0, .int .u8 0, .int .u8 0, .int .u8 0, .int .u8 0, .int .u8 0, .int .u8 0, .int .u8 0, .int .u8 0, .int .u8 0, .int .u8 0, .int .u8 0, .int .u8 0, .int .u8 0, .int .u8 0, .int .u8 0, .int .u8 0, .int .u8 0, .int .u8 0, .int .u8 0, .int .u8 0, .int .u8 0, .int .u8 0, .int .u8 0, .int .u8 0, .int .u8 0, .int .u8 0, .int .u8 0, .int .u8 0, .int .u8 0, .int .u8 0, .int .u8 0, .int .u8 0]) := ⟨_, rfl, rfl⟩
theorem ty_el_44 : ∃ i, Try.prog.info? 53 = some i ∧ i.zero = some (.agg #[.int .i64 0, .int .i64 0, .int .i64 0, .slice none 0 0, .slice none 0 0]) ∧ i.bytes = 72 := ⟨_, rfl, rfl, rfl⟩
theorem ty_el_45 : ∃ i, Try.prog.info? 57 = some i ∧ i.zero = some (.int .i64 0) ∧ i.bytes = 8 := ⟨_, rfl, rfl, rfl⟩
theorem ty_el_51 : ∃ i, Try.prog.info? 5 = some i ∧ i.zero = some (.int .u8 0) ∧ i.bytes = 1 := ⟨_, rfl, rfl, rfl⟩
theorem ty_el_65 : ∃ i, Try.prog.info? 51 = some i ∧ i.zero = some (.slice none 0 0) ∧ i.bytes = 24 := ⟨_, rfl, rfl, rfl⟩
theorem ty_el_66 : ∃ i, Try.prog.info? 95 = some i ∧ i.zero = some (.agg #[.int .i64 0, .slice none 0 0]) ∧ i.bytes = 32 := ⟨_, rfl, rfl, rfl⟩
theorem ty_el_88 : ∃ i, Try.prog.info? 93 = some i ∧ i.zero = some (.agg #[.int .i64 0, .int .u8 0, .int .u8 0, .int .u8 0, .int .u8 0, .int .u8 0, .int .u8 0, .int .u8 0, .int .u8 0, .int .u8 0, .int .u8 0, .int .u8 0, .int .u8 0, .int .u8 0, .int .u8 0, .int .u8 0, .int .u8 0, .int .u8 0, .int .u8 0, .int .u8 0, .int .u8 0, .int .u8 0, .int .u8 0, .int .u8 0, .int .u8 0, .int .u8 0, .int .u8 0, .int .u8 0, .int .u8 0, .int .u8 0, .int .u8 0, .int .u8 0, .int .u8 0, .int .u8 0, .int .u8 0, .int .u8 0, .int .u8 0, .int .u8 0, .int .u8 0, .int .u8 0, .int .u8 0, .int .u8 0, .int .u8 0, .int .u8 0, .int .u8 0, .int .u8 0, .int .u8 0, .int .u8 0, .int .u8 0, .int .u8 0, .int .u8 0, .int .u8 0, .int .u8 0, .int .u8 0, .int .u8 0, .int .u8 0, .int .u8 0, .int .u8 0, .int .u8 0, .int .u8 0, .int .u8 0, .int .u8 0, .int .u8 0, .int .u8 0, .int .u8 0]) ∧ i.bytes = 72 := ⟨_, rfl, rfl, rfl⟩
theorem ty_fd_53_0 : fieldTy Try.prog 53 0 0 = true := by kernel_rfl
theorem ty_fd_53_1 : fieldTy Try.prog 53 1 1 = true := by kernel_rfl
theorem ty_fd_53_2 : fieldTy Try.prog 53 2 2 = true := by kernel_rfl
theorem ty_fd_53_3 : fieldTy Try.prog 53 3 3 = true := by kernel_rfl
theorem ty_fd_53_4 : fieldTy Try.prog 53 4 4 = true := by kernel_rfl
theorem ty_fd_68_0 : fieldTy Try.prog 68 0 0 = true := by kernel_rfl
theorem ty_fd_68_1 : fieldTy Try.prog 68 1 1 = true := by kernel_rfl
theorem ty_fd_68_2 : fieldTy Try.prog 68 2 2 = true := by kernel_rfl
theorem ty_fd_68_3 : fieldTy Try.prog 68 3 3 = true := by kernel_rfl
theorem ty_fd_68_4 : fieldTy Try.prog 68 4 4 = true := by kernel_rfl
theorem ty_fd_68_5 : fieldTy Try.prog 68 5 5 = true := by kernel_rfl
theorem ty_fd_90_0 : fieldTy Try.prog 90 0 0 = true := by kernel_rfl
theorem ty_fd_90_1 : fieldTy Try.prog 90 1 1 = true := by kernel_rfl
theorem ty_fd_90_2 : fieldTy Try.prog 90 2 2 = true := by kernel_rfl
theorem ty_fd_90_3 : fieldTy Try.prog 90 3 3 = true := by kernel_rfl
theorem ty_fd_90_4 : fieldTy Try.prog 90 4 4 = true := by kernel_rfl
theorem ty_fd_90_5 : fieldTy Try.prog 90 5 5 = true := by kernel_rfl
theorem ty_fd_90_6 : fieldTy Try.prog 90 6 6 = true := by kernel_rfl
theorem ty_fd_93_0 : fieldTy Try.prog 93 0 0 = true := by kernel_rfl
theorem ty_fd_93_1 : fieldTy Try.prog 93 1 1 = true := by kernel_rfl
theorem ty_fd_95_0 : fieldTy Try.prog 95 0 0 = true := by kernel_rfl
theorem ty_fd_95_1 : fieldTy Try.prog 95 1 1 = true := by kernel_rfl
theorem ty_pt_46 : Try.prog.underlying 46 = some (.pointer (Try.prog.pointee 46)) := by kernel_rfl
theorem ty_sc_3 : scalarTy Try.prog 3 = true := by kernel_rfl
theorem ty_sc_4 : scalarTy Try.prog 4 = true := by kernel_rfl
theorem ty_sc_45 : scalarTy Try.prog 45 = true := by kernel_rfl
theorem ty_sc_5 : scalarTy Try.prog 5 = true := by kernel_rfl
theorem ty_sc_51 : scalarTy Try.prog 51 = true := by kernel_rfl
theorem ty_sc_57 : scalarTy Try.prog 57 = true := by kernel_rfl
theorem ty_sc_65 : scalarTy Try.prog 65 = true := by kernel_rfl
theorem ty_sc_66 : scalarTy Try.prog 66 = true := by kernel_rfl
theorem ty_sc_88 : scalarTy Try.prog 88 = true := by kernel_rfl
theorem ty_sl_44 : sliceTy Try.prog 44 53 5 = true := by kernel_rfl
theorem ty_sl_45 : sliceTy Try.prog 45 57 1 = true := by kernel_rfl
theorem ty_sl_51 : sliceTy Try.prog 51 5 1 = true := by kernel_rfl
theorem ty_sl_65 : sliceTy Try.prog 65 51 1 = true := by kernel_rfl
theorem ty_sl_66 : sliceTy Try.prog 66 95 2 = true := by kernel_rfl
theorem ty_sl_88 : sliceTy Try.prog 88 93 65 = true := by kernel_rfl
theorem ty_sz_3 : sizeTy Try.prog 3 1 = true := by kernel_rfl
theorem ty_sz_4 : sizeTy Try.prog 4 1 = true := by kernel_rfl
theorem ty_sz_5 : sizeTy Try.prog 5 1 = true := by kernel_rfl
theorem ty_sz_51 : sizeTy Try.prog 51 1 = true := by kernel_rfl
theorem ty_sz_65 : sizeTy Try.prog 65 1 = true := by kernel_rfl
theorem ty_sz_66 : sizeTy Try.prog 66 1 = true := by kernel_rfl
theorem ty_sz_88 : sizeTy Try.prog 88 1 = true := by kernel_rfl
theorem ty_sz_93 : sizeTy Try.prog 93 65 = true := by kernel_rfl
theorem ty_sz_95 : sizeTy Try.prog 95 2 = true := by kernel_rfl
theorem ty_zd_68 : sizedTy Try.prog 68 = true := by kernel_rfl
theorem ty_zd_90 : sizedTy Try.prog 90 = true := by kernel_rfl
theorem ty_zd_93 : sizedTy Try.prog 93 = true := by kernel_rfl
theorem ty_zd_95 : sizedTy Try.prog 95 = true := by kernel_rfl
theorem ty_zr_68 : zeroTy Try.prog 68 [.slice none 0 0, .slice none 0 0, .int .i64 0, .bool false, .int .i64 0, .int .i64 0] := ⟨_, _, rfl, rfl, rfl⟩
theorem ty_zr_90 : zeroTy Try.prog 90 [.slice none 0 0, .slice none 0 0, .slice none 0 0, .int .i64 0, .bool false, .int .i64 0, .int .i64 0] := ⟨_, _, rfl, rfl, rfl⟩
theorem ty_zr_93 : zeroTy Try.prog 93 [.int .i64 0, .int .u8 0, .int .u8 0, .int .u8 0, .int .u8 0, .int .u8 0, .int .u8 0, .int .u8 0, .int .u8 0, .int .u8 0, .int .u8 0, .int .u8 0, .int .u8 0, .int .u8 0, .int .u8 0, .int .u8 0, .int .u8 0, .int .u8 0, .int .u8 0, .int .u8 0, .int .u8 0, .int .u8 0, .int .u8 0, .int .u8 0, .int .u8 0, .int .u8 0, .int .u8 0, .int .u8 0, .int .u8 0, .int .u8 0, .int .u8 0, .int .u8 0, .int .u8 0, .int .u8 0, .int .u8 0, .int .u8 0, .int .u8 0, .int .u8 0, .int .u8 0, .int .u8 0, .int .u8 0, .int .u8 0, .int .u8 0, .int .u8 0, .int .u8 0, .int .u8 0, .int .u8 0, .int .u8 0, .int .u8 0, .int .u8 0, .int .u8 0, .int .u8 0, .int .u8 0, .int .u8 0, .int .u8 0, .int .u8 0, .int .u8 0, .int .u8 0, .int .u8 0, .int .u8 0, .int .u8 0, .int .u8 0, .int .u8 0, .int .u8 0, .int .u8 0] := ⟨_, _, rfl, rfl, rfl⟩
theorem ty_zr_95 : zeroTy Try.prog 95 [.int .i64 0, .slice none 0 0] := ⟨_, _, rfl, rfl, rfl⟩
theorem Trymixed : Try.prog.follows .mixedOrders = true := by kernel_rfl
end Go.Hp
