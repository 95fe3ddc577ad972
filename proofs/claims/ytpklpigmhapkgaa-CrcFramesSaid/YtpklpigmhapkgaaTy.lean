import Derived.Test.YtpklpigmhapkgaaHpLoud
import Derived.Test.YtpklpigmhapkgaaProg
import Derived.KernelRfl
namespace Go.Hp
open Go Go.Proofs
theorem ty_ag_37 : aggTy Try.prog 37 16 = true := by kernel_rfl
theorem ty_ar_37 : arrTy Try.prog 37 16 22 1 = true := by kernel_rfl
theorem ty_el2_23 : ∃ i, Try.prog.info? 5 = some i ∧ i.zero = some (.int .u8 0) := ⟨_, rfl, rfl⟩
theorem ty_el2_42 : ∃ i, Try.prog.info? 23 = some i ∧ i.zero = some (.slice none 0 0) := ⟨_, rfl, rfl⟩
theorem ty_el_23 : ∃ i, Try.prog.info? 5 = some i ∧ i.zero = some (.int .u8 0) ∧ i.bytes = 1 := ⟨_, rfl, rfl, rfl⟩
theorem ty_ik_22 : Try.prog.underlying 22 = some (.int .u32) := by kernel_rfl
theorem ty_ik_3 : Try.prog.underlying 3 = some (.int .i64) := by kernel_rfl
theorem ty_ik_35 : Try.prog.underlying 35 = some (.int .u64) := by kernel_rfl
theorem ty_ik_5 : Try.prog.underlying 5 = some (.int .u8) := by kernel_rfl
theorem ty_sc_22 : scalarTy Try.prog 22 = true := by kernel_rfl
theorem ty_sc_23 : scalarTy Try.prog 23 = true := by kernel_rfl
theorem ty_sc_5 : scalarTy Try.prog 5 = true := by kernel_rfl
theorem ty_sl_23 : sliceTy Try.prog 23 5 1 = true := by kernel_rfl
theorem ty_sl_42 : sliceTy Try.prog 42 23 1 = true := by kernel_rfl
theorem ty_sz_22 : sizeTy Try.prog 22 1 = true := by kernel_rfl
theorem ty_sz_37 : sizeTy Try.prog 37 16 = true := by kernel_rfl
theorem ty_sz_5 : sizeTy Try.prog 5 1 = true := by kernel_rfl
theorem ty_un_22 : (Try.prog.underlying 22).isSome = true := by kernel_rfl
theorem ty_un_3 : (Try.prog.underlying 3).isSome = true := by kernel_rfl
theorem ty_un_5 : (Try.prog.underlying 5).isSome = true := by kernel_rfl
theorem ty_zr_37 : zeroTy Try.prog 37 [.int .u32 0, .int .u32 0, .int .u32 0, .int .u32 0, .int .u32 0, .int .u32 0, .int .u32 0, .int .u32 0, .int .u32 0, .int .u32 0, .int .u32 0, .int .u32 0, .int .u32 0, .int .u32 0, .int .u32 0, .int .u32 0] := ⟨_, _, rfl, rfl, rfl⟩
theorem Trymixed : Try.prog.follows .mixedOrders = true := by kernel_rfl
end Go.Hp
