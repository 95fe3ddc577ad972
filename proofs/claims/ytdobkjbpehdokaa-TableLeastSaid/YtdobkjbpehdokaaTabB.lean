import Derived.Test.YtdobkjbpehdokaaTabA
set_option linter.unusedVariables false
set_option linter.unusedSimpArgs false
namespace Go.Hp
open Go Go.Proofs
theorem slot_Load0 {I : Imm} {b k : Nat} {cs : List Value} (hk : cs[k]? = some (.pointer none)) : Spec Try.prog 57 [.pointer (some ⟨b, k, none⟩)] I [(b, row 110 cs)] (fun v J L => v = .pointer none ∧ I = J ∧ L = [(b, row 110 cs)]) := by
  refine Spec.of Try.func57 rfl Try.ntmps57 (Nat.le_of_ble_eq_true rfl) (fun F => ?_)
  try simp only [List.cons_append, List.nil_append, List.append_assoc]
  dsimp only [argsEnv]
  refine WP.seq ?_
  refine WP.region [0] rfl ?_
  refine WP.val rfl rfl rfl rfl (Yld.assign rfl rfl) ?_
  refine WP.nil ?_
  refine WP.next ?_
  refine WP.seq ?_
  refine WP.region [0, 1, 2, 3, 4, 5] rfl ?_
  refine WP.val rfl rfl rfl rfl (Yld.move rfl rfl) ?_
  refine WP.val rfl rfl rfl rfl (Yld.nilCheck rfl rfl) ?_
  refine WP.val rfl rfl rfl rfl (Yld.fieldAddr rfl ty_fd_108_2 rfl) ?_
  refine WP.loud rfl rfl ?_
  refine Op.ext (ext_loadP There.h hk) rfl rfl rfl rfl ?_
  refine WP.val rfl rfl rfl rfl (Yld.fromUnsafe0 rfl ty_up_106 ty_pe_104 rfl) ?_
  refine WP.val rfl rfl rfl rfl (Yld.assign rfl rfl) ?_
  refine WP.nil ?_
  refine WP.sub [(0, _), (2, _)] ?_ ⟨rfl, rfl, trivial⟩
  refine WP.next ?_
  refine WP.ret ?_
  refine WP.fin .ret (.inr rfl) (res1 rfl rfl) [(b, row 110 cs)] (by repeat (first | exact Take.nil | with_reducible apply Take.cons | apply Take.app | exact Rm.chunk | exact Rm.here | exact Rm.nil0 | apply Rm.skip | apply Rm.skipS | (focus (apply Take.all; (repeat (first | exact Rm.chunk | exact Rm.here | exact Rm.nil0 | apply Rm.skip | apply Rm.skipS)); done)) | apply Take.cons)) (by repeat (first | exact Leave.done | apply Leave.drop | apply Leave.dropS)) (Imm.le_refl _) ?_
  exact ⟨rfl, rfl, rfl⟩

theorem slot_Load1 {I : Imm} {b k b2 : Nat} {cs es : List Value} (hk : cs[k]? = some (.pointer (some ⟨b2, 0, none⟩))) (hm : I.blk b2 = some (row 63 es)) (hl : es.length = 9) : Spec Try.prog 57 [.pointer (some ⟨b, k, none⟩)] I [(b, row 110 cs)] (fun v J L => v = .pointer (some ⟨b2, 0, none⟩) ∧ I = J ∧ L = [(b, row 110 cs)]) := by
  refine Spec.of Try.func57 rfl Try.ntmps57 (Nat.le_of_ble_eq_true rfl) (fun F => ?_)
  try simp only [List.cons_append, List.nil_append, List.append_assoc]
  dsimp only [argsEnv]
  refine WP.seq ?_
  refine WP.region [0] rfl ?_
  refine WP.val rfl rfl rfl rfl (Yld.assign rfl rfl) ?_
  refine WP.nil ?_
  refine WP.next ?_
  refine WP.seq ?_
  refine WP.region [0, 1, 2, 3, 4, 5] rfl ?_
  refine WP.val rfl rfl rfl rfl (Yld.move rfl rfl) ?_
  refine WP.val rfl rfl rfl rfl (Yld.nilCheck rfl rfl) ?_
  refine WP.val rfl rfl rfl rfl (Yld.fieldAddr rfl ty_fd_108_2 rfl) ?_
  refine WP.loud rfl rfl ?_
  refine Op.ext (ext_loadP There.h hk) rfl rfl rfl rfl ?_
  refine WP.val rfl rfl rfl rfl (Yld.fromUnsafe (m := 9) rfl ty_up_106 ty_pe_104 ty_li_63 (by kernel_rfl) rfl (There.i hm) hl) ?_
  refine WP.val rfl rfl rfl rfl (Yld.assign rfl rfl) ?_
  refine WP.nil ?_
  refine WP.sub [(0, _), (2, _)] ?_ ⟨rfl, rfl, trivial⟩
  refine WP.next ?_
  refine WP.ret ?_
  refine WP.fin .ret (.inr rfl) (res1 rfl rfl) [(b, row 110 cs)] (by repeat (first | exact Take.nil | with_reducible apply Take.cons | apply Take.app | exact Rm.chunk | exact Rm.here | exact Rm.nil0 | apply Rm.skip | apply Rm.skipS | (focus (apply Take.all; (repeat (first | exact Rm.chunk | exact Rm.here | exact Rm.nil0 | apply Rm.skip | apply Rm.skipS)); done)) | apply Take.cons)) (by repeat (first | exact Leave.done | apply Leave.drop | apply Leave.dropS)) (Imm.le_refl _) ?_
  exact ⟨rfl, rfl, rfl⟩

theorem slot_Store0 {I : Imm} {b k : Nat} {cs cs' : List Value} (hs : SetAt cs k (.pointer none) cs') : Spec Try.prog 52 [.pointer (some ⟨b, k, none⟩), .pointer none] I [(b, row 110 cs)] (fun v J L => v = .tuple #[] ∧ I = J ∧ L = [(b, row 110 cs')]) := by
  refine Spec.of Try.func52 rfl Try.ntmps52 (Nat.le_of_ble_eq_true rfl) (fun F => ?_)
  try simp only [List.cons_append, List.nil_append, List.append_assoc]
  dsimp only [argsEnv]
  refine WP.region [0, 1, 2, 3, 4, 5] rfl ?_
  refine WP.val rfl rfl rfl rfl (Yld.move rfl rfl) ?_
  refine WP.val rfl rfl rfl rfl (Yld.nilCheck rfl rfl) ?_
  refine WP.val rfl rfl rfl rfl (Yld.fieldAddr rfl ty_fd_108_2 rfl) ?_
  refine WP.val rfl rfl rfl rfl (Yld.move rfl rfl) ?_
  refine WP.val rfl rfl rfl rfl (Yld.toUnsafe0 rfl ty_pe_104 ty_up_106 rfl) ?_
  refine WP.loud rfl rfl ?_
  refine Op.ext (ext_storeP Upd.head hs) rfl rfl rfl rfl ?_
  refine WP.nil ?_
  refine WP.sub [(0, _), (1, _)] ?_ ⟨rfl, rfl, trivial⟩
  refine WP.fin .normal (.inl rfl) (res0 rfl) [(b, row 110 cs')] (by repeat (first | exact Take.nil | with_reducible apply Take.cons | apply Take.app | exact Rm.chunk | exact Rm.here | exact Rm.nil0 | apply Rm.skip | apply Rm.skipS | (focus (apply Take.all; (repeat (first | exact Rm.chunk | exact Rm.here | exact Rm.nil0 | apply Rm.skip | apply Rm.skipS)); done)) | apply Take.cons)) (by repeat (first | exact Leave.done | apply Leave.drop | apply Leave.dropS)) (Imm.le_refl _) ?_
  exact ⟨rfl, rfl, rfl⟩

theorem slot_Store1 {I : Imm} {b k b2 : Nat} {cs cs' es : List Value} (hm : I.blk b2 = some (row 63 es)) (hl : es.length = 9) (hs : SetAt cs k (.pointer (some ⟨b2, 0, none⟩)) cs') : Spec Try.prog 52 [.pointer (some ⟨b, k, none⟩), .pointer (some ⟨b2, 0, none⟩)] I [(b, row 110 cs)] (fun v J L => v = .tuple #[] ∧ I = J ∧ L = [(b, row 110 cs')]) := by
  refine Spec.of Try.func52 rfl Try.ntmps52 (Nat.le_of_ble_eq_true rfl) (fun F => ?_)
  try simp only [List.cons_append, List.nil_append, List.append_assoc]
  dsimp only [argsEnv]
  refine WP.region [0, 1, 2, 3, 4, 5] rfl ?_
  refine WP.val rfl rfl rfl rfl (Yld.move rfl rfl) ?_
  refine WP.val rfl rfl rfl rfl (Yld.nilCheck rfl rfl) ?_
  refine WP.val rfl rfl rfl rfl (Yld.fieldAddr rfl ty_fd_108_2 rfl) ?_
  refine WP.val rfl rfl rfl rfl (Yld.move rfl rfl) ?_
  refine WP.val rfl rfl rfl rfl (Yld.toUnsafe rfl ty_pe_104 ty_up_106 (by kernel_rfl) rfl (There.i hm) (by omega)) ?_
  refine WP.loud rfl rfl ?_
  refine Op.ext (ext_storeP Upd.head hs) rfl rfl rfl rfl ?_
  refine WP.nil ?_
  refine WP.sub [(0, _), (1, _)] ?_ ⟨rfl, rfl, trivial⟩
  refine WP.fin .normal (.inl rfl) (res0 rfl) [(b, row 110 cs')] (by repeat (first | exact Take.nil | with_reducible apply Take.cons | apply Take.app | exact Rm.chunk | exact Rm.here | exact Rm.nil0 | apply Rm.skip | apply Rm.skipS | (focus (apply Take.all; (repeat (first | exact Rm.chunk | exact Rm.here | exact Rm.nil0 | apply Rm.skip | apply Rm.skipS)); done)) | apply Take.cons)) (by repeat (first | exact Leave.done | apply Leave.drop | apply Leave.dropS)) (Imm.le_refl _) ?_
  exact ⟨rfl, rfl, rfl⟩

theorem slot_CAS {I : Imm} {b k b1 b2 : Nat} {cs cs' es fs : List Value} (hk : cs[k]? = some (.pointer (some ⟨b1, 0, none⟩))) (hm1 : I.blk b1 = some (row 63 fs)) (hl1 : fs.length = 9) (hm : I.blk b2 = some (row 63 es)) (hl : es.length = 9) (hs : SetAt cs k (.pointer (some ⟨b2, 0, none⟩)) cs') : Spec Try.prog 50 [.pointer (some ⟨b, k, none⟩), .pointer (some ⟨b1, 0, none⟩), .pointer (some ⟨b2, 0, none⟩)] I [(b, row 110 cs)] (fun v J L => v = .bool true ∧ I = J ∧ L = [(b, row 110 cs')]) := by
  refine Spec.of Try.func50 rfl Try.ntmps50 (Nat.le_of_ble_eq_true rfl) (fun F => ?_)
  try simp only [List.cons_append, List.nil_append, List.append_assoc]
  dsimp only [argsEnv]
  refine WP.seq ?_
  refine WP.region [0] rfl ?_
  refine WP.val rfl rfl rfl rfl (Yld.assign rfl rfl) ?_
  refine WP.nil ?_
  refine WP.next ?_
  refine WP.seq ?_
  refine WP.region [0, 1, 2, 3, 4, 5, 6, 7, 8] rfl ?_
  refine WP.val rfl rfl rfl rfl (Yld.move rfl rfl) ?_
  refine WP.val rfl rfl rfl rfl (Yld.nilCheck rfl rfl) ?_
  refine WP.val rfl rfl rfl rfl (Yld.fieldAddr rfl ty_fd_108_2 rfl) ?_
  refine WP.val rfl rfl rfl rfl (Yld.move rfl rfl) ?_
  refine WP.val rfl rfl rfl rfl (Yld.toUnsafe rfl ty_pe_104 ty_up_106 (by kernel_rfl) rfl (There.i hm1) (by omega)) ?_
  refine WP.val rfl rfl rfl rfl (Yld.move rfl rfl) ?_
  refine WP.val rfl rfl rfl rfl (Yld.toUnsafe rfl ty_pe_104 ty_up_106 (by kernel_rfl) rfl (There.i hm) (by omega)) ?_
  refine WP.loud rfl rfl ?_
  refine Op.ext (ext_casP hk Upd.head hs) rfl rfl rfl rfl ?_
  refine WP.val rfl rfl rfl rfl (Yld.assign rfl rfl) ?_
  refine WP.nil ?_
  refine WP.sub [(0, _), (1, _), (2, _), (6, _)] ?_ ⟨rfl, rfl, rfl, rfl, trivial⟩
  refine WP.next ?_
  refine WP.ret ?_
  refine WP.fin .ret (.inr rfl) (res1 rfl rfl) [(b, row 110 cs')] (by repeat (first | exact Take.nil | with_reducible apply Take.cons | apply Take.app | exact Rm.chunk | exact Rm.here | exact Rm.nil0 | apply Rm.skip | apply Rm.skipS | (focus (apply Take.all; (repeat (first | exact Rm.chunk | exact Rm.here | exact Rm.nil0 | apply Rm.skip | apply Rm.skipS)); done)) | apply Take.cons)) (by repeat (first | exact Leave.done | apply Leave.drop | apply Leave.dropS)) (Imm.le_refl _) ?_
  exact ⟨rfl, rfl, rfl⟩


end Go.Hp
