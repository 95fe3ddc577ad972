import Derived.Test.YtdobkjbpehdokaaLoomD
set_option linter.unusedVariables false
set_option linter.unusedSimpArgs false
namespace Go.Hp
open Go Go.Proofs

theorem loom_tStepP {I : Imm} {q c : Nat} {m : Mb × Ad} {s : CS} (hl : m.2.left ≤ 9223372036854775807) : Spec Try.prog 42 [.pointer (some ⟨m.1.t, 0, none⟩)] I ((m.1.t, row 92 [.iface 93 (.pointer (some ⟨m.1.a, 0, none⟩)), .bool m.2.done, .int .i64 m.2.steps]) :: (adCh q m ++ csCh q c s)) (fun v J L => v = .tuple #[] ∧ I = J ∧ L = mach q (m.1, (tStep m.2 s).1) ++ csCh q c (tStep m.2 s).2) := loom_tStep hl
theorem adAt_map {ms : List (Mb × Ad)} {i : Nat} (h : i < ms.length) : adAt (ms.map (·.2)) (i : Int) = some ms[i].2 := by
  rw [adAt_lt (by simpa using h)]; simp
theorem stepAt_map {ms : List (Mb × Ad)} {s : CS} {i : Nat} (h : i < ms.length) : stepAt (ms.map (·.2)) s i = ((ms.set i (ms[i].1, (tStep ms[i].2 s).1)).map (·.2), (tStep ms[i].2 s).2) := by
  rw [stepAt_lt (by simpa using h)]; simp [List.map_set]
theorem tps_set {ms : List (Mb × Ad)} {i : Nat} (h : i < ms.length) (a : Ad) : tps (ms.set i (ms[i].1, a)) = tps ms := by
  unfold tps
  rw [List.map_set]
  have : (ms.map fun m => Value.pointer (some ⟨m.1.t, 0, none⟩))[i]? = some (Value.pointer (some ⟨ms[i].1.t, 0, none⟩)) := by simp [h]
  apply List.ext_getElem?
  intro j
  rw [List.getElem?_set]
  split
  · rename_i e
    subst e
    simp [h]
  · rfl
theorem loom_Done_no {I : Imm} {l q : Nat} {xs : List Ad} {L : Chunks} (hd : IsLoom l q xs L) {k : Int} (hk : k < 0 ∨ (xs.length : Int) ≤ k) : Spec Try.prog 26 [.pointer (some ⟨l, 0, none⟩), .int .i64 k] I L (fun v J L' => v = .bool (doneAt (xs) k) ∧ I = J ∧ L = L') := by
  cases hd with
  | @mk vs Lv ms e ow hl =>
  subst e
  obtain ⟨As, cs_, rfl, hcs⟩ := ow.slice
  have hk' : k < 0 ∨ (ms.length : Int) ≤ k := by simpa using hk
  refine Spec.of Try.func26 rfl Try.ntmps26 (Nat.le_of_ble_eq_true rfl) (fun F => ?_)
  try simp only [List.cons_append, List.nil_append, List.append_assoc]
  dsimp only [argsEnv]
  refine WP.seq ?_
  refine WP.region [0] rfl ?_
  refine WP.val rfl rfl rfl rfl (Yld.assign rfl rfl) ?_
  refine WP.nil ?_
  refine WP.next ?_
  refine WP.seq ?_
  refine WP.region [0, 1, 2, 3, 4, 5, 6, 7] rfl ?_
  refine WP.val rfl rfl rfl rfl (Yld.move rfl rfl) ?_
  refine WP.val rfl rfl rfl rfl (Yld.move rfl rfl) ?_
  refine WP.loud rfl rfl ?_
  refine Op.call (loom_find_no hk') rfl Try.func41 rfl rfl rfl rfl (by repeat (first | exact Take.nil | with_reducible apply Take.cons | apply Take.app | exact Rm.chunk | exact Rm.here | exact Rm.nil0 | apply Rm.skip | apply Rm.skipS | (focus (apply Take.all; (repeat (first | exact Rm.chunk | exact Rm.here | exact Rm.nil0 | apply Rm.skip | apply Rm.skipS)); done)) | apply Take.cons)) ?_
  rintro v J L1 hJ ⟨rfl, rfl, rfl⟩
  clear hJ; try simp only [List.cons_append, List.nil_append, List.append_assoc]
  refine WP.val rfl rfl rfl rfl (Yld.move rfl rfl) ?_
  refine WP.val rfl rfl rfl rfl (Yld.extract rfl rfl rfl) ?_
  refine WP.val rfl rfl rfl rfl (Yld.extract rfl rfl rfl) ?_
  refine WP.val rfl rfl rfl rfl (Yld.assign rfl rfl) ?_
  refine WP.val rfl rfl rfl rfl (Yld.assign rfl rfl) ?_
  refine WP.nil ?_
  refine WP.sub [(0, _), (1, _), (4, _), (5, _), (6, _)] ?_ ⟨rfl, rfl, rfl, rfl, rfl, trivial⟩
  refine WP.next ?_
  refine WP.seq ?_
  refine WP.region [0, 1, 2, 3, 4, 5, 6, 7] rfl ?_
  refine WP.val rfl rfl rfl rfl (Yld.move rfl rfl) ?_
  refine WP.val rfl rfl rfl rfl (Yld.move rfl rfl) ?_
  refine WP.passG rfl rfl rfl rfl rfl rfl rfl rfl ?_
  refine WP.passG rfl rfl rfl rfl rfl rfl rfl rfl ?_
  refine WP.passG rfl rfl rfl rfl rfl rfl rfl rfl ?_
  refine WP.passG rfl rfl rfl rfl rfl rfl rfl rfl ?_
  refine WP.val rfl rfl rfl rfl (Yld.pickF rfl rfl rfl) ?_
  refine WP.val rfl rfl rfl rfl (Yld.assign rfl rfl) ?_
  refine WP.nil ?_
  refine WP.sub [(0, _), (1, _), (4, _), (5, _), (6, _)] ?_ ⟨rfl, rfl, rfl, rfl, rfl, trivial⟩
  refine WP.next ?_
  refine WP.ret ?_
  refine WP.fin .ret (.inr rfl) (res1 rfl rfl) ((l, row 89 _) :: (Lv ++ ms.flatMap (mach q))) (by repeat (first | exact Take.nil | with_reducible apply Take.cons | apply Take.app | exact Rm.chunk | exact Rm.here | exact Rm.nil0 | apply Rm.skip | apply Rm.skipS | (focus (apply Take.all; (repeat (first | exact Rm.chunk | exact Rm.here | exact Rm.nil0 | apply Rm.skip | apply Rm.skipS)); done)) | apply Take.cons)) (by repeat (first | exact Leave.done | apply Leave.drop | apply Leave.dropS)) (Imm.le_refl _) ?_
  exact ⟨by rw [doneAt, adAt_no hk], rfl, rfl⟩

theorem loom_Done_at {I : Imm} {l q : Nat} {xs : List Ad} {L : Chunks} (hd : IsLoom l q xs L) {i : Nat} (hi0 : i < xs.length) : Spec Try.prog 26 [.pointer (some ⟨l, 0, none⟩), .int .i64 (i : Int)] I L (fun v J L' => v = .bool (doneAt (xs) (i : Int)) ∧ I = J ∧ L = L') := by
  cases hd with
  | @mk vs Lv ms e ow hl =>
  subst e
  obtain ⟨As, cs_, rfl, hcs⟩ := ow.slice
  have hi : i < ms.length := by simpa using hi0
  refine Spec.of Try.func26 rfl Try.ntmps26 (Nat.le_of_ble_eq_true rfl) (fun F => ?_)
  try simp only [List.cons_append, List.nil_append, List.append_assoc]
  dsimp only [argsEnv]
  refine WP.seq ?_
  refine WP.region [0] rfl ?_
  refine WP.val rfl rfl rfl rfl (Yld.assign rfl rfl) ?_
  refine WP.nil ?_
  refine WP.next ?_
  refine WP.seq ?_
  obtain ⟨bv, cv, sv, hvv, rfl, hqv, hrv⟩ := ow.get (by omega)
  injection hvv with hA _ hcl
  subst hA hcl
  try simp only [List.cons_append, List.nil_append, List.append_assoc]
  refine WP.region [0, 1, 2, 3, 4, 5, 6, 7] rfl ?_
  refine WP.val rfl rfl rfl rfl (Yld.move rfl rfl) ?_
  refine WP.val rfl rfl rfl rfl (Yld.move rfl rfl) ?_
  refine WP.loud rfl rfl ?_
  refine Op.call (loom_find hi) rfl Try.func41 rfl rfl rfl rfl (by repeat (first | exact Take.nil | with_reducible apply Take.cons | apply Take.app | exact Rm.chunk | exact Rm.here | exact Rm.nil0 | apply Rm.skip | apply Rm.skipS | (focus (apply Take.all; (repeat (first | exact Rm.chunk | exact Rm.here | exact Rm.nil0 | apply Rm.skip | apply Rm.skipS)); done)) | apply Take.cons)) ?_
  rintro v J L1 hJ ⟨rfl, rfl, rfl⟩
  clear hJ; try simp only [List.cons_append, List.nil_append, List.append_assoc]
  refine WP.val rfl rfl rfl rfl (Yld.move rfl rfl) ?_
  refine WP.val rfl rfl rfl rfl (Yld.extract rfl rfl rfl) ?_
  refine WP.val rfl rfl rfl rfl (Yld.extract rfl rfl rfl) ?_
  refine WP.val rfl rfl rfl rfl (Yld.assign rfl rfl) ?_
  refine WP.val rfl rfl rfl rfl (Yld.assign rfl rfl) ?_
  refine WP.nil ?_
  refine WP.sub [(0, _), (1, _), (4, _), (5, _), (6, _)] ?_ ⟨rfl, rfl, rfl, rfl, rfl, trivial⟩
  refine WP.next ?_
  refine WP.seq ?_
  refine WP.outL (f := mach q) (l := ms) i hi (by repeat (first | exact Rm.chunk | exact Rm.here | exact Rm.nil0 | apply Rm.skip | apply Rm.skipS)) ?_
  simp only [mach, thCh, List.cons_append, List.nil_append, List.append_assoc]
  refine WP.region [0, 1, 2, 3, 4, 5, 6, 7] rfl ?_
  refine WP.val rfl rfl rfl rfl (Yld.move rfl rfl) ?_
  refine WP.val rfl rfl rfl rfl (Yld.move rfl rfl) ?_
  refine WP.valG rfl rfl rfl rfl rfl rfl rfl (Yld.move rfl rfl) ?_
  refine WP.valG rfl rfl rfl rfl rfl rfl rfl (Yld.nilCheck rfl rfl) ?_
  refine WP.valG rfl rfl rfl rfl rfl rfl rfl (Yld.fieldAddr rfl ty_fd_92_1 rfl) ?_
  refine WP.valG rfl rfl rfl rfl rfl rfl rfl (Yld.load rfl ty_sc_4 rfl (by repeat (first | exact There.h | exact There.i (by assumption) | apply There.t | apply There.s)) rfl) ?_
  refine WP.val rfl rfl rfl rfl (Yld.pickT rfl rfl rfl) ?_
  refine WP.val rfl rfl rfl rfl (Yld.assign rfl rfl) ?_
  refine WP.nil ?_
  refine WP.sub [(0, _), (1, _), (4, _), (5, _), (6, _)] ?_ ⟨rfl, rfl, rfl, rfl, rfl, trivial⟩
  refine WP.inL (f := mach q) (l := ms) i hi (by repeat (first | exact Take.nil | with_reducible apply Take.cons | apply Take.app | exact Rm.chunk | exact Rm.here | exact Rm.nil0 | apply Rm.skip | apply Rm.skipS | (focus (apply Take.all; (repeat (first | exact Rm.chunk | exact Rm.here | exact Rm.nil0 | apply Rm.skip | apply Rm.skipS)); done)) | apply Take.cons)) (by repeat (first | exact Rm.chunk | exact Rm.here | exact Rm.nil0 | apply Rm.skip | apply Rm.skipS)) ?_
  refine WP.next ?_
  refine WP.ret ?_
  refine WP.fin .ret (.inr rfl) (res1 rfl rfl) ((l, row 89 _) :: (bv, row 90 (tps ms ++ sv)) :: ms.flatMap (mach q)) (by repeat (first | exact Take.nil | with_reducible apply Take.cons | apply Take.app | exact Rm.chunk | exact Rm.here | exact Rm.nil0 | apply Rm.skip | apply Rm.skipS | (focus (apply Take.all; (repeat (first | exact Rm.chunk | exact Rm.here | exact Rm.nil0 | apply Rm.skip | apply Rm.skipS)); done)) | apply Take.cons)) (by repeat (first | exact Leave.done | apply Leave.drop | apply Leave.dropS)) (Imm.le_refl _) ?_
  exact ⟨by rw [doneAt, adAt_map hi], rfl, rfl⟩


theorem loom_Done {I : Imm} {l q : Nat} {xs : List Ad} {L : Chunks} (hd : IsLoom l q xs L) {k : Int} : Spec Try.prog 26 [.pointer (some ⟨l, 0, none⟩), .int .i64 k] I L (fun v J L' => v = .bool (doneAt (xs) k) ∧ I = J ∧ L = L') := by
  by_cases hk : k < 0 ∨ (xs.length : Int) ≤ k
  · exact loom_Done_no hd hk
  · obtain ⟨i, rfl⟩ : ∃ i : Nat, k = (i : Int) := ⟨k.toNat, by omega⟩
    exact loom_Done_at hd (by omega)
theorem loom_Steps_no {I : Imm} {l q : Nat} {xs : List Ad} {L : Chunks} (hd : IsLoom l q xs L) {k : Int} (hk : k < 0 ∨ (xs.length : Int) ≤ k) : Spec Try.prog 25 [.pointer (some ⟨l, 0, none⟩), .int .i64 k] I L (fun v J L' => v = .int .i64 (stepsAt (xs) k) ∧ I = J ∧ L = L') := by
  cases hd with
  | @mk vs Lv ms e ow hl =>
  subst e
  obtain ⟨As, cs_, rfl, hcs⟩ := ow.slice
  have hk' : k < 0 ∨ (ms.length : Int) ≤ k := by simpa using hk
  refine Spec.of Try.func25 rfl Try.ntmps25 (Nat.le_of_ble_eq_true rfl) (fun F => ?_)
  try simp only [List.cons_append, List.nil_append, List.append_assoc]
  dsimp only [argsEnv]
  refine WP.seq ?_
  refine WP.region [0] rfl ?_
  refine WP.val rfl rfl rfl rfl (Yld.assign rfl rfl) ?_
  refine WP.nil ?_
  refine WP.next ?_
  refine WP.seq ?_
  refine WP.region [0, 1, 2, 3, 4, 5, 6, 7] rfl ?_
  refine WP.val rfl rfl rfl rfl (Yld.move rfl rfl) ?_
  refine WP.val rfl rfl rfl rfl (Yld.move rfl rfl) ?_
  refine WP.loud rfl rfl ?_
  refine Op.call (loom_find_no hk') rfl Try.func41 rfl rfl rfl rfl (by repeat (first | exact Take.nil | with_reducible apply Take.cons | apply Take.app | exact Rm.chunk | exact Rm.here | exact Rm.nil0 | apply Rm.skip | apply Rm.skipS | (focus (apply Take.all; (repeat (first | exact Rm.chunk | exact Rm.here | exact Rm.nil0 | apply Rm.skip | apply Rm.skipS)); done)) | apply Take.cons)) ?_
  rintro v J L1 hJ ⟨rfl, rfl, rfl⟩
  clear hJ; try simp only [List.cons_append, List.nil_append, List.append_assoc]
  refine WP.val rfl rfl rfl rfl (Yld.move rfl rfl) ?_
  refine WP.val rfl rfl rfl rfl (Yld.extract rfl rfl rfl) ?_
  refine WP.val rfl rfl rfl rfl (Yld.extract rfl rfl rfl) ?_
  refine WP.val rfl rfl rfl rfl (Yld.assign rfl rfl) ?_
  refine WP.val rfl rfl rfl rfl (Yld.assign rfl rfl) ?_
  refine WP.nil ?_
  refine WP.sub [(0, _), (1, _), (4, _), (5, _), (6, _)] ?_ ⟨rfl, rfl, rfl, rfl, rfl, trivial⟩
  refine WP.next ?_
  refine WP.seq ?_
  refine WP.seq ?_
  refine WP.region [0, 1] rfl ?_
  refine WP.val rfl rfl rfl rfl (Yld.move rfl rfl) ?_
  refine WP.val rfl rfl rfl rfl (Yld.not rfl rfl) ?_
  refine WP.nil ?_
  refine WP.sub [(0, _), (1, _), (4, _), (5, _), (6, _), (14, _)] ?_ ⟨rfl, rfl, rfl, rfl, rfl, rfl, trivial⟩
  refine WP.next ?_
  refine WP.condT rfl ?_
  refine WP.seq ?_
  refine WP.region [0] rfl ?_
  refine WP.val rfl rfl rfl rfl (Yld.assign rfl rfl) ?_
  refine WP.nil ?_
  refine WP.next ?_
  refine WP.ret ?_
  refine WP.fin .ret (.inr rfl) (res1 rfl rfl) ((l, row 89 _) :: (Lv ++ ms.flatMap (mach q))) (by repeat (first | exact Take.nil | with_reducible apply Take.cons | apply Take.app | exact Rm.chunk | exact Rm.here | exact Rm.nil0 | apply Rm.skip | apply Rm.skipS | (focus (apply Take.all; (repeat (first | exact Rm.chunk | exact Rm.here | exact Rm.nil0 | apply Rm.skip | apply Rm.skipS)); done)) | apply Take.cons)) (by repeat (first | exact Leave.done | apply Leave.drop | apply Leave.dropS)) (Imm.le_refl _) ?_
  exact ⟨by rw [stepsAt, adAt_no hk], rfl, rfl⟩

theorem loom_Steps_at {I : Imm} {l q : Nat} {xs : List Ad} {L : Chunks} (hd : IsLoom l q xs L) {i : Nat} (hi0 : i < xs.length) : Spec Try.prog 25 [.pointer (some ⟨l, 0, none⟩), .int .i64 (i : Int)] I L (fun v J L' => v = .int .i64 (stepsAt (xs) (i : Int)) ∧ I = J ∧ L = L') := by
  cases hd with
  | @mk vs Lv ms e ow hl =>
  subst e
  obtain ⟨As, cs_, rfl, hcs⟩ := ow.slice
  have hi : i < ms.length := by simpa using hi0
  refine Spec.of Try.func25 rfl Try.ntmps25 (Nat.le_of_ble_eq_true rfl) (fun F => ?_)
  try simp only [List.cons_append, List.nil_append, List.append_assoc]
  dsimp only [argsEnv]
  refine WP.seq ?_
  refine WP.region [0] rfl ?_
  refine WP.val rfl rfl rfl rfl (Yld.assign rfl rfl) ?_
  refine WP.nil ?_
  refine WP.next ?_
  refine WP.seq ?_
  obtain ⟨bv, cv, sv, hvv, rfl, hqv, hrv⟩ := ow.get (by omega)
  injection hvv with hA _ hcl
  subst hA hcl
  try simp only [List.cons_append, List.nil_append, List.append_assoc]
  refine WP.region [0, 1, 2, 3, 4, 5, 6, 7] rfl ?_
  refine WP.val rfl rfl rfl rfl (Yld.move rfl rfl) ?_
  refine WP.val rfl rfl rfl rfl (Yld.move rfl rfl) ?_
  refine WP.loud rfl rfl ?_
  refine Op.call (loom_find hi) rfl Try.func41 rfl rfl rfl rfl (by repeat (first | exact Take.nil | with_reducible apply Take.cons | apply Take.app | exact Rm.chunk | exact Rm.here | exact Rm.nil0 | apply Rm.skip | apply Rm.skipS | (focus (apply Take.all; (repeat (first | exact Rm.chunk | exact Rm.here | exact Rm.nil0 | apply Rm.skip | apply Rm.skipS)); done)) | apply Take.cons)) ?_
  rintro v J L1 hJ ⟨rfl, rfl, rfl⟩
  clear hJ; try simp only [List.cons_append, List.nil_append, List.append_assoc]
  refine WP.val rfl rfl rfl rfl (Yld.move rfl rfl) ?_
  refine WP.val rfl rfl rfl rfl (Yld.extract rfl rfl rfl) ?_
  refine WP.val rfl rfl rfl rfl (Yld.extract rfl rfl rfl) ?_
  refine WP.val rfl rfl rfl rfl (Yld.assign rfl rfl) ?_
  refine WP.val rfl rfl rfl rfl (Yld.assign rfl rfl) ?_
  refine WP.nil ?_
  refine WP.sub [(0, _), (1, _), (4, _), (5, _), (6, _)] ?_ ⟨rfl, rfl, rfl, rfl, rfl, trivial⟩
  refine WP.next ?_
  refine WP.seq ?_
  refine WP.seq ?_
  refine WP.region [0, 1] rfl ?_
  refine WP.val rfl rfl rfl rfl (Yld.move rfl rfl) ?_
  refine WP.val rfl rfl rfl rfl (Yld.not rfl rfl) ?_
  refine WP.nil ?_
  refine WP.sub [(0, _), (1, _), (4, _), (5, _), (6, _), (14, _)] ?_ ⟨rfl, rfl, rfl, rfl, rfl, rfl, trivial⟩
  refine WP.next ?_
  refine WP.condF rfl ?_
  refine WP.skip ?_
  refine WP.next ?_
  refine WP.seq ?_
  refine WP.outL (f := mach q) (l := ms) i hi (by repeat (first | exact Rm.chunk | exact Rm.here | exact Rm.nil0 | apply Rm.skip | apply Rm.skipS)) ?_
  simp only [mach, thCh, List.cons_append, List.nil_append, List.append_assoc]
  refine WP.region [0, 1, 2, 3, 4] rfl ?_
  refine WP.val rfl rfl rfl rfl (Yld.move rfl rfl) ?_
  refine WP.val rfl rfl rfl rfl (Yld.nilCheck rfl rfl) ?_
  refine WP.val rfl rfl rfl rfl (Yld.fieldAddr rfl ty_fd_92_2 rfl) ?_
  refine WP.val rfl rfl rfl rfl (Yld.load rfl ty_sc_3 rfl (by repeat (first | exact There.h | exact There.i (by assumption) | apply There.t | apply There.s)) rfl) ?_
  refine WP.val rfl rfl rfl rfl (Yld.assign rfl rfl) ?_
  refine WP.nil ?_
  refine WP.sub [(0, _), (1, _), (4, _), (5, _), (6, _), (14, _)] ?_ ⟨rfl, rfl, rfl, rfl, rfl, rfl, trivial⟩
  refine WP.inL (f := mach q) (l := ms) i hi (by repeat (first | exact Take.nil | with_reducible apply Take.cons | apply Take.app | exact Rm.chunk | exact Rm.here | exact Rm.nil0 | apply Rm.skip | apply Rm.skipS | (focus (apply Take.all; (repeat (first | exact Rm.chunk | exact Rm.here | exact Rm.nil0 | apply Rm.skip | apply Rm.skipS)); done)) | apply Take.cons)) (by repeat (first | exact Rm.chunk | exact Rm.here | exact Rm.nil0 | apply Rm.skip | apply Rm.skipS)) ?_
  refine WP.next ?_
  refine WP.ret ?_
  refine WP.fin .ret (.inr rfl) (res1 rfl rfl) ((l, row 89 _) :: (bv, row 90 (tps ms ++ sv)) :: ms.flatMap (mach q)) (by repeat (first | exact Take.nil | with_reducible apply Take.cons | apply Take.app | exact Rm.chunk | exact Rm.here | exact Rm.nil0 | apply Rm.skip | apply Rm.skipS | (focus (apply Take.all; (repeat (first | exact Rm.chunk | exact Rm.here | exact Rm.nil0 | apply Rm.skip | apply Rm.skipS)); done)) | apply Take.cons)) (by repeat (first | exact Leave.done | apply Leave.drop | apply Leave.dropS)) (Imm.le_refl _) ?_
  exact ⟨by rw [stepsAt, adAt_map hi], rfl, rfl⟩


theorem loom_Steps {I : Imm} {l q : Nat} {xs : List Ad} {L : Chunks} (hd : IsLoom l q xs L) {k : Int} : Spec Try.prog 25 [.pointer (some ⟨l, 0, none⟩), .int .i64 k] I L (fun v J L' => v = .int .i64 (stepsAt (xs) k) ∧ I = J ∧ L = L') := by
  by_cases hk : k < 0 ∨ (xs.length : Int) ≤ k
  · exact loom_Steps_no hd hk
  · obtain ⟨i, rfl⟩ : ∃ i : Nat, k = (i : Int) := ⟨k.toNat, by omega⟩
    exact loom_Steps_at hd (by omega)
theorem loom_Pick_no {I : Imm} {l q : Nat} {xs : List Ad} {L : Chunks} (hd : IsLoom l q xs L) {c : Nat} {s : CS} {k : Int} (hk : k < 0 ∨ (xs.length : Int) ≤ k) : Spec Try.prog 18 [.pointer (some ⟨l, 0, none⟩), .int .i64 k] I (L ++ csCh q c s) (fun v J L' => v = .int .i64 (pick xs s k).2.2 ∧ I = J ∧ ∃ L1, L' = L1 ++ csCh q c (pick xs s k).2.1 ∧ IsLoom l q (pick xs s k).1 L1) := by
  cases hd with
  | @mk vs Lv ms e ow hl =>
  subst e
  obtain ⟨As, cs_, rfl, hcs⟩ := ow.slice
  have hk' : k < 0 ∨ (ms.length : Int) ≤ k := by simpa using hk
  refine Spec.of Try.func18 rfl Try.ntmps18 (Nat.le_of_ble_eq_true rfl) (fun F => ?_)
  try simp only [List.cons_append, List.nil_append, List.append_assoc]
  dsimp only [argsEnv]
  refine WP.seq ?_
  refine WP.region [0] rfl ?_
  refine WP.val rfl rfl rfl rfl (Yld.assign rfl rfl) ?_
  refine WP.nil ?_
  refine WP.next ?_
  refine WP.seq ?_
  refine WP.region [0, 1, 2, 3, 4, 5, 6, 7] rfl ?_
  refine WP.val rfl rfl rfl rfl (Yld.move rfl rfl) ?_
  refine WP.val rfl rfl rfl rfl (Yld.move rfl rfl) ?_
  refine WP.loud rfl rfl ?_
  refine Op.call (loom_find_no hk') rfl Try.func41 rfl rfl rfl rfl (by repeat (first | exact Take.nil | with_reducible apply Take.cons | apply Take.app | exact Rm.chunk | exact Rm.here | exact Rm.nil0 | apply Rm.skip | apply Rm.skipS | (focus (apply Take.all; (repeat (first | exact Rm.chunk | exact Rm.here | exact Rm.nil0 | apply Rm.skip | apply Rm.skipS)); done)) | apply Take.cons)) ?_
  rintro v J L1 hJ ⟨rfl, rfl, rfl⟩
  clear hJ; try simp only [List.cons_append, List.nil_append, List.append_assoc]
  refine WP.val rfl rfl rfl rfl (Yld.move rfl rfl) ?_
  refine WP.val rfl rfl rfl rfl (Yld.extract rfl rfl rfl) ?_
  refine WP.val rfl rfl rfl rfl (Yld.extract rfl rfl rfl) ?_
  refine WP.val rfl rfl rfl rfl (Yld.assign rfl rfl) ?_
  refine WP.val rfl rfl rfl rfl (Yld.assign rfl rfl) ?_
  refine WP.nil ?_
  refine WP.sub [(0, _), (1, _), (4, _), (5, _), (6, _)] ?_ ⟨rfl, rfl, rfl, rfl, rfl, trivial⟩
  refine WP.next ?_
  refine WP.seq ?_
  refine WP.block ?_
  refine WP.seq ?_
  refine WP.region [0, 1, 2] rfl ?_
  refine WP.val rfl rfl rfl rfl (Yld.move rfl rfl) ?_
  refine WP.val rfl rfl rfl rfl (Yld.not rfl rfl) ?_
  refine WP.val rfl rfl rfl rfl (Yld.assign rfl rfl) ?_
  refine WP.nil ?_
  refine WP.sub [(0, _), (1, _), (4, _), (5, _), (6, _), (13, _)] ?_ ⟨rfl, rfl, rfl, rfl, rfl, rfl, trivial⟩
  refine WP.next ?_
  refine WP.condT rfl ?_
  refine WP.seq ?_
  refine WP.region [0] rfl ?_
  refine WP.val rfl rfl rfl rfl (Yld.assign rfl rfl) ?_
  refine WP.nil ?_
  refine WP.next ?_
  refine WP.ret ?_
  refine WP.fin .ret (.inr rfl) (res1 rfl rfl) ((l, row 89 _) :: (Lv ++ (ms.flatMap (mach q) ++ csCh q c s))) (by repeat (first | exact Take.nil | with_reducible apply Take.cons | apply Take.app | exact Rm.chunk | exact Rm.here | exact Rm.nil0 | apply Rm.skip | apply Rm.skipS | (focus (apply Take.all; (repeat (first | exact Rm.chunk | exact Rm.here | exact Rm.nil0 | apply Rm.skip | apply Rm.skipS)); done)) | apply Take.cons)) (by repeat (first | exact Leave.done | apply Leave.drop | apply Leave.dropS)) (Imm.le_refl _) ?_
  rw [show pick (ms.map (·.2)) s k = (ms.map (·.2), s, 1) by unfold pick; rw [adAt_no hk]]
  exact ⟨rfl, rfl, ((l, row 89 _) :: (Lv ++ ms.flatMap (mach q))), by simp, .mk rfl ow hl⟩

theorem loom_Pick_at {I : Imm} {l q : Nat} {xs : List Ad} {L : Chunks} (hd : IsLoom l q xs L) {c : Nat} {s : CS} {i : Nat} (hi0 : i < xs.length) : Spec Try.prog 18 [.pointer (some ⟨l, 0, none⟩), .int .i64 (i : Int)] I (L ++ csCh q c s) (fun v J L' => v = .int .i64 (pick xs s (i : Int)).2.2 ∧ I = J ∧ ∃ L1, L' = L1 ++ csCh q c (pick xs s (i : Int)).2.1 ∧ IsLoom l q (pick xs s (i : Int)).1 L1) := by
  cases hd with
  | @mk vs Lv ms e ow hl =>
  subst e
  obtain ⟨As, cs_, rfl, hcs⟩ := ow.slice
  have hi : i < ms.length := by simpa using hi0
  refine Spec.of Try.func18 rfl Try.ntmps18 (Nat.le_of_ble_eq_true rfl) (fun F => ?_)
  try simp only [List.cons_append, List.nil_append, List.append_assoc]
  dsimp only [argsEnv]
  refine WP.seq ?_
  refine WP.region [0] rfl ?_
  refine WP.val rfl rfl rfl rfl (Yld.assign rfl rfl) ?_
  refine WP.nil ?_
  refine WP.next ?_
  refine WP.seq ?_
  obtain ⟨bv, cv, sv, hvv, rfl, hqv, hrv⟩ := ow.get (by omega)
  injection hvv with hA _ hcl
  subst hA hcl
  try simp only [List.cons_append, List.nil_append, List.append_assoc]
  refine WP.region [0, 1, 2, 3, 4, 5, 6, 7] rfl ?_
  refine WP.val rfl rfl rfl rfl (Yld.move rfl rfl) ?_
  refine WP.val rfl rfl rfl rfl (Yld.move rfl rfl) ?_
  refine WP.loud rfl rfl ?_
  refine Op.call (loom_find hi) rfl Try.func41 rfl rfl rfl rfl (by repeat (first | exact Take.nil | with_reducible apply Take.cons | apply Take.app | exact Rm.chunk | exact Rm.here | exact Rm.nil0 | apply Rm.skip | apply Rm.skipS | (focus (apply Take.all; (repeat (first | exact Rm.chunk | exact Rm.here | exact Rm.nil0 | apply Rm.skip | apply Rm.skipS)); done)) | apply Take.cons)) ?_
  rintro v J L1 hJ ⟨rfl, rfl, rfl⟩
  clear hJ; try simp only [List.cons_append, List.nil_append, List.append_assoc]
  refine WP.val rfl rfl rfl rfl (Yld.move rfl rfl) ?_
  refine WP.val rfl rfl rfl rfl (Yld.extract rfl rfl rfl) ?_
  refine WP.val rfl rfl rfl rfl (Yld.extract rfl rfl rfl) ?_
  refine WP.val rfl rfl rfl rfl (Yld.assign rfl rfl) ?_
  refine WP.val rfl rfl rfl rfl (Yld.assign rfl rfl) ?_
  refine WP.nil ?_
  refine WP.sub [(0, _), (1, _), (4, _), (5, _), (6, _)] ?_ ⟨rfl, rfl, rfl, rfl, rfl, trivial⟩
  refine WP.next ?_
  refine WP.seq ?_
  refine WP.block ?_
  refine WP.seq ?_
  refine WP.outL (f := mach q) (l := ms) i hi (by repeat (first | exact Rm.chunk | exact Rm.here | exact Rm.nil0 | apply Rm.skip | apply Rm.skipS)) ?_
  simp only [mach, thCh, List.cons_append, List.nil_append, List.append_assoc]
  refine WP.region [0, 1, 2] rfl ?_
  refine WP.val rfl rfl rfl rfl (Yld.move rfl rfl) ?_
  refine WP.val rfl rfl rfl rfl (Yld.not rfl rfl) ?_
  refine WP.val rfl rfl rfl rfl (Yld.assign rfl rfl) ?_
  refine WP.nil ?_
  refine WP.sub [(0, _), (1, _), (4, _), (5, _), (6, _), (13, _)] ?_ ⟨rfl, rfl, rfl, rfl, rfl, rfl, trivial⟩
  refine WP.next ?_
  refine WP.condF rfl ?_
  refine WP.seq ?_
  refine WP.region [0, 1, 2, 3, 4] rfl ?_
  refine WP.val rfl rfl rfl rfl (Yld.move rfl rfl) ?_
  refine WP.val rfl rfl rfl rfl (Yld.nilCheck rfl rfl) ?_
  refine WP.val rfl rfl rfl rfl (Yld.fieldAddr rfl ty_fd_92_1 rfl) ?_
  refine WP.splitB rfl rfl rfl rfl (Yld.load rfl ty_sc_4 rfl (by repeat (first | exact There.h | exact There.i (by assumption) | apply There.t | apply There.s)) rfl) (fun hb => ?_) (fun hb => ?_)
  · refine WP.val rfl rfl rfl rfl (Yld.assign rfl rfl) ?_
    refine WP.nil ?_
    refine WP.sub [(0, _), (1, _), (4, _), (5, _), (6, _), (13, _), (16, _)] ?_ ⟨rfl, rfl, rfl, rfl, rfl, rfl, rfl, trivial⟩
    refine WP.next ?_
    refine WP.condT rfl ?_
    refine WP.seq ?_
    refine WP.inL (f := mach q) (l := ms) i hi (by repeat (first | exact Take.nil | with_reducible apply Take.cons | apply Take.app | exact Rm.chunk | exact Rm.here | exact Rm.nil0 | apply Rm.skip | apply Rm.skipS | (focus (apply Take.all; (repeat (first | exact Rm.chunk | exact Rm.here | exact Rm.nil0 | apply Rm.skip | apply Rm.skipS)); done)) | apply Take.cons)) (by repeat (first | exact Rm.chunk | exact Rm.here | exact Rm.nil0 | apply Rm.skip | apply Rm.skipS)) ?_
    refine WP.region [0] rfl ?_
    refine WP.val rfl rfl rfl rfl (Yld.assign rfl rfl) ?_
    refine WP.nil ?_
    refine WP.next ?_
    refine WP.ret ?_
    refine WP.fin .ret (.inr rfl) (res1 rfl rfl) ((l, row 89 _) :: (bv, row 90 (tps ms ++ sv)) :: (ms.flatMap (mach q) ++ csCh q c s)) (by repeat (first | exact Take.nil | with_reducible apply Take.cons | apply Take.app | exact Rm.chunk | exact Rm.here | exact Rm.nil0 | apply Rm.skip | apply Rm.skipS | (focus (apply Take.all; (repeat (first | exact Rm.chunk | exact Rm.here | exact Rm.nil0 | apply Rm.skip | apply Rm.skipS)); done)) | apply Take.cons)) (by repeat (first | exact Leave.done | apply Leave.drop | apply Leave.dropS)) (Imm.le_refl _) ?_
    rw [show pick (ms.map (·.2)) s (i : Int) = (ms.map (·.2), s, 5) by unfold pick; rw [adAt_map hi]; simp [hb]]
    exact ⟨rfl, rfl, ((l, row 89 _) :: (bv, row 90 (tps ms ++ sv)) :: ms.flatMap (mach q)), by simp, .mk (Lv := [(bv, row 90 (tps ms ++ sv))]) rfl ow hl⟩
  · refine WP.val rfl rfl rfl rfl (Yld.assign rfl rfl) ?_
    refine WP.nil ?_
    refine WP.sub [(0, _), (1, _), (4, _), (5, _), (6, _), (13, _), (16, _)] ?_ ⟨rfl, rfl, rfl, rfl, rfl, rfl, rfl, trivial⟩
    refine WP.next ?_
    refine WP.condF rfl ?_
    refine WP.skip ?_
    refine WP.leave ?_
    refine WP.next ?_
    refine WP.seq ?_
    refine WP.region [0, 1] rfl ?_
    refine WP.val rfl rfl rfl rfl (Yld.move rfl rfl) ?_
    refine WP.loud rfl rfl ?_
    refine Op.call (loom_tStepP (hl _ (List.mem_map_of_mem (List.getElem_mem hi)))) rfl Try.func42 rfl rfl rfl rfl (by repeat (first | exact Take.nil | with_reducible apply Take.cons | apply Take.app | exact Rm.chunk | exact Rm.here | exact Rm.nil0 | apply Rm.skip | apply Rm.skipS | (focus (apply Take.all; (repeat (first | exact Rm.chunk | exact Rm.here | exact Rm.nil0 | apply Rm.skip | apply Rm.skipS)); done)) | apply Take.cons)) ?_
    rintro v J L1 hJ ⟨rfl, rfl, rfl⟩
    clear hJ; try simp only [List.cons_append, List.nil_append, List.append_assoc]
    refine WP.nil ?_
    refine WP.sub [(0, _), (1, _), (4, _), (5, _), (6, _), (13, _), (16, _)] ?_ ⟨rfl, rfl, rfl, rfl, rfl, rfl, rfl, trivial⟩
    refine WP.backL (f := mach q) (l := ms) i hi (ms[i].1, (tStep ms[i].2 s).1) (by repeat (first | exact Take.nil | with_reducible apply Take.cons | apply Take.app | exact Rm.chunk | exact Rm.here | exact Rm.nil0 | apply Rm.skip | apply Rm.skipS | (focus (apply Take.all; (repeat (first | exact Rm.chunk | exact Rm.here | exact Rm.nil0 | apply Rm.skip | apply Rm.skipS)); done)) | apply Take.cons)) (by repeat (first | exact Rm.chunk | exact Rm.here | exact Rm.nil0 | apply Rm.skip | apply Rm.skipS)) ?_
    refine WP.next ?_
    refine WP.seq ?_
    refine WP.region [0] rfl ?_
    refine WP.val rfl rfl rfl rfl (Yld.assign rfl rfl) ?_
    refine WP.nil ?_
    refine WP.next ?_
    refine WP.ret ?_
    refine WP.fin .ret (.inr rfl) (res1 rfl rfl) ((l, row 89 _) :: (bv, row 90 (tps ms ++ sv)) :: ((ms.set i (ms[i].1, (tStep ms[i].2 s).1)).flatMap (mach q) ++ csCh q c (tStep ms[i].2 s).2)) (by repeat (first | exact Take.nil | with_reducible apply Take.cons | apply Take.app | exact Rm.chunk | exact Rm.here | exact Rm.nil0 | apply Rm.skip | apply Rm.skipS | (focus (apply Take.all; (repeat (first | exact Rm.chunk | exact Rm.here | exact Rm.nil0 | apply Rm.skip | apply Rm.skipS)); done)) | apply Take.cons)) (by repeat (first | exact Leave.done | apply Leave.drop | apply Leave.dropS)) (Imm.le_refl _) ?_
    rw [show pick (ms.map (·.2)) s (i : Int) = ((ms.set i (ms[i].1, (tStep ms[i].2 s).1)).map (·.2), (tStep ms[i].2 s).2, 0) by unfold pick; rw [adAt_map hi]; simp [hb, stepAt_map hi]]
    have hls := lefts_step hl s i
    rw [stepAt_map hi] at hls
    exact ⟨rfl, rfl, (l, row 89 [.slice (some ⟨bv, 0, none⟩) ms.length cs_]) :: (bv, row 90 (tps ms ++ sv)) :: (ms.set i (ms[i].1, (tStep ms[i].2 s).1)).flatMap (mach q), by simp, .mk (ms := ms.set i (ms[i].1, (tStep ms[i].2 s).1)) (Lv := [(bv, row 90 (tps ms ++ sv))]) rfl (by rw [tps_set hi, List.length_set]; exact ow) hls⟩


theorem loom_Pick {I : Imm} {l q : Nat} {xs : List Ad} {L : Chunks} (hd : IsLoom l q xs L) {c : Nat} {s : CS} {k : Int} : Spec Try.prog 18 [.pointer (some ⟨l, 0, none⟩), .int .i64 k] I (L ++ csCh q c s) (fun v J L' => v = .int .i64 (pick xs s k).2.2 ∧ I = J ∧ ∃ L1, L' = L1 ++ csCh q c (pick xs s k).2.1 ∧ IsLoom l q (pick xs s k).1 L1) := by
  by_cases hk : k < 0 ∨ (xs.length : Int) ≤ k
  · exact loom_Pick_no hd hk
  · obtain ⟨i, rfl⟩ : ∃ i : Nat, k = (i : Int) := ⟨k.toNat, by omega⟩
    exact loom_Pick_at hd (by omega)

end Go.Hp
