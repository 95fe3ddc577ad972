import Derived.Test.YtdobkjbpehdokaaHpQuiet
import Derived.Test.YtdobkjbpehdokaaTy
set_option linter.unusedVariables false
set_option linter.unusedSimpArgs false
namespace Go.Hp
open Go Go.Proofs

theorem ext_load {I : Imm} {L : Chunks} {b k T : Nat} {cs : List Value} {x : Int} (hm : There I L b (row T cs)) (hk : cs[k]? = some (.int .i64 x)) :
    Ans Try.prog 55 [Value.pointer (some ⟨b, k, none⟩)] I L (.int .i64 x) I L := fun W hW =>
  ⟨W, run_call_load Try.func55 rfl rfl rfl .i64 rfl (by simp [World.cell?, hm.heap hW, row, hk]), hW⟩
theorem ext_store {I : Imm} {L L' : Chunks} {b k T : Nat} {cs cs' : List Value} {y : Int} (hu : Upd L b (row T cs) (row T cs') L') (hs : SetAt cs k (.int .i64 y) cs') :
    Ans Try.prog 53 [Value.pointer (some ⟨b, k, none⟩), .int .i64 y] I L (.tuple #[]) I L' := fun W hW => by
  obtain ⟨h1, _⟩ := hs.spec
  have hc : W.cell? ⟨b, k, none⟩ = some cs[k] := by simp [World.cell?, hW.own _ hu.mem, row, h1]
  exact ⟨_, run_call_store Try.func53 rfl rfl rfl rfl hc (by simp [World.frozen?, hW.own _ hu.mem, row]), hW.setCell hu hs⟩
theorem ext_add {I : Imm} {L L' : Chunks} {b k T : Nat} {cs cs' : List Value} {x y : Int} (hk : cs[k]? = some (.int .i64 x)) (hu : Upd L b (row T cs) (row T cs') L') (hs : SetAt cs k (.int .i64 (IntKind.i64.wrap (x + y))) cs') :
    Ans Try.prog 56 [Value.pointer (some ⟨b, k, none⟩), .int .i64 y] I L (.int .i64 (IntKind.i64.wrap (x + y))) I L' := fun W hW =>
  ⟨_, run_call_add (x := x) Try.func56 rfl rfl rfl .i64 rfl (by simp [World.cell?, hW.own _ hu.mem, row, hk]) (by simp [World.frozen?, hW.own _ hu.mem, row]) (by simp [Op.intArith]), hW.setCell hu hs⟩
theorem ext_hit {I : Imm} {L L' : Chunks} {b k T : Nat} {cs cs' : List Value} {x y : Int} (hk : cs[k]? = some (.int .i64 x)) (hu : Upd L b (row T cs) (row T cs') L') (hs : SetAt cs k (.int .i64 y) cs') :
    Ans Try.prog 60 [Value.pointer (some ⟨b, k, none⟩), .int .i64 x, .int .i64 y] I L (.bool true) I L' := fun W hW =>
  ⟨_, run_call_cas_hit Try.func60 rfl rfl rfl .i64 rfl (by simp [World.cell?, hW.own _ hu.mem, row, hk]) (by simp [World.frozen?, hW.own _ hu.mem, row]), hW.setCell hu hs⟩
theorem ext_miss {I : Imm} {L : Chunks} {b k T : Nat} {cs : List Value} {x z y : Int} (hm : There I L b (row T cs)) (hk : cs[k]? = some (.int .i64 z)) (hne : ¬ z = x) (hz : ∀ W, Has I L W → W.frozen? ⟨b, k, none⟩ = false) :
    Ans Try.prog 60 [Value.pointer (some ⟨b, k, none⟩), .int .i64 x, .int .i64 y] I L (.bool false) I L := fun W hW =>
  ⟨_, run_call_cas_miss Try.func60 rfl rfl rfl .i64 rfl (by simp [World.cell?, hm.heap hW, row, hk]) (hz W hW) hne, hW⟩
theorem atLoad {I : Imm} {b k T : Nat} {cs : List Value} {x : Int} (hk : cs[k]? = some (.int .i64 x)) : Spec Try.prog 43 [.pointer (some ⟨b, k, none⟩)] I [(b, row T cs)] (fun v J L => v = .int .i64 x ∧ I = J ∧ L = [(b, row T cs)]) := by
  refine Spec.of Try.func43 rfl Try.ntmps43 (Nat.le_of_ble_eq_true rfl) (fun F => ?_)
  try simp only [List.cons_append, List.nil_append, List.append_assoc]
  dsimp only [argsEnv]
  refine WP.seq ?_
  refine WP.region [0] rfl ?_
  refine WP.val rfl rfl rfl rfl (Yld.assign rfl rfl) ?_
  refine WP.nil ?_
  refine WP.next ?_
  refine WP.seq ?_
  refine WP.region [0, 1, 2, 3, 4] rfl ?_
  refine WP.val rfl rfl rfl rfl (Yld.move rfl rfl) ?_
  refine WP.val rfl rfl rfl rfl (Yld.nilCheck rfl rfl) ?_
  refine WP.val rfl rfl rfl rfl (Yld.fieldAddr rfl ty_fd_81_2 rfl) ?_
  refine WP.loud rfl rfl ?_
  refine Op.ext (ext_load There.h hk) rfl rfl rfl rfl ?_
  refine WP.val rfl rfl rfl rfl (Yld.assign rfl rfl) ?_
  refine WP.nil ?_
  refine WP.sub [(0, _), (2, _)] ?_ ⟨rfl, rfl, trivial⟩
  refine WP.next ?_
  refine WP.ret ?_
  refine WP.fin .ret (.inr rfl) (res1 rfl rfl) [(b, row T cs)] (by repeat (first | exact Take.nil | with_reducible apply Take.cons | apply Take.app | exact Rm.chunk | exact Rm.here | exact Rm.nil0 | apply Rm.skip | apply Rm.skipS | (focus (apply Take.all; (repeat (first | exact Rm.chunk | exact Rm.here | exact Rm.nil0 | apply Rm.skip | apply Rm.skipS)); done)) | apply Take.cons)) (by repeat (first | exact Leave.done | apply Leave.drop | apply Leave.dropS)) (Imm.le_refl _) ?_
  exact ⟨rfl, rfl, rfl⟩

theorem atStore {I : Imm} {b k T : Nat} {cs cs' : List Value} {y : Int} (hs : SetAt cs k (.int .i64 y) cs') : Spec Try.prog 37 [.pointer (some ⟨b, k, none⟩), .int .i64 y] I [(b, row T cs)] (fun v J L => v = .tuple #[] ∧ I = J ∧ L = [(b, row T cs')]) := by
  refine Spec.of Try.func37 rfl Try.ntmps37 (Nat.le_of_ble_eq_true rfl) (fun F => ?_)
  try simp only [List.cons_append, List.nil_append, List.append_assoc]
  dsimp only [argsEnv]
  refine WP.region [0, 1, 2, 3, 4] rfl ?_
  refine WP.val rfl rfl rfl rfl (Yld.move rfl rfl) ?_
  refine WP.val rfl rfl rfl rfl (Yld.nilCheck rfl rfl) ?_
  refine WP.val rfl rfl rfl rfl (Yld.fieldAddr rfl ty_fd_81_2 rfl) ?_
  refine WP.val rfl rfl rfl rfl (Yld.move rfl rfl) ?_
  refine WP.loud rfl rfl ?_
  refine Op.ext (ext_store Upd.head hs) rfl rfl rfl rfl ?_
  refine WP.nil ?_
  refine WP.sub [(0, _), (1, _)] ?_ ⟨rfl, rfl, trivial⟩
  refine WP.fin .normal (.inl rfl) (res0 rfl) [(b, row T cs')] (by repeat (first | exact Take.nil | with_reducible apply Take.cons | apply Take.app | exact Rm.chunk | exact Rm.here | exact Rm.nil0 | apply Rm.skip | apply Rm.skipS | (focus (apply Take.all; (repeat (first | exact Rm.chunk | exact Rm.here | exact Rm.nil0 | apply Rm.skip | apply Rm.skipS)); done)) | apply Take.cons)) (by repeat (first | exact Leave.done | apply Leave.drop | apply Leave.dropS)) (Imm.le_refl _) ?_
  exact ⟨rfl, rfl, rfl⟩

theorem atAdd {I : Imm} {b k T : Nat} {cs cs' : List Value} {x y : Int} (hk : cs[k]? = some (.int .i64 x)) (hs : SetAt cs k (.int .i64 (IntKind.i64.wrap (x + y))) cs') : Spec Try.prog 44 [.pointer (some ⟨b, k, none⟩), .int .i64 y] I [(b, row T cs)] (fun v J L => v = .int .i64 (IntKind.i64.wrap (x + y)) ∧ I = J ∧ L = [(b, row T cs')]) := by
  refine Spec.of Try.func44 rfl Try.ntmps44 (Nat.le_of_ble_eq_true rfl) (fun F => ?_)
  try simp only [List.cons_append, List.nil_append, List.append_assoc]
  dsimp only [argsEnv]
  refine WP.seq ?_
  refine WP.region [0] rfl ?_
  refine WP.val rfl rfl rfl rfl (Yld.assign rfl rfl) ?_
  refine WP.nil ?_
  refine WP.next ?_
  refine WP.seq ?_
  refine WP.region [0, 1, 2, 3, 4, 5] rfl ?_
  refine WP.val rfl rfl rfl rfl (Yld.move rfl rfl) ?_
  refine WP.val rfl rfl rfl rfl (Yld.nilCheck rfl rfl) ?_
  refine WP.val rfl rfl rfl rfl (Yld.fieldAddr rfl ty_fd_81_2 rfl) ?_
  refine WP.val rfl rfl rfl rfl (Yld.move rfl rfl) ?_
  refine WP.loud rfl rfl ?_
  refine Op.ext (ext_add hk Upd.head hs) rfl rfl rfl rfl ?_
  refine WP.val rfl rfl rfl rfl (Yld.assign rfl rfl) ?_
  refine WP.nil ?_
  refine WP.sub [(0, _), (1, _), (4, _)] ?_ ⟨rfl, rfl, rfl, trivial⟩
  refine WP.next ?_
  refine WP.ret ?_
  refine WP.fin .ret (.inr rfl) (res1 rfl rfl) [(b, row T cs')] (by repeat (first | exact Take.nil | with_reducible apply Take.cons | apply Take.app | exact Rm.chunk | exact Rm.here | exact Rm.nil0 | apply Rm.skip | apply Rm.skipS | (focus (apply Take.all; (repeat (first | exact Rm.chunk | exact Rm.here | exact Rm.nil0 | apply Rm.skip | apply Rm.skipS)); done)) | apply Take.cons)) (by repeat (first | exact Leave.done | apply Leave.drop | apply Leave.dropS)) (Imm.le_refl _) ?_
  exact ⟨rfl, rfl, rfl⟩

theorem atHit {I : Imm} {b k T : Nat} {cs cs' : List Value} {x y : Int} (hk : cs[k]? = some (.int .i64 x)) (hs : SetAt cs k (.int .i64 y) cs') : Spec Try.prog 54 [.pointer (some ⟨b, k, none⟩), .int .i64 x, .int .i64 y] I [(b, row T cs)] (fun v J L => v = .bool true ∧ I = J ∧ L = [(b, row T cs')]) := by
  refine Spec.of Try.func54 rfl Try.ntmps54 (Nat.le_of_ble_eq_true rfl) (fun F => ?_)
  try simp only [List.cons_append, List.nil_append, List.append_assoc]
  dsimp only [argsEnv]
  refine WP.seq ?_
  refine WP.region [0] rfl ?_
  refine WP.val rfl rfl rfl rfl (Yld.assign rfl rfl) ?_
  refine WP.nil ?_
  refine WP.next ?_
  refine WP.seq ?_
  refine WP.region [0, 1, 2, 3, 4, 5, 6] rfl ?_
  refine WP.val rfl rfl rfl rfl (Yld.move rfl rfl) ?_
  refine WP.val rfl rfl rfl rfl (Yld.nilCheck rfl rfl) ?_
  refine WP.val rfl rfl rfl rfl (Yld.fieldAddr rfl ty_fd_81_2 rfl) ?_
  refine WP.val rfl rfl rfl rfl (Yld.move rfl rfl) ?_
  refine WP.val rfl rfl rfl rfl (Yld.move rfl rfl) ?_
  refine WP.loud rfl rfl ?_
  refine Op.ext (ext_hit hk Upd.head hs) rfl rfl rfl rfl ?_
  refine WP.val rfl rfl rfl rfl (Yld.assign rfl rfl) ?_
  refine WP.nil ?_
  refine WP.sub [(0, _), (1, _), (2, _), (6, _)] ?_ ⟨rfl, rfl, rfl, rfl, trivial⟩
  refine WP.next ?_
  refine WP.ret ?_
  refine WP.fin .ret (.inr rfl) (res1 rfl rfl) [(b, row T cs')] (by repeat (first | exact Take.nil | with_reducible apply Take.cons | apply Take.app | exact Rm.chunk | exact Rm.here | exact Rm.nil0 | apply Rm.skip | apply Rm.skipS | (focus (apply Take.all; (repeat (first | exact Rm.chunk | exact Rm.here | exact Rm.nil0 | apply Rm.skip | apply Rm.skipS)); done)) | apply Take.cons)) (by repeat (first | exact Leave.done | apply Leave.drop | apply Leave.dropS)) (Imm.le_refl _) ?_
  exact ⟨rfl, rfl, rfl⟩

theorem atMiss {I : Imm} {b k T : Nat} {cs : List Value} {x y z : Int} (hk : cs[k]? = some (.int .i64 z)) (hne : ¬ z = x) : Spec Try.prog 54 [.pointer (some ⟨b, k, none⟩), .int .i64 x, .int .i64 y] I [(b, row T cs)] (fun v J L => v = .bool false ∧ I = J ∧ L = [(b, row T cs)]) := by
  refine Spec.of Try.func54 rfl Try.ntmps54 (Nat.le_of_ble_eq_true rfl) (fun F => ?_)
  try simp only [List.cons_append, List.nil_append, List.append_assoc]
  dsimp only [argsEnv]
  refine WP.seq ?_
  refine WP.region [0] rfl ?_
  refine WP.val rfl rfl rfl rfl (Yld.assign rfl rfl) ?_
  refine WP.nil ?_
  refine WP.next ?_
  refine WP.seq ?_
  refine WP.region [0, 1, 2, 3, 4, 5, 6] rfl ?_
  refine WP.val rfl rfl rfl rfl (Yld.move rfl rfl) ?_
  refine WP.val rfl rfl rfl rfl (Yld.nilCheck rfl rfl) ?_
  refine WP.val rfl rfl rfl rfl (Yld.fieldAddr rfl ty_fd_81_2 rfl) ?_
  refine WP.val rfl rfl rfl rfl (Yld.move rfl rfl) ?_
  refine WP.val rfl rfl rfl rfl (Yld.move rfl rfl) ?_
  refine WP.loud rfl rfl ?_
  refine Op.ext (ext_miss There.h hk hne (fun W hW => by simp [World.frozen?, There.h.heap hW, row])) rfl rfl rfl rfl ?_
  refine WP.val rfl rfl rfl rfl (Yld.assign rfl rfl) ?_
  refine WP.nil ?_
  refine WP.sub [(0, _), (1, _), (2, _), (6, _)] ?_ ⟨rfl, rfl, rfl, rfl, trivial⟩
  refine WP.next ?_
  refine WP.ret ?_
  refine WP.fin .ret (.inr rfl) (res1 rfl rfl) [(b, row T cs)] (by repeat (first | exact Take.nil | with_reducible apply Take.cons | apply Take.app | exact Rm.chunk | exact Rm.here | exact Rm.nil0 | apply Rm.skip | apply Rm.skipS | (focus (apply Take.all; (repeat (first | exact Rm.chunk | exact Rm.here | exact Rm.nil0 | apply Rm.skip | apply Rm.skipS)); done)) | apply Take.cons)) (by repeat (first | exact Leave.done | apply Leave.drop | apply Leave.dropS)) (Imm.le_refl _) ?_
  exact ⟨rfl, rfl, rfl⟩


end Go.Hp
