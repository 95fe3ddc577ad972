import Derived.Test.YtcebcphnmbhcpaaGreatHpQuiet
import Derived.Test.YtcebcphnmbhcpaaGreatTy
import Derived.Test.YtcebcphnmbhcpaaGreatHpPtr
set_option linter.unusedVariables false
set_option linter.unusedSimpArgs false
namespace Go.Hp
open Go Go.Proofs

theorem ext_load {I : Imm} {L : Chunks} {b k T : Nat} {cs : List Value} {x : Int} (hm : There I L b (row T cs)) (hk : cs[k]? = some (.int .i64 x)) :
  Ans Tryz.prog 76 [Value.pointer (some ⟨b, k, none⟩)] I L (.int .i64 x) I L := fun W hW =>
 ⟨W, run_call_load Tryz.func76 rfl rfl rfl .i64 rfl (by simp [World.cell?, hm.heap hW, row, hk]), hW⟩
theorem ext_store {I : Imm} {L L' : Chunks} {b k T : Nat} {cs cs' : List Value} {y : Int} (hu : Upd L b (row T cs) (row T cs') L') (hs : SetAt cs k (.int .i64 y) cs') :
  Ans Tryz.prog 77 [Value.pointer (some ⟨b, k, none⟩), .int .i64 y] I L (.tuple #[]) I L' := fun W hW => by
 obtain ⟨h1, _⟩ := hs.spec
 have hc : W.cell? ⟨b, k, none⟩ = some cs[k] := by simp [World.cell?, hW.own _ hu.mem, row, h1]
 exact ⟨_, run_call_store Tryz.func77 rfl rfl rfl rfl hc (by simp [World.frozen?, hW.own _ hu.mem, row]), hW.setCell hu hs⟩
theorem ext_add {I : Imm} {L L' : Chunks} {b k T : Nat} {cs cs' : List Value} {x y : Int} (hk : cs[k]? = some (.int .i64 x)) (hu : Upd L b (row T cs) (row T cs') L') (hs : SetAt cs k (.int .i64 (IntKind.i64.wrap (x + y))) cs') :
  Ans Tryz.prog 71 [Value.pointer (some ⟨b, k, none⟩), .int .i64 y] I L (.int .i64 (IntKind.i64.wrap (x + y))) I L' := fun W hW =>
 ⟨_, run_call_add (x := x) Tryz.func71 rfl rfl rfl .i64 rfl (by simp [World.cell?, hW.own _ hu.mem, row, hk]) (by simp [World.frozen?, hW.own _ hu.mem, row]) (by simp [Op.intArith]), hW.setCell hu hs⟩
theorem ext_hit {I : Imm} {L L' : Chunks} {b k T : Nat} {cs cs' : List Value} {x y : Int} (hk : cs[k]? = some (.int .i64 x)) (hu : Upd L b (row T cs) (row T cs') L') (hs : SetAt cs k (.int .i64 y) cs') :
  Ans Tryz.prog 70 [Value.pointer (some ⟨b, k, none⟩), .int .i64 x, .int .i64 y] I L (.bool true) I L' := fun W hW =>
 ⟨_, run_call_cas_hit Tryz.func70 rfl rfl rfl .i64 rfl (by simp [World.cell?, hW.own _ hu.mem, row, hk]) (by simp [World.frozen?, hW.own _ hu.mem, row]), hW.setCell hu hs⟩
theorem ext_miss {I : Imm} {L : Chunks} {b k T : Nat} {cs : List Value} {x z y : Int} (hm : There I L b (row T cs)) (hk : cs[k]? = some (.int .i64 z)) (hne : ¬ z = x) (hz : ∀ W, Has I L W → W.frozen? ⟨b, k, none⟩ = false) :
  Ans Tryz.prog 70 [Value.pointer (some ⟨b, k, none⟩), .int .i64 x, .int .i64 y] I L (.bool false) I L := fun W hW =>
 ⟨_, run_call_cas_miss Tryz.func70 rfl rfl rfl .i64 rfl (by simp [World.cell?, hm.heap hW, row, hk]) (hz W hW) hne, hW⟩
theorem atLoad {I : Imm} {b k T : Nat} {cs : List Value} {x : Int} (hk : cs[k]? = some (.int .i64 x)) : Spec Tryz.prog 65 [.pointer (some ⟨b, k, none⟩)] I [(b, row T cs)] (fun v J L => v = .int .i64 x ∧ I = J ∧ L = [(b, row T cs)]) := by
 refine Spec.of Tryz.func65 rfl Tryz.ntmps65 (Nat.le_of_ble_eq_true rfl) (fun F => ?_)
 try simp only [nf]
 dsimp only [argsEnv]
 refine WP.seq ?_; refine WP.region [0] rfl ?_; refine WP.mv rfl rfl ?_; refine WP.nil (WP.next (WP.seq ?_))
 refine WP.region [0, 1, 2, 3, 4] rfl ?_; refine WP.mv rfl rfl ?_; refine WP.vl rfl (Yld.nilCheck rfl rfl) ?_; refine WP.vl rfl (Yld.fieldAddr rfl ty_fd_163_2 rfl) ?_; refine WP.loud rfl rfl ?_; refine Op.ext (ext_load There.h hk) rfl rfl rfl rfl ?_; refine WP.mv rfl rfl ?_; refine WP.nil ?_; refine WP.sub [(0, _), (2, _)] ?_ ⟨rfl, rfl, trivial⟩
 refine WP.next (WP.ret ?_)
 refine WP.fn .ret (.inr rfl) (res1 rfl rfl) [(b, row T cs)] (Imm.le_refl _) ?_; exact ⟨rfl, rfl, rfl⟩

theorem atStore {I : Imm} {b k T : Nat} {cs cs' : List Value} {y : Int} (hs : SetAt cs k (.int .i64 y) cs') : Spec Tryz.prog 67 [.pointer (some ⟨b, k, none⟩), .int .i64 y] I [(b, row T cs)] (fun v J L => v = .tuple #[] ∧ I = J ∧ L = [(b, row T cs')]) := by
 refine Spec.of Tryz.func67 rfl Tryz.ntmps67 (Nat.le_of_ble_eq_true rfl) (fun F => ?_)
 try simp only [nf]
 dsimp only [argsEnv]
 refine WP.region [0, 1, 2, 3, 4] rfl ?_; refine WP.mv rfl rfl ?_; refine WP.vl rfl (Yld.nilCheck rfl rfl) ?_; refine WP.vl rfl (Yld.fieldAddr rfl ty_fd_163_2 rfl) ?_; refine WP.mv rfl rfl ?_; refine WP.loud rfl rfl ?_; refine Op.ext (ext_store Upd.head hs) rfl rfl rfl rfl ?_; refine WP.nil ?_; refine WP.sub [(0, _), (1, _)] ?_ ⟨rfl, rfl, trivial⟩
 refine WP.fn .normal (.inl rfl) (res0 rfl) [(b, row T cs')] (Imm.le_refl _) ?_; exact ⟨rfl, rfl, rfl⟩

theorem atAdd {I : Imm} {b k T : Nat} {cs cs' : List Value} {x y : Int} (hk : cs[k]? = some (.int .i64 x)) (hs : SetAt cs k (.int .i64 (IntKind.i64.wrap (x + y))) cs') : Spec Tryz.prog 58 [.pointer (some ⟨b, k, none⟩), .int .i64 y] I [(b, row T cs)] (fun v J L => v = .int .i64 (IntKind.i64.wrap (x + y)) ∧ I = J ∧ L = [(b, row T cs')]) := by
 refine Spec.of Tryz.func58 rfl Tryz.ntmps58 (Nat.le_of_ble_eq_true rfl) (fun F => ?_)
 try simp only [nf]
 dsimp only [argsEnv]
 refine WP.seq ?_; refine WP.region [0] rfl ?_; refine WP.mv rfl rfl ?_; refine WP.nil (WP.next (WP.seq ?_))
 refine WP.region [0, 1, 2, 3, 4, 5] rfl ?_; refine WP.mv rfl rfl ?_; refine WP.vl rfl (Yld.nilCheck rfl rfl) ?_; refine WP.vl rfl (Yld.fieldAddr rfl ty_fd_163_2 rfl) ?_; refine WP.mv rfl rfl ?_; refine WP.loud rfl rfl ?_; refine Op.ext (ext_add hk Upd.head hs) rfl rfl rfl rfl ?_; refine WP.mv rfl rfl ?_; refine WP.nil ?_; refine WP.sub [(0, _), (1, _), (4, _)] ?_ ⟨rfl, rfl, rfl, trivial⟩
 refine WP.next (WP.ret ?_)
 refine WP.fn .ret (.inr rfl) (res1 rfl rfl) [(b, row T cs')] (Imm.le_refl _) ?_; exact ⟨rfl, rfl, rfl⟩

theorem atHit {I : Imm} {b k T : Nat} {cs cs' : List Value} {x y : Int} (hk : cs[k]? = some (.int .i64 x)) (hs : SetAt cs k (.int .i64 y) cs') : Spec Tryz.prog 57 [.pointer (some ⟨b, k, none⟩), .int .i64 x, .int .i64 y] I [(b, row T cs)] (fun v J L => v = .bool true ∧ I = J ∧ L = [(b, row T cs')]) := by
 refine Spec.of Tryz.func57 rfl Tryz.ntmps57 (Nat.le_of_ble_eq_true rfl) (fun F => ?_)
 try simp only [nf]
 dsimp only [argsEnv]
 refine WP.seq ?_; refine WP.region [0] rfl ?_; refine WP.mv rfl rfl ?_; refine WP.nil (WP.next (WP.seq ?_))
 refine WP.region [0, 1, 2, 3, 4, 5, 6] rfl ?_; refine WP.mv rfl rfl ?_; refine WP.vl rfl (Yld.nilCheck rfl rfl) ?_; refine WP.vl rfl (Yld.fieldAddr rfl ty_fd_163_2 rfl) ?_; iterate 2 refine WP.mv rfl rfl ?_
 refine WP.loud rfl rfl ?_; refine Op.ext (ext_hit hk Upd.head hs) rfl rfl rfl rfl ?_; refine WP.mv rfl rfl ?_; refine WP.nil ?_; refine WP.sub [(0, _), (1, _), (2, _), (6, _)] ?_ ⟨rfl, rfl, rfl, rfl, trivial⟩
 refine WP.next (WP.ret ?_)
 refine WP.fn .ret (.inr rfl) (res1 rfl rfl) [(b, row T cs')] (Imm.le_refl _) ?_; exact ⟨rfl, rfl, rfl⟩

theorem atMiss {I : Imm} {b k T : Nat} {cs : List Value} {x y z : Int} (hk : cs[k]? = some (.int .i64 z)) (hne : ¬ z = x) : Spec Tryz.prog 57 [.pointer (some ⟨b, k, none⟩), .int .i64 x, .int .i64 y] I [(b, row T cs)] (fun v J L => v = .bool false ∧ I = J ∧ L = [(b, row T cs)]) := by
 refine Spec.of Tryz.func57 rfl Tryz.ntmps57 (Nat.le_of_ble_eq_true rfl) (fun F => ?_)
 try simp only [nf]
 dsimp only [argsEnv]
 refine WP.seq ?_; refine WP.region [0] rfl ?_; refine WP.mv rfl rfl ?_; refine WP.nil (WP.next (WP.seq ?_))
 refine WP.region [0, 1, 2, 3, 4, 5, 6] rfl ?_; refine WP.mv rfl rfl ?_; refine WP.vl rfl (Yld.nilCheck rfl rfl) ?_; refine WP.vl rfl (Yld.fieldAddr rfl ty_fd_163_2 rfl) ?_; iterate 2 refine WP.mv rfl rfl ?_
 refine WP.loud rfl rfl ?_; refine Op.ext (ext_miss There.h hk hne (fun W hW => by simp [World.frozen?, There.h.heap hW, row])) rfl rfl rfl rfl ?_; refine WP.mv rfl rfl ?_; refine WP.nil ?_; refine WP.sub [(0, _), (1, _), (2, _), (6, _)] ?_ ⟨rfl, rfl, rfl, rfl, trivial⟩
 refine WP.next (WP.ret ?_)
 refine WP.fn .ret (.inr rfl) (res1 rfl rfl) [(b, row T cs)] (Imm.le_refl _) ?_; exact ⟨rfl, rfl, rfl⟩

theorem cell_NewCount (I : Imm) : Spec Tryz.prog 66 [] I [] (fun v J L => ∃ c, v = .pointer (some ⟨c, 0, none⟩) ∧ I = J ∧ L = [(c, row 168 [.int .i64 0, .int .i64 0, .int .i64 0, .int .i64 0, .int .i64 0])]) := by
 refine Spec.of Tryz.func66 rfl Tryz.ntmps66 (Nat.le_of_ble_eq_true rfl) (fun F => ?_)
 try simp only [nf]
 dsimp only [argsEnv]
 refine WP.seq ?_; refine WP.region [0] rfl ?_; refine WP.mv rfl rfl ?_; refine WP.nil (WP.next (WP.seq ?_))
 refine WP.region [0, 1, 2] rfl ?_; refine WP.vl rfl (Yld.buildS (pl := []) rfl ty_zr_168 ty_zd_168 zK rfl (vs := []) rfl (segs := []) rfl rfl zS) ?_; refine WP.loud rfl rfl ?_; refine Op.box rfl rfl rfl rfl rfl (fun b2 => ?_)
 refine WP.mv rfl rfl ?_; refine WP.nil ?_; refine WP.sub [(0, _)] ?_ ⟨rfl, trivial⟩
 refine WP.next (WP.ret ?_)
 refine WP.fn .ret (.inr rfl) (res1 rfl rfl) [_] (Imm.le_refl _) ?_; exact ⟨_, rfl, rfl, rfl⟩

theorem cell_Load {I : Imm} {c x : Nat} {v l s sw m a : Int} : Spec Tryz.prog 43 [.pointer (some ⟨x, 0, none⟩)] I [(x, row 165 [.int .i64 v, .pointer (some ⟨c, 0, none⟩)]), (c, row 168 [.int .i64 l, .int .i64 s, .int .i64 sw, .int .i64 m, .int .i64 a])] (fun v' J L => v' = .int .i64 v ∧ I = J ∧ L = [(x, row 165 [.int .i64 v, .pointer (some ⟨c, 0, none⟩)]), (c, row 168 [.int .i64 (IntKind.i64.wrap (l + 1)), .int .i64 s, .int .i64 sw, .int .i64 m, .int .i64 a])]) := by
 refine Spec.of Tryz.func43 rfl Tryz.ntmps43 (Nat.le_of_ble_eq_true rfl) (fun F => ?_)
 try simp only [nf]
 dsimp only [argsEnv]
 refine WP.seq ?_; refine WP.region [0] rfl ?_; refine WP.mv rfl rfl ?_; refine WP.nil (WP.next (WP.seq ?_))
 refine WP.region [0, 1, 2, 3, 4, 5, 6] rfl ?_; refine WP.mv rfl rfl ?_; refine WP.vl rfl (Yld.nilCheck rfl rfl) ?_; refine WP.vl rfl (Yld.fieldAddr rfl ty_fd_165_1 rfl) ?_; refine WP.vl rfl (Yld.ld rfl ty_sc_140 rfl rfl) ?_; refine WP.vl rfl (Yld.nilCheck rfl rfl) ?_; refine WP.vl rfl (Yld.fieldAddr rfl ty_fd_168_0 rfl) ?_; refine WP.loud rfl rfl ?_; refine' Op.cl (atAdd ?hk ?hs) rfl Tryz.func58 rfl rfl rfl rfl ?_
 case hk => exact rfl
 case hs => repeat (first | exact SetAt.zero | apply SetAt.succ)
 rintro v J L1 - ⟨rfl, rfl, rfl⟩
 try simp only [nf]
 refine WP.nil ?_; refine WP.sub [(0, _), (2, _)] ?_ ⟨rfl, rfl, trivial⟩
 refine WP.next (WP.seq ?_)
 refine WP.region [0, 1, 2, 3, 4] rfl ?_; refine WP.mv rfl rfl ?_; refine WP.vl rfl (Yld.nilCheck rfl rfl) ?_; refine WP.vl rfl (Yld.fieldAddr rfl ty_fd_165_0 rfl) ?_; refine WP.loud rfl rfl ?_; refine' Op.cl (atLoad ?hk) rfl Tryz.func65 rfl rfl rfl rfl ?_
 case hk => exact rfl
 rintro v J L1 - ⟨rfl, rfl, rfl⟩
 try simp only [nf]
 refine WP.mv rfl rfl ?_; refine WP.nil ?_; refine WP.sub [(0, _), (2, _)] ?_ ⟨rfl, rfl, trivial⟩
 refine WP.next (WP.ret ?_)
 refine WP.fn .ret (.inr rfl) (res1 rfl rfl) [(x, row 165 [.int .i64 v, .pointer (some ⟨c, 0, none⟩)]), (c, row 168 [.int .i64 (IntKind.i64.wrap (l + 1)), .int .i64 s, .int .i64 sw, .int .i64 m, .int .i64 a])] (Imm.le_refl _) ?_; exact ⟨rfl, rfl, rfl⟩

theorem cell_CAS_hit {I : Imm} {c x : Nat} {v l s sw m a : Int} {y : Int} : Spec Tryz.prog 38 [.pointer (some ⟨x, 0, none⟩), .int .i64 v, .int .i64 y] I [(x, row 165 [.int .i64 v, .pointer (some ⟨c, 0, none⟩)]), (c, row 168 [.int .i64 l, .int .i64 s, .int .i64 sw, .int .i64 m, .int .i64 a])] (fun v' J L => v' = .bool true ∧ I = J ∧ L = [(x, row 165 [.int .i64 y, .pointer (some ⟨c, 0, none⟩)]), (c, row 168 [.int .i64 l, .int .i64 s, .int .i64 (IntKind.i64.wrap (sw + 1)), .int .i64 m, .int .i64 a])]) := by
 refine Spec.of Tryz.func38 rfl Tryz.ntmps38 (Nat.le_of_ble_eq_true rfl) (fun F => ?_)
 try simp only [nf]
 dsimp only [argsEnv]
 refine WP.seq ?_; refine WP.region [0] rfl ?_; refine WP.mv rfl rfl ?_; refine WP.nil (WP.next (WP.seq (WP.seq ?_)))
 refine WP.region [0, 1, 2, 3, 4, 5] rfl ?_; refine WP.mv rfl rfl ?_; refine WP.vl rfl (Yld.nilCheck rfl rfl) ?_; refine WP.vl rfl (Yld.fieldAddr rfl ty_fd_165_0 rfl) ?_; iterate 2 refine WP.mv rfl rfl ?_
 refine WP.loud rfl rfl ?_; refine' Op.cl (atHit ?hk ?hs) rfl Tryz.func57 rfl rfl rfl rfl ?_
 case hk => exact rfl
 case hs => repeat (first | exact SetAt.zero | apply SetAt.succ)
 rintro v J L1 - ⟨rfl, rfl, rfl⟩
 try simp only [nf]
 refine WP.nil ?_; refine WP.sub [(0, _), (1, _), (2, _), (6, _), (12, _)] ?_ ⟨rfl, rfl, rfl, rfl, rfl, trivial⟩
 refine WP.next ?_; refine WP.condT rfl ?_; refine WP.seq ?_; refine WP.region [0, 1, 2, 3, 4, 5, 6] rfl ?_; refine WP.mv rfl rfl ?_; refine WP.vl rfl (Yld.nilCheck rfl rfl) ?_; refine WP.vl rfl (Yld.fieldAddr rfl ty_fd_165_1 rfl) ?_; refine WP.vl rfl (Yld.ld rfl ty_sc_140 rfl rfl) ?_; refine WP.vl rfl (Yld.nilCheck rfl rfl) ?_; refine WP.vl rfl (Yld.fieldAddr rfl ty_fd_168_2 rfl) ?_; refine WP.loud rfl rfl ?_; refine' Op.cl (atAdd ?hk ?hs) rfl Tryz.func58 rfl rfl rfl rfl ?_
 case hk => exact rfl
 case hs => repeat (first | exact SetAt.zero | apply SetAt.succ)
 rintro v J L1 - ⟨rfl, rfl, rfl⟩
 try simp only [nf]
 refine WP.nil ?_; refine WP.sub [(0, _), (1, _), (2, _), (6, _), (12, _)] ?_ ⟨rfl, rfl, rfl, rfl, rfl, trivial⟩
 refine WP.next (WP.seq ?_)
 refine WP.region [0] rfl ?_; refine WP.mv rfl rfl ?_; refine WP.nil (WP.next (WP.ret ?_))
 refine WP.fn .ret (.inr rfl) (res1 rfl rfl) [(x, row 165 [.int .i64 y, .pointer (some ⟨c, 0, none⟩)]), (c, row 168 [.int .i64 l, .int .i64 s, .int .i64 (IntKind.i64.wrap (sw + 1)), .int .i64 m, .int .i64 a])] (Imm.le_refl _) ?_; exact ⟨rfl, rfl, rfl⟩

theorem cell_CAS_miss {I : Imm} {c x : Nat} {v l s sw m a : Int} {y z : Int} (hne : ¬ v = z) : Spec Tryz.prog 38 [.pointer (some ⟨x, 0, none⟩), .int .i64 z, .int .i64 y] I [(x, row 165 [.int .i64 v, .pointer (some ⟨c, 0, none⟩)]), (c, row 168 [.int .i64 l, .int .i64 s, .int .i64 sw, .int .i64 m, .int .i64 a])] (fun v' J L => v' = .bool false ∧ I = J ∧ L = [(x, row 165 [.int .i64 v, .pointer (some ⟨c, 0, none⟩)]), (c, row 168 [.int .i64 l, .int .i64 s, .int .i64 sw, .int .i64 (IntKind.i64.wrap (m + 1)), .int .i64 a])]) := by
 refine Spec.of Tryz.func38 rfl Tryz.ntmps38 (Nat.le_of_ble_eq_true rfl) (fun F => ?_)
 try simp only [nf]
 dsimp only [argsEnv]
 refine WP.seq ?_; refine WP.region [0] rfl ?_; refine WP.mv rfl rfl ?_; refine WP.nil (WP.next (WP.seq (WP.seq ?_)))
 refine WP.region [0, 1, 2, 3, 4, 5] rfl ?_; refine WP.mv rfl rfl ?_; refine WP.vl rfl (Yld.nilCheck rfl rfl) ?_; refine WP.vl rfl (Yld.fieldAddr rfl ty_fd_165_0 rfl) ?_; iterate 2 refine WP.mv rfl rfl ?_
 refine WP.loud rfl rfl ?_; refine' Op.cl (atMiss ?hk hne) rfl Tryz.func57 rfl rfl rfl rfl ?_
 case hk => exact rfl
 rintro v J L1 - ⟨rfl, rfl, rfl⟩
 try simp only [nf]
 refine WP.nil ?_; refine WP.sub [(0, _), (1, _), (2, _), (6, _), (12, _)] ?_ ⟨rfl, rfl, rfl, rfl, rfl, trivial⟩
 refine WP.next ?_; refine WP.condF rfl ?_; refine WP.skip (WP.next (WP.seq ?_))
 refine WP.region [0, 1, 2, 3, 4, 5, 6] rfl ?_; refine WP.mv rfl rfl ?_; refine WP.vl rfl (Yld.nilCheck rfl rfl) ?_; refine WP.vl rfl (Yld.fieldAddr rfl ty_fd_165_1 rfl) ?_; refine WP.vl rfl (Yld.ld rfl ty_sc_140 rfl rfl) ?_; refine WP.vl rfl (Yld.nilCheck rfl rfl) ?_; refine WP.vl rfl (Yld.fieldAddr rfl ty_fd_168_3 rfl) ?_; refine WP.loud rfl rfl ?_; refine' Op.cl (atAdd ?hk ?hs) rfl Tryz.func58 rfl rfl rfl rfl ?_
 case hk => exact rfl
 case hs => repeat (first | exact SetAt.zero | apply SetAt.succ)
 rintro v J L1 - ⟨rfl, rfl, rfl⟩
 try simp only [nf]
 refine WP.nil ?_; refine WP.sub [(0, _), (1, _), (2, _), (6, _), (12, _)] ?_ ⟨rfl, rfl, rfl, rfl, rfl, trivial⟩
 refine WP.next (WP.seq ?_)
 refine WP.region [0] rfl ?_; refine WP.mv rfl rfl ?_; refine WP.nil (WP.next (WP.ret ?_))
 refine WP.fn .ret (.inr rfl) (res1 rfl rfl) [(x, row 165 [.int .i64 v, .pointer (some ⟨c, 0, none⟩)]), (c, row 168 [.int .i64 l, .int .i64 s, .int .i64 sw, .int .i64 (IntKind.i64.wrap (m + 1)), .int .i64 a])] (Imm.le_refl _) ?_; exact ⟨rfl, rfl, rfl⟩


theorem cell_CAS {I : Imm} {c x : Nat} {v l s sw m a : Int} {y z : Int} : Spec Tryz.prog 38 [.pointer (some ⟨x, 0, none⟩), .int .i64 z, .int .i64 y] I [(x, row 165 [.int .i64 v, .pointer (some ⟨c, 0, none⟩)]), (c, row 168 [.int .i64 l, .int .i64 s, .int .i64 sw, .int .i64 m, .int .i64 a])] (fun v' J L => v' = .bool (decide (v = z)) ∧ I = J ∧ L = [(x, row 165 [.int .i64 (if v = z then y else v), .pointer (some ⟨c, 0, none⟩)]), (c, row 168 [.int .i64 l, .int .i64 s, .int .i64 (if v = z then (IntKind.i64.wrap (sw + 1)) else sw), .int .i64 (if v = z then m else (IntKind.i64.wrap (m + 1))), .int .i64 a])]) := by
 by_cases h : v = z
 ·subst h
  exact cell_CAS_hit.mono (by rintro v' J L _ ⟨rfl, rfl, rfl⟩; simp)
 ·exact (cell_CAS_miss h).mono (by rintro v' J L _ ⟨rfl, rfl, rfl⟩; simp [h])

/-- A page's entry. -/
structure Ent where
 tok : Nat
 nodes : List (Bool × List UInt8)
 place : Int
 no : Int
 low : Int
 kept : Int
 txn : Int
 lead : Int
 with_ : List Int
def ndV (x : Bool × Value) : List Value := [.bool x.1, x.2]
theorem ndV_len (x : Bool × Value) : (ndV x).length = 2 := rfl
structure NodesOk (V : Nat → Obj → Prop) (nv : List (Bool × Value)) (l : List (Bool × List UInt8)) : Prop where
 len : nv.length = l.length
 at_ : ∀ (i : Nat) (x : Bool × Value), nv[i]? = some x → ∃ d, l[i]? = some (x.1, d) ∧ SlRd V x.2 d.length 1 (bytesV d)
theorem NodesOk.mono {V V' : Nat → Obj → Prop} {nv : List (Bool × Value)} {l : List (Bool × List UInt8)} (h : NodesOk V nv l) (hV : ∀ b o, V b o → V' b o) : NodesOk V' nv l := ⟨h.len, fun i x hx => by obtain ⟨d, h1, h2⟩ := h.at_ i x hx; exact ⟨d, h1, h2.mono hV⟩⟩
def Imv (I : Imm) : Nat → Obj → Prop := fun b o => I.blk b = some o
theorem Imv.le {I J : Imm} (h : I.le J) (b : Nat) (o : Obj) (hb : Imv I b o) : Imv J b o := h.2 b o hb
def entV (e : Ent) (vn vw : Value) : List Value := [.int .u64 (e.tok : Int), vn, .int .i64 e.place, .int .i64 e.no, .int .i64 e.low, .int .i64 e.kept, .int .i64 e.txn, .int .i64 e.lead, vw]
structure REnt (I : Imm) (e : Ent) (cs : List Value) : Prop where
 ex : ∃ vn vw nv, cs = entV e vn vw ∧ SlRd (Imv I) vn e.nodes.length 2 (nv.flatMap ndV) ∧ NodesOk (Imv I) nv e.nodes ∧ SlRd (Imv I) vw e.with_.length 1 (e.with_.map (Value.int .i64))
theorem REnt.mono {I J : Imm} {e : Ent} {cs : List Value} (h : REnt I e cs) (hJ : I.le J) : REnt J e cs := by
 obtain ⟨vn, vw, nv, h1, h2, h3, h4⟩ := h.ex
 exact ⟨vn, vw, nv, h1, h2.mono (Imv.le hJ), h3.mono (Imv.le hJ), h4.mono (Imv.le hJ)⟩
structure Ent.sized (e : Ent) : Prop where
 nodes : e.nodes.length ≤ 4398046510976
 data : ∀ x ∈ e.nodes, x.2.length ≤ 140737488351232
 with_ : e.with_.length ≤ 17592186043904
def zeroEnt : Ent := ⟨0, [], 0, 0, 0, 0, 0, 0, []⟩
def entOk (J : Imm) (x : Nat × Ent) : Prop := x.2.sized ∧ ∃ cs, J.blk x.1 = some (row 50 cs) ∧ REnt J x.2 cs
theorem entOk.mono {I J : Imm} {x : Nat × Ent} (h : entOk I x) (hJ : I.le J) : entOk J x := by
 obtain ⟨h0, cs, h1, h2⟩ := h; exact ⟨h0, cs, hJ.2 _ _ h1, h2.mono hJ⟩
theorem REnt.cells {I : Imm} {e : Ent} {cs : List Value} (h : REnt I e cs) : cs.length = 9 ∧ cs.all (·.oneCell') = true := by
 obtain ⟨vn, vw, nv, rfl, ⟨A, c, rfl, _⟩, _, ⟨A2, c2, rfl, _⟩⟩ := h.ex; exact ⟨rfl, rfl⟩
/-- A chunk: so many slots. -/
abbrev Slots := Nat → Option (Nat × Ent)
def slotP : Option (Nat × Ent) → Option Addr
 | none => none
 | some x => some ⟨x.1, 0, none⟩
abbrev slotV (o : Option (Nat × Ent)) : Value := .pointer (slotP o)
theorem slotP_none (o : Option (Nat × Ent)) : (slotP o).isNone = o.isNone := by cases o <;> rfl
def ckV (f : Slots) : List Value := (List.range 16).map fun j => slotV (f j)
def ckCh (c : Nat × Slots) : Chunks := [(c.1, row 150 (ckV c.2))]
def putSl (f : Slots) (j : Nat) (x : Option (Nat × Ent)) : Slots := fun k => if k = j then x else f k
theorem ckV_len (f : Slots) : (ckV f).length = 16 := by simp [ckV]
theorem ckV_at {f : Slots} {j : Nat} (h : j < 16) : (ckV f)[0 + j * 1]? = some (slotV (f j)) := by simp [ckV, h]
theorem ckV_set {f : Slots} {j : Nat} (h : j < 16) (x : Option (Nat × Ent)) : SetAt (ckV f) (0 + j * 1) (slotV x) (ckV (putSl f j x)) := by
 have hs := SetAt.sym (l := ckV f) (k := 0 + j * 1) (v := slotV x) (by rw [ckV_len]; omega)
 have e : (ckV f).set (0 + j * 1) (slotV x) = ckV (putSl f j x) := by
  rw [Nat.zero_add, Nat.mul_one]
  apply List.ext_getElem?
  intro k
  rw [List.getElem?_set, ckV_len]
  by_cases hk : j = k
  ·subst hk; simp [ckV, putSl, h]
  ·rw [if_neg hk]
   by_cases hk2 : k < 16
   ·simp [ckV, hk2, putSl, Ne.symm hk]
   ·rw [List.getElem?_eq_none (by rw [ckV_len]; omega), List.getElem?_eq_none (by rw [ckV_len]; omega)]
 rwa [e] at hs
structure Tb where
 tok : Nat
 cks : List (Nat × Slots)
 next : Int
def ckps (l : List (Nat × Slots)) : List Value := l.map fun c => .pointer (some ⟨c.1, 0, none⟩)
theorem ckps_len (l : List (Nat × Slots)) : (ckps l).length = l.length := List.length_map _
theorem ckps_at {l : List (Nat × Slots)} {i : Nat} (h : i < l.length) (sp : List Value) : (ckps l ++ sp)[0 + i * 1]? = some (.pointer (some ⟨l[i].1, 0, none⟩)) := by
 rw [Nat.zero_add, Nat.mul_one, List.getElem?_append_left (by rw [ckps_len]; exact h)]; simp [ckps, h]
structure Tb.ok (J : Imm) (x : Tb) : Prop where
 n1 : 1 ≤ x.cks.length
 n2 : x.cks.length ≤ 32
 ent : ∀ c ∈ x.cks, ∀ j e, c.2 j = some e → entOk J e
 nx : 1 ≤ x.next ∧ x.next ≤ 513
theorem Tb.ok.mono {I J : Imm} {x : Tb} (h : x.ok I) (hJ : I.le J) : x.ok J := ⟨h.n1, h.n2, fun c hc j e he => (h.ent c hc j e he).mono hJ, h.nx⟩
inductive IsTab (J : Imm) (t q : Nat) (x : Tb) : Chunks → Prop
 | mk {vs : Value} {Lv : Chunks} (ok : x.ok J) (ow : Own 142 1 vs (ckps x.cks) x.cks.length Lv) : IsTab J t q x ((t, row 100 [.pointer (some ⟨q, 0, none⟩), .int .u64 (x.tok : Int), vs, .int .i64 x.next]) :: (Lv ++ x.cks.flatMap ckCh))
theorem IsTab.mono {I J : Imm} {t q : Nat} {x : Tb} {L : Chunks} (h : IsTab I t q x L) (hJ : I.le J) : IsTab J t q x L := by cases h with | mk ok ow => exact .mk (ok.mono hJ) ow
/-- A page's slot: which chunk, and where in it. -/
def Tb.get (x : Tb) (p : Int) : Option (Nat × Ent) := if p < 1 then none else match x.cks[((p - 1) / 16).toNat]? with
 | some c => c.2 ((p - 1) % 16).toNat
 | none => none
def Tb.size (x : Tb) : Int := (x.cks.length : Int) * 16
def Tb.put (x : Tb) (p : Int) (e : Option (Nat × Ent)) : Tb := { x with cks := match x.cks[((p - 1) / 16).toNat]? with
 | some c => x.cks.set ((p - 1) / 16).toNat (c.1, putSl c.2 ((p - 1) % 16).toNat e)
 | none => x.cks }
theorem ext_loadP {I : Imm} {L : Chunks} {b k T : Nat} {cs : List Value} {x : Option Addr} (hm : There I L b (row T cs)) (hk : cs[k]? = some (.pointer x)) :
  Ans Tryz.prog 68 [Value.pointer (some ⟨b, k, none⟩)] I L (.pointer x) I L := fun W hW =>
 ⟨W, run_call_loadP Tryz.func68 rfl rfl rfl rfl (by simp [World.cell?, hm.heap hW, row, hk]), hW⟩
theorem ext_storeP {I : Imm} {L L' : Chunks} {b k T : Nat} {cs cs' : List Value} {y : Option Addr} (hu : Upd L b (row T cs) (row T cs') L') (hs : SetAt cs k (.pointer y) cs') :
  Ans Tryz.prog 69 [Value.pointer (some ⟨b, k, none⟩), .pointer y] I L (.tuple #[]) I L' := fun W hW => by
 obtain ⟨h1, _⟩ := hs.spec
 have hc : W.cell? ⟨b, k, none⟩ = some cs[k] := by simp [World.cell?, hW.own _ hu.mem, row, h1]
 exact ⟨_, run_call_storeP Tryz.func69 rfl rfl rfl rfl hc (by simp [World.frozen?, hW.own _ hu.mem, row]), hW.setCell hu hs⟩
theorem ext_casP {I : Imm} {L L' : Chunks} {b k T : Nat} {cs cs' : List Value} {x : Addr} {y : Option Addr} (hk : cs[k]? = some (.pointer (some x))) (hu : Upd L b (row T cs) (row T cs') L') (hs : SetAt cs k (.pointer y) cs') :
  Ans Tryz.prog 56 [Value.pointer (some ⟨b, k, none⟩), .pointer (some x), .pointer y] I L (.bool true) I L' := fun W hW =>
 ⟨_, run_call_casP Tryz.func56 rfl rfl rfl rfl (by simp [World.cell?, hW.own _ hu.mem, row, hk]) (by simp [World.frozen?, hW.own _ hu.mem, row]), hW.setCell hu hs⟩
theorem slot_Load0 {I : Imm} {b k : Nat} {cs : List Value} (hk : cs[k]? = some (.pointer none)) : Spec Tryz.prog 53 [.pointer (some ⟨b, k, none⟩)] I [(b, row 150 cs)] (fun v J L => v = .pointer none ∧ I = J ∧ L = [(b, row 150 cs)]) := by
 refine Spec.of Tryz.func53 rfl Tryz.ntmps53 (Nat.le_of_ble_eq_true rfl) (fun F => ?_)
 try simp only [nf]
 dsimp only [argsEnv]
 refine WP.seq ?_; refine WP.region [0] rfl ?_; refine WP.mv rfl rfl ?_; refine WP.nil (WP.next (WP.seq ?_))
 refine WP.region [0, 1, 2, 3, 4, 5] rfl ?_; refine WP.mv rfl rfl ?_; refine WP.vl rfl (Yld.nilCheck rfl rfl) ?_; refine WP.vl rfl (Yld.fieldAddr rfl ty_fd_148_2 rfl) ?_; refine WP.loud rfl rfl ?_; refine Op.ext (ext_loadP There.h hk) rfl rfl rfl rfl ?_; refine WP.vl rfl (Yld.fromUnsafe0 rfl ty_up_146 ty_pe_89 rfl) ?_; refine WP.mv rfl rfl ?_; refine WP.nil ?_; refine WP.sub [(0, _), (2, _)] ?_ ⟨rfl, rfl, trivial⟩
 refine WP.next (WP.ret ?_)
 refine WP.fn .ret (.inr rfl) (res1 rfl rfl) [(b, row 150 cs)] (Imm.le_refl _) ?_; exact ⟨rfl, rfl, rfl⟩

theorem slot_Load1 {I : Imm} {b k b2 : Nat} {cs es : List Value} (hk : cs[k]? = some (.pointer (some ⟨b2, 0, none⟩))) (hm : I.blk b2 = some (row 50 es)) (hl : es.length = 9) : Spec Tryz.prog 53 [.pointer (some ⟨b, k, none⟩)] I [(b, row 150 cs)] (fun v J L => v = .pointer (some ⟨b2, 0, none⟩) ∧ I = J ∧ L = [(b, row 150 cs)]) := by
 refine Spec.of Tryz.func53 rfl Tryz.ntmps53 (Nat.le_of_ble_eq_true rfl) (fun F => ?_)
 try simp only [nf]
 dsimp only [argsEnv]
 refine WP.seq ?_; refine WP.region [0] rfl ?_; refine WP.mv rfl rfl ?_; refine WP.nil (WP.next (WP.seq ?_))
 refine WP.region [0, 1, 2, 3, 4, 5] rfl ?_; refine WP.mv rfl rfl ?_; refine WP.vl rfl (Yld.nilCheck rfl rfl) ?_; refine WP.vl rfl (Yld.fieldAddr rfl ty_fd_148_2 rfl) ?_; refine WP.loud rfl rfl ?_; refine Op.ext (ext_loadP There.h hk) rfl rfl rfl rfl ?_; refine WP.vl rfl (Yld.fromUnsafe (m := 9) rfl ty_up_146 ty_pe_89 ty_li_50 zK rfl (There.i hm) hl) ?_; refine WP.mv rfl rfl ?_; refine WP.nil ?_; refine WP.sub [(0, _), (2, _)] ?_ ⟨rfl, rfl, trivial⟩
 refine WP.next (WP.ret ?_)
 refine WP.fn .ret (.inr rfl) (res1 rfl rfl) [(b, row 150 cs)] (Imm.le_refl _) ?_; exact ⟨rfl, rfl, rfl⟩

theorem slot_Store0 {I : Imm} {b k : Nat} {cs cs' : List Value} (hs : SetAt cs k (.pointer none) cs') : Spec Tryz.prog 55 [.pointer (some ⟨b, k, none⟩), .pointer none] I [(b, row 150 cs)] (fun v J L => v = .tuple #[] ∧ I = J ∧ L = [(b, row 150 cs')]) := by
 refine Spec.of Tryz.func55 rfl Tryz.ntmps55 (Nat.le_of_ble_eq_true rfl) (fun F => ?_)
 try simp only [nf]
 dsimp only [argsEnv]
 refine WP.region [0, 1, 2, 3, 4, 5] rfl ?_; refine WP.mv rfl rfl ?_; refine WP.vl rfl (Yld.nilCheck rfl rfl) ?_; refine WP.vl rfl (Yld.fieldAddr rfl ty_fd_148_2 rfl) ?_; refine WP.mv rfl rfl ?_; refine WP.vl rfl (Yld.toUnsafe0 rfl ty_pe_89 ty_up_146 rfl) ?_; refine WP.loud rfl rfl ?_; refine Op.ext (ext_storeP Upd.head hs) rfl rfl rfl rfl ?_; refine WP.nil ?_; refine WP.sub [(0, _), (1, _)] ?_ ⟨rfl, rfl, trivial⟩
 refine WP.fn .normal (.inl rfl) (res0 rfl) [(b, row 150 cs')] (Imm.le_refl _) ?_; exact ⟨rfl, rfl, rfl⟩

theorem slot_Store1 {I : Imm} {b k b2 : Nat} {cs cs' es : List Value} (hm : I.blk b2 = some (row 50 es)) (hl : es.length = 9) (hs : SetAt cs k (.pointer (some ⟨b2, 0, none⟩)) cs') : Spec Tryz.prog 55 [.pointer (some ⟨b, k, none⟩), .pointer (some ⟨b2, 0, none⟩)] I [(b, row 150 cs)] (fun v J L => v = .tuple #[] ∧ I = J ∧ L = [(b, row 150 cs')]) := by
 refine Spec.of Tryz.func55 rfl Tryz.ntmps55 (Nat.le_of_ble_eq_true rfl) (fun F => ?_)
 try simp only [nf]
 dsimp only [argsEnv]
 refine WP.region [0, 1, 2, 3, 4, 5] rfl ?_; refine WP.mv rfl rfl ?_; refine WP.vl rfl (Yld.nilCheck rfl rfl) ?_; refine WP.vl rfl (Yld.fieldAddr rfl ty_fd_148_2 rfl) ?_; refine WP.mv rfl rfl ?_; refine WP.vl rfl (Yld.toUnsafe rfl ty_pe_89 ty_up_146 zK rfl (There.i hm) (by omega)) ?_; refine WP.loud rfl rfl ?_; refine Op.ext (ext_storeP Upd.head hs) rfl rfl rfl rfl ?_; refine WP.nil ?_; refine WP.sub [(0, _), (1, _)] ?_ ⟨rfl, rfl, trivial⟩
 refine WP.fn .normal (.inl rfl) (res0 rfl) [(b, row 150 cs')] (Imm.le_refl _) ?_; exact ⟨rfl, rfl, rfl⟩

theorem slot_CAS {I : Imm} {b k b1 b2 : Nat} {cs cs' es fs : List Value} (hk : cs[k]? = some (.pointer (some ⟨b1, 0, none⟩))) (hm1 : I.blk b1 = some (row 50 fs)) (hl1 : fs.length = 9) (hm : I.blk b2 = some (row 50 es)) (hl : es.length = 9) (hs : SetAt cs k (.pointer (some ⟨b2, 0, none⟩)) cs') : Spec Tryz.prog 36 [.pointer (some ⟨b, k, none⟩), .pointer (some ⟨b1, 0, none⟩), .pointer (some ⟨b2, 0, none⟩)] I [(b, row 150 cs)] (fun v J L => v = .bool true ∧ I = J ∧ L = [(b, row 150 cs')]) := by
 refine Spec.of Tryz.func36 rfl Tryz.ntmps36 (Nat.le_of_ble_eq_true rfl) (fun F => ?_)
 try simp only [nf]
 dsimp only [argsEnv]
 refine WP.seq ?_; refine WP.region [0] rfl ?_; refine WP.mv rfl rfl ?_; refine WP.nil (WP.next (WP.seq ?_))
 refine WP.region [0, 1, 2, 3, 4, 5, 6, 7, 8] rfl ?_; refine WP.mv rfl rfl ?_; refine WP.vl rfl (Yld.nilCheck rfl rfl) ?_; refine WP.vl rfl (Yld.fieldAddr rfl ty_fd_148_2 rfl) ?_; refine WP.mv rfl rfl ?_; refine WP.vl rfl (Yld.toUnsafe rfl ty_pe_89 ty_up_146 zK rfl (There.i hm1) (by omega)) ?_; refine WP.mv rfl rfl ?_; refine WP.vl rfl (Yld.toUnsafe rfl ty_pe_89 ty_up_146 zK rfl (There.i hm) (by omega)) ?_; refine WP.loud rfl rfl ?_; refine Op.ext (ext_casP hk Upd.head hs) rfl rfl rfl rfl ?_; refine WP.mv rfl rfl ?_; refine WP.nil ?_; refine WP.sub [(0, _), (1, _), (2, _), (6, _)] ?_ ⟨rfl, rfl, rfl, rfl, trivial⟩
 refine WP.next (WP.ret ?_)
 refine WP.fn .ret (.inr rfl) (res1 rfl rfl) [(b, row 150 cs')] (Imm.le_refl _) ?_; exact ⟨rfl, rfl, rfl⟩


theorem NodesOk.set {V : Nat → Obj → Prop} {nv : List (Bool × Value)} {l : List (Bool × List UInt8)} (h : NodesOk V nv l) {i : Nat} (hi : i < nv.length) {d : List UInt8} (hd : l[i]? = some (nv[i].1, d)) {v : Value} (hv : SlRd V v d.length 1 (bytesV d)) : NodesOk V (nv.set i (nv[i].1, v)) l := by
 refine ⟨by rw [List.length_set]; exact h.len, fun j x hx => ?_⟩
 by_cases e : j = i
 ·subst e
  rw [List.getElem?_set_self hi] at hx
  cases hx; exact ⟨d, hd, hv⟩
 ·rw [List.getElem?_set_ne (Ne.symm e)] at hx
  exact h.at_ j x hx
theorem zeros_len (n k : Nat) (z : List Value) (hz : z.length = k) : (List.replicate n z).flatten.length = n * k := by
 induction n with
 | zero => simp
 | succ n ih => rw [List.replicate_succ, List.flatten_cons, List.length_append, ih, hz, Nat.add_mul]; omega
theorem splice_all (old cs : List Value) (h : old.length = cs.length) : splice old 0 cs = cs := by
 unfold splice
 rw [List.take_zero, List.nil_append, Nat.zero_add, List.drop_of_length_le (by omega), List.append_nil]
theorem ndV_one (l : List (Bool × Value)) {V : Nat → Obj → Prop} {m : List (Bool × List UInt8)} (h : NodesOk V l m) : (l.flatMap ndV).all (·.oneCell') = true := by
 rw [List.all_eq_true]
 intro v hv
 obtain ⟨x, hx, hv⟩ := List.mem_flatMap.1 hv
 obtain ⟨i, hi, rfl⟩ := List.getElem_of_mem hx
 obtain ⟨d, _, ⟨A, c, he, _⟩⟩ := h.at_ i _ (List.getElem?_eq_getElem hi)
 simp only [ndV, List.mem_cons, List.not_mem_nil, or_false] at hv
 rcases hv with rfl | rfl
 ·rfl
 ·rw [he]; rfl
theorem ints_one (l : List Int) : (l.map (Value.int .i64)).all (·.oneCell') = true := by simp [List.all_eq_true, Value.oneCell']
structure TCX where
 i : Nat
 J : Imm
 nv : List (Bool × Value)

theorem bytesZ (n : Nat) : (List.replicate n (Value.int .u8 0).cells.toList).flatten = bytesV (List.replicate n (0 : UInt8)) := by
 induction n with
 | zero => rfl
 | succ n ih => rw [List.replicate_succ, List.flatten_cons, ih]; simp [Value.cells, List.replicate_succ, bytesV, byteV]
theorem intsZ (n : Nat) : (List.replicate n (Value.int .i64 0).cells.toList).flatten = (List.replicate n (0 : Int)).map (Value.int .i64) := by
 induction n with
 | zero => rfl
 | succ n ih => rw [List.replicate_succ, List.flatten_cons, ih]; simp [Value.cells, List.replicate_succ]

theorem SlRd.slice' {V : Nat → Obj → Prop} {v : Value} {m sz : Nat} {cs : List Value} (h : SlRd V v m sz cs) : ∃ A c, v = .slice A m c ∧ m ≤ c := by
 obtain ⟨A, c, h1, h2, _⟩ := h; exact ⟨A, c, h1, h2⟩
theorem tab_copied {I : Imm} {e : Ent} {cs : List Value} (he : REnt I e cs) (hsz : e.sized) : Spec Tryz.prog 44 [.agg cs.toArray] I [] (fun v J L => ∃ cs', v = .agg cs'.toArray ∧ REnt J e cs' ∧ L = []) := by
 obtain ⟨vn, vw, nv, rfl, hn, hno, hw⟩ := he.ex
 obtain ⟨An, cn, rfl, hcn⟩ := hn.slice'
 obtain ⟨Aw, cw, rfl, hcw⟩ := hw.slice'
 refine Spec.of Tryz.func44 rfl Tryz.ntmps44 (Nat.le_of_ble_eq_true rfl) (fun F => ?_)
 try simp only [nf]
 dsimp only [argsEnv]
 refine WP.seq ?_; refine WP.region [0, 1] rfl ?_; refine WP.loud rfl rfl ?_; refine Op.box rfl rfl rfl rfl rfl (fun bt1 => ?_)
 refine WP.loud rfl rfl ?_; refine Op.alloc rfl rfl rfl ty_zr_50 (fun bt2 => ?_)
 refine WP.nil (WP.next (WP.seq ?_))
 refine WP.region [0, 1, 2, 3, 4] rfl ?_; refine WP.vl rfl (Yld.fieldAddr rfl ty_fd_50_1 rfl) ?_; refine WP.vl rfl (Yld.ld rfl ty_sc_45 rfl rfl) ?_; refine WP.vl rfl (Yld.lenR hn rfl ty_sl_45 rfl) ?_; refine WP.loud rfl rfl ?_; refine Op.make (l := e.nodes.length) (c := e.nodes.length) rfl ty_sl_45 ty_el_45 rfl rfl rfl rfl rfl (Nat.le_refl _) (by have := hsz.nodes; omega) (by have := hsz.nodes; omega) (fun bn => ?_)
 have hzl := zeros_len e.nodes.length 2 (Value.agg #[.bool false, .slice none 0 0]).cells.toList rfl
 generalize (List.replicate e.nodes.length (Value.agg #[.bool false, .slice none 0 0]).cells.toList).flatten = zs at hzl ⊢
 have hnl := hno.len
 refine WP.mv rfl rfl ?_; refine WP.nil ?_; refine WP.sub [(0, _), (1, _), (2, _), (3, _)] ?_ ⟨rfl, rfl, rfl, rfl, trivial⟩
 refine WP.next (WP.seq ?_)
 refine WP.region [0, 1, 2, 3] rfl ?_; refine WP.mv rfl rfl ?_; refine WP.vl rfl (Yld.fieldAddr rfl ty_fd_50_1 rfl) ?_; refine WP.vl rfl (Yld.ld rfl ty_sc_45 rfl rfl) ?_; refine WP.loud rfl rfl ?_; refine Op.copy (k := 0) (m := e.nodes.length) (m2 := e.nodes.length) (q := e.nodes.length) (cs := nv.flatMap ndV) (old := zs) (new := nv.flatMap ndV ++ []) rfl ty_sl_45 rfl rfl rfl rfl (SlAt.blk (Nat.le_refl _)) (hn.mono (fun b o h => .inr h)) (ndV_one nv hno) (Nat.min_self _) (by omega) (by rw [List.append_nil, List.take_of_length_le (by rw [flat_len ndV_len]; omega), splice_all _ _ (by rw [flat_len ndV_len, hzl, hnl])]) (by repeat (first | exact Upd.head | apply Upd.tail | apply Upd.tailS)) ?_; refine WP.nil ?_; refine WP.sub [(0, _), (1, _), (2, _), (3, _)] ?_ ⟨rfl, rfl, rfl, rfl, trivial⟩
 refine WP.next (WP.seq (WP.seq ?_))
 refine WP.region [0, 1, 2] rfl ?_; refine WP.mv rfl rfl ?_; refine WP.vl rfl (Yld.len rfl ty_sl_45 rfl) ?_; refine WP.mv rfl rfl ?_; refine WP.nil (WP.next (WP.block ?_))
 refine WP.loop (X := TCX) (fun t : TCX => [(1, .pointer (some ⟨bt1, 0, none⟩)), (2, .pointer (some ⟨bt2, 0, none⟩)), (3, .slice (some ⟨bn, 0, none⟩) e.nodes.length e.nodes.length), (15, .slice (some ⟨bn, 0, none⟩) e.nodes.length e.nodes.length), (16, .int .i64 (e.nodes.length : Int)), (17, .int .i64 (t.i : Int))]) (fun t => t.J) (fun t : TCX => (bn, row 70 (t.nv.flatMap ndV ++ [])) :: (bt1, row 50 (entV e (.slice An e.nodes.length cn) (.slice Aw e.with_.length cw))) :: (bt2, row 50 (entV zeroEnt (.slice none 0 0) (.slice none 0 0))) :: F) (fun t => t.i ≤ e.nodes.length ∧ I.le t.J ∧ NodesOk (Imv t.J) t.nv e.nodes) (fun t => e.nodes.length - t.i) ⟨0, I, nv⟩ ⟨Nat.zero_le _, Imm.le_refl _, hno⟩ ⟨rfl, rfl, rfl, rfl, rfl, rfl, trivial⟩ rfl zP ?_; rintro ⟨i, J, nv2⟩ ⟨hle, hJ, hno2⟩
 try dsimp only
 try simp only [nf]
 refine WP.seq ?_; refine WP.region [0] rfl ?_; refine WP.split rfl rfl rfl rfl (Yld.lss rfl rfl rfl) (fun hlt => ?_) (fun hlt => ?_)
 ·simp only at hle hJ hno2
  have hnl0 := hsz.nodes
  have hi : i < e.nodes.length := by first | omega | (simp only at hlt; omega)
  have hin : i < nv2.length := by rw [hno2.len]; exact hi
  obtain ⟨d, hd1, hd2⟩ := hno2.at_ i _ (List.getElem?_eq_getElem hin)
  obtain ⟨Ad, cd, hvd, hcd, _⟩ := id hd2
  have hdl := hsz.data _ (List.mem_of_getElem? hd1)
  simp only at hdl
  refine WP.nil (WP.next (WP.seq ?_))
  refine WP.condT rfl ?_; refine WP.skip (WP.next (WP.seq (WP.block (WP.seq ?_))))
  refine WP.region [0, 1, 2, 3, 4, 5] rfl ?_; refine WP.mv rfl rfl ?_; refine WP.vl rfl (Yld.indexAddr (i := i) rfl ty_sl_45 rfl rfl hi) ?_; refine WP.vl rfl (Yld.loadAggC rfl ty_ag_70 rfl (show There _ _ bn (row 70 (nv2.flatMap ndV ++ [])) from zM) (flat_seg ndV_len hin []) rfl) ?_; refine WP.loud rfl rfl ?_; refine Op.alloc rfl rfl rfl ty_zr_70 (fun b5 => ?_)
  refine WP.mv rfl rfl ?_; refine WP.loud rfl rfl ?_; refine Op.sA rfl rfl ty_sz_70 rfl rfl rfl (by simp only [ndV, hvd]; rfl) rfl ?_; refine WP.nil ?_; refine WP.sub [(1, _), (2, _), (3, _), (4, _), (5, _), (15, _), (16, _), (17, _), (18, _)] ?_ ⟨rfl, rfl, rfl, rfl, rfl, rfl, rfl, rfl, rfl, trivial⟩
  refine WP.next (WP.seq ?_)
  refine WP.region [0, 1, 2, 3, 4, 5, 6, 7, 8] rfl ?_; iterate 2 refine WP.mv rfl rfl ?_
  refine WP.vl rfl (Yld.fieldAddr rfl ty_fd_70_1 rfl) ?_; refine WP.vl rfl (Yld.ld rfl ty_sc_47 rfl rfl) ?_; refine WP.vl rfl (Yld.lenR hd2 rfl ty_sl_47 rfl) ?_; refine WP.loud rfl rfl ?_; refine Op.make (l := d.length) (c := d.length) rfl ty_sl_47 ty_el_47 rfl rfl rfl rfl rfl (Nat.le_refl _) (by omega) (by omega) (fun bd => ?_)
  rw [bytesZ]
  refine WP.vl rfl (Yld.indexAddr (i := i) rfl ty_sl_45 rfl rfl hi) ?_; refine WP.vl rfl (Yld.fieldAddr rfl ty_fd_70_1 rfl) ?_; refine WP.loud rfl rfl ?_; refine Op.store1 rfl rfl ty_sz_47 rfl rfl rfl (by repeat (first | exact Upd.head | apply Upd.tail | apply Upd.tailS)) (flat_set ndV_len hin (by decide) [] (nv2[i].1, .slice (some ⟨bd, 0, none⟩) d.length d.length) rfl) ?_; refine WP.nil ?_; refine WP.sub [(1, _), (2, _), (3, _), (4, _), (5, _), (15, _), (16, _), (17, _), (18, _)] ?_ ⟨rfl, rfl, rfl, rfl, rfl, rfl, rfl, rfl, rfl, trivial⟩
  refine WP.next ?_; refine WQ.start Tryzmixed 7 zK _ rfl [7] rfl ?_; iterate 2 refine WQ.val rfl rfl rfl (Yld.move rfl rfl) ?_
  refine WQ.val rfl rfl rfl (Yld.indexAddr (i := i) rfl ty_sl_45 rfl rfl hi) ?_; refine WQ.val rfl rfl rfl (Yld.fieldAddr rfl ty_fd_70_1 rfl) ?_; refine WQ.val rfl rfl rfl (Yld.ld rfl ty_sc_47 rfl (flat_at ndV_len (l := nv2.set i (nv2[i].1, .slice (some ⟨bd, 0, none⟩) d.length d.length)) (j := 1) (by simpa using hin) (by decide) [] (by simp only [List.getElem_set_self]; rfl))) ?_; refine WQ.val rfl rfl rfl (Yld.fieldAddr rfl ty_fd_70_1 rfl) ?_; refine WQ.val rfl rfl rfl (Yld.ld rfl ty_sc_47 rfl rfl) ?_; refine WQ.nil ?_; refine WP.loud rfl rfl ?_; refine Op.copyB (k := 0) (m := d.length) (m2 := d.length) (q := d.length) (old := List.replicate d.length 0) (new := d) (s := d) rfl ty_sl_47 rfl rfl rfl rfl (SlAt.blk (Nat.le_refl _)) (hd2.mono (fun b o h => .inr h)) (Nat.min_self _) (by simp) (by simp) (by repeat (first | exact Upd.head | apply Upd.tail | apply Upd.tailS)) ?_; refine WP.nil ?_; refine WP.sub [(1, _), (2, _), (3, _), (4, _), (5, _), (15, _), (16, _), (17, _), (18, _)] ?_ ⟨rfl, rfl, rfl, rfl, rfl, rfl, rfl, rfl, rfl, trivial⟩
  have hob := Own.blk (T := 5) (sz := 1) (b := bd) (cap := d.length) (n := d.length) (xs := bytesV d) (sp := []) (by rw [bytesV_len, Nat.mul_one]) (by rw [bytesV_len]; simp) (Nat.le_refl _)
  rw [List.append_nil] at hob
  refine WP.shO hob (fun J2 hJ2 hd9 => ?_)
  refine WP.leave (WP.next ?_)
  refine WP.region [0, 1] rfl ?_; refine WP.vl rfl (Yld.add64 rfl rfl rfl (by omega)) ?_; refine WP.mv rfl rfl ?_; refine WP.nil ?_; refine WP.sub [(1, _), (2, _), (3, _), (4, _), (5, _), (15, _), (16, _), (17, _), (18, _)] ?_ ⟨rfl, rfl, rfl, rfl, rfl, rfl, rfl, rfl, rfl, trivial⟩
  exact WP.ag ⟨i + 1, J2, nv2.set i (nv2[i].1, .slice (some ⟨bd, 0, none⟩) d.length d.length)⟩ ⟨hi, Imm.le_trans hJ hJ2, (hno2.mono (Imv.le hJ2)).set hin hd1 hd9⟩ (by simp only; omega) ⟨rfl, rfl, rfl, rfl, rfl, rfl, trivial⟩ rfl
 ·simp only at hle hJ hno2
  have hnl2 := hno2.len
  refine WP.shO (Own.blk (T := 70) (sz := 2) (b := bn) (cap := e.nodes.length) (n := e.nodes.length) (xs := nv2.flatMap ndV) (sp := []) (by rw [flat_len ndV_len, hnl2]) (by rw [flat_len ndV_len, hnl2]; rfl) (Nat.le_refl _)) (fun J3 hJ3 hn3 => ?_)
  have hno3 := hno2.mono (Imv.le hJ3)
  have hw3 := hw.mono (Imv.le (Imm.le_trans hJ hJ3))
  refine WP.nil (WP.next (WP.seq ?_))
  refine WP.condF rfl ?_; refine WP.exit (WP.thenE (WP.thenE (WP.hit (WP.next (WP.seq ?_)))))
  refine WP.region [0, 1, 2] rfl ?_; refine WP.mv rfl rfl ?_; refine WP.vl rfl (Yld.fieldAddr rfl ty_fd_50_1 rfl) ?_; refine WP.loud rfl rfl ?_; refine Op.s1 rfl rfl ty_sz_45 rfl rfl rfl ?_; refine WP.nil ?_; refine WP.sub [(1, _), (2, _), (3, _), (15, _), (16, _), (17, _), (18, _)] ?_ ⟨rfl, rfl, rfl, rfl, rfl, rfl, rfl, trivial⟩
  refine WP.next (WP.seq ?_)
  refine WP.region [0, 1, 2, 3, 4] rfl ?_; refine WP.vl rfl (Yld.fieldAddr rfl ty_fd_50_8 rfl) ?_; refine WP.vl rfl (Yld.ld rfl ty_sc_48 rfl rfl) ?_; refine WP.vl rfl (Yld.lenR hw3 rfl ty_sl_48 rfl) ?_; refine WP.loud rfl rfl ?_; refine Op.make (l := e.with_.length) (c := e.with_.length) rfl ty_sl_48 ty_el_48 rfl rfl rfl rfl rfl (Nat.le_refl _) (by have := hsz.with_; omega) (by have := hsz.with_; omega) (fun bw => ?_)
  rw [intsZ]
  refine WP.mv rfl rfl ?_; refine WP.nil ?_; refine WP.sub [(1, _), (2, _), (3, _), (6, _), (15, _), (16, _), (17, _), (18, _)] ?_ ⟨rfl, rfl, rfl, rfl, rfl, rfl, rfl, rfl, trivial⟩
  refine WP.next (WP.seq ?_)
  refine WP.region [0, 1, 2, 3] rfl ?_; refine WP.mv rfl rfl ?_; refine WP.vl rfl (Yld.fieldAddr rfl ty_fd_50_8 rfl) ?_; refine WP.vl rfl (Yld.ld rfl ty_sc_48 rfl rfl) ?_; refine WP.loud rfl rfl ?_; refine Op.copy (k := 0) (m := e.with_.length) (m2 := e.with_.length) (q := e.with_.length) (cs := e.with_.map (Value.int .i64)) (old := (List.replicate e.with_.length (0 : Int)).map (Value.int .i64)) (new := e.with_.map (Value.int .i64) ++ []) rfl ty_sl_48 rfl rfl rfl rfl (SlAt.blk (Nat.le_refl _)) (hw3.mono (fun b o h => .inr h)) (ints_one _) (Nat.min_self _) (by simp) (by rw [List.append_nil, List.take_of_length_le (by simp), splice_all _ _ (by simp)]) (by repeat (first | exact Upd.head | apply Upd.tail | apply Upd.tailS)) ?_; refine WP.nil ?_; refine WP.sub [(1, _), (2, _), (3, _), (6, _), (15, _), (16, _), (17, _), (18, _)] ?_ ⟨rfl, rfl, rfl, rfl, rfl, rfl, rfl, rfl, trivial⟩
  refine WP.shO (Own.blk (T := 3) (sz := 1) (b := bw) (cap := e.with_.length) (n := e.with_.length) (xs := e.with_.map (Value.int .i64)) (sp := []) (by simp) (by simp) (Nat.le_refl _)) (fun J4 hJ4 hw4 => ?_)
  have hn4 := hn3.mono (fun b o h => hJ4.2 b o h)
  have hno4 := hno3.mono (Imv.le hJ4)
  refine WP.next (WP.seq ?_)
  refine WP.region [0, 1, 2] rfl ?_; refine WP.mv rfl rfl ?_; refine WP.vl rfl (Yld.fieldAddr rfl ty_fd_50_8 rfl) ?_; refine WP.loud rfl rfl ?_; refine Op.s1 rfl rfl ty_sz_48 rfl rfl rfl ?_; refine WP.nil ?_; refine WP.sub [(1, _), (2, _), (3, _), (6, _), (15, _), (16, _), (17, _), (18, _)] ?_ ⟨rfl, rfl, rfl, rfl, rfl, rfl, rfl, rfl, trivial⟩
  refine WP.next (WP.seq ?_)
  refine WP.region [0, 1] rfl ?_; refine WP.vl rfl (Yld.lda rfl ty_ag_50 rfl rfl) ?_; refine WP.loud rfl rfl ?_; refine Op.sA rfl rfl ty_sz_50 rfl rfl rfl rfl rfl ?_; refine WP.nil ?_; refine WP.sub [(1, _), (2, _), (3, _), (6, _), (15, _), (16, _), (17, _), (18, _)] ?_ ⟨rfl, rfl, rfl, rfl, rfl, rfl, rfl, rfl, trivial⟩
  refine WP.next (WP.ret ?_)
  refine WP.fn .ret (.inr rfl) (resC rfl ty_ag_50 rfl zM rfl) [] (Imm.le_trans hJ (Imm.le_trans hJ3 hJ4)) ?_; exact ⟨_, rfl, ⟨_, _, nv2, rfl, hn4, hno4, hw4⟩, rfl⟩


theorem Tb.get_at {x : Tb} {p : Int} {i j : Nat} (hp : p = (i : Int) * 16 + j + 1) (hj : j < 16) (hi : i < x.cks.length) : x.get p = x.cks[i].2 j := by
 have e1 : ((p - 1) / 16).toNat = i := by omega
 have e2 : ((p - 1) % 16).toNat = j := by omega
 rw [Tb.get, if_neg (by omega), e1, e2, List.getElem?_eq_getElem hi]
theorem Tb.get_out {x : Tb} {p : Int} (hp : p < 1 ∨ x.size < p) : x.get p = none := by
 unfold Tb.get
 split
 ·rfl
 ·have : x.cks[((p - 1) / 16).toNat]? = none := List.getElem?_eq_none (by unfold Tb.size at hp; omega)
  rw [this]
theorem Tb.in_of_get {x : Tb} {p : Int} {e : Nat × Ent} (h : x.get p = some e) : 1 ≤ p ∧ p ≤ x.size := by
 refine ⟨Int.not_lt.1 fun hh => ?_, Int.not_lt.1 fun hh => ?_⟩
 ·rw [Tb.get_out (.inl hh)] at h; cases h
 ·rw [Tb.get_out (.inr hh)] at h; cases h
theorem Tb.split {x : Tb} {p : Int} (h : 1 ≤ p ∧ p ≤ x.size) : ∃ i j : Nat, p = (i : Int) * 16 + j + 1 ∧ j < 16 ∧ i < x.cks.length :=
 ⟨((p - 1) / 16).toNat, ((p - 1) % 16).toNat, by omega, by omega, by unfold Tb.size at h; omega⟩
theorem slot_Load {I : Imm} {b k : Nat} {cs : List Value} {o : Option (Nat × Ent)} (hk : cs[k]? = some (slotV o)) (ho : ∀ e, o = some e → entOk I e) : Spec Tryz.prog 53 [.pointer (some ⟨b, k, none⟩)] I [(b, row 150 cs)] (fun v J L => v = slotV o ∧ I = J ∧ L = [(b, row 150 cs)]) := by
 cases o with
 | none => exact slot_Load0 hk
 | some e => obtain ⟨_, es, h1, h2⟩ := ho e rfl; exact slot_Load1 hk h1 h2.cells.1
theorem slot_Store {I : Imm} {b k : Nat} {cs cs' : List Value} {o : Option (Nat × Ent)} (ho : ∀ e, o = some e → entOk I e) (hs : SetAt cs k (slotV o) cs') : Spec Tryz.prog 55 [.pointer (some ⟨b, k, none⟩), slotV o] I [(b, row 150 cs)] (fun v J L => v = .tuple #[] ∧ I = J ∧ L = [(b, row 150 cs')]) := by
 cases o with
 | none => exact slot_Store0 hs
 | some e => obtain ⟨_, es, h1, h2⟩ := ho e rfl; exact slot_Store1 h1 h2.cells.1 hs
theorem tab_Size {I : Imm} {t q : Nat} {x : Tb} {L : Chunks} (hd : IsTab I t q x L) : Spec Tryz.prog 54 [.pointer (some ⟨t, 0, none⟩)] I L (fun v J L' => v = .int .i64 x.size ∧ I = J ∧ L' = L) := by
 cases hd with | mk ok ow =>
 obtain ⟨bv, cv, spv, rfl, rfl, hcv, hnv⟩ := ow.get (by have := ok.n1; omega)
 have hn1 := ok.n1
 have hn2 := ok.n2
 refine Spec.of Tryz.func54 rfl Tryz.ntmps54 (Nat.le_of_ble_eq_true rfl) (fun F => ?_)
 try simp only [nf]
 dsimp only [argsEnv]
 refine WP.seq ?_; refine WP.region [0] rfl ?_; refine WP.mv rfl rfl ?_; refine WP.nil (WP.next (WP.seq ?_))
 refine WP.region [0, 1, 2, 3, 4, 5, 6] rfl ?_; refine WP.mv rfl rfl ?_; refine WP.vl rfl (Yld.nilCheck rfl rfl) ?_; refine WP.vl rfl (Yld.fieldAddr rfl ty_fd_100_2 rfl) ?_; refine WP.vl rfl (Yld.ld rfl ty_sc_98 rfl rfl) ?_; refine WP.vl rfl (Yld.len rfl ty_sl_98 rfl) ?_; refine WP.vl rfl (Yld.mul64 rfl rfl rfl (by omega)) ?_; refine WP.mv rfl rfl ?_; refine WP.nil ?_; refine WP.sub [(0, _), (2, _)] ?_ ⟨rfl, rfl, trivial⟩
 refine WP.next (WP.ret ?_)
 refine WP.fn .ret (.inr rfl) (res1 rfl rfl) ((t, row 100 [.pointer (some ⟨q, 0, none⟩), .int .u64 (x.tok : Int), .slice (some ⟨bv, 0, none⟩) x.cks.length cv, .int .i64 x.next]) :: ((bv, row 142 (ckps x.cks ++ spv)) :: x.cks.flatMap ckCh)) (Imm.le_refl _) ?_; exact ⟨rfl, rfl, rfl⟩

theorem tab_at0a {I : Imm} {t q : Nat} {x : Tb} {L : Chunks} (hd : IsTab I t q x L) {p : Int} (hp : p < 1) : Spec Tryz.prog 35 [.pointer (some ⟨t, 0, none⟩), .int .i64 p] I L (fun v J L' => v = .pointer none ∧ I = J ∧ L' = L) := by
 cases hd with | mk ok ow =>
 obtain ⟨bv, cv, spv, rfl, rfl, hcv, hnv⟩ := ow.get (by have := ok.n1; omega)
 have hn1 := ok.n1
 have hn2 := ok.n2
 refine Spec.of Tryz.func35 rfl Tryz.ntmps35 (Nat.le_of_ble_eq_true rfl) (fun F => ?_)
 try simp only [nf]
 dsimp only [argsEnv]
 refine WP.seq ?_; refine WP.region [0] rfl ?_; refine WP.mv rfl rfl ?_; refine WP.nil (WP.next (WP.seq (WP.seq ?_)))
 refine WP.region [0, 1, 2, 3, 4, 5, 6, 7] rfl ?_; refine WP.mv rfl rfl ?_; refine WP.vl rfl (Yld.lss rfl rfl rfl true (decide_eq_true (by omega))) ?_; refine WP.mv rfl rfl ?_; iterate 4 refine WP.passG rfl rfl rfl rfl rfl rfl rfl rfl ?_
 refine WP.vl rfl (Yld.pickT rfl rfl rfl) ?_; refine WP.nil ?_; refine WP.sub [(0, _), (1, _), (4, _), (12, _)] ?_ ⟨rfl, rfl, rfl, rfl, trivial⟩
 refine WP.next ?_; refine WP.condT rfl ?_; refine WP.seq ?_; refine WP.region [0] rfl ?_; refine WP.mv rfl rfl ?_; refine WP.nil (WP.next (WP.ret ?_))
 refine WP.fn .ret (.inr rfl) (res1 rfl rfl) ((t, row 100 [.pointer (some ⟨q, 0, none⟩), .int .u64 (x.tok : Int), .slice (some ⟨bv, 0, none⟩) x.cks.length cv, .int .i64 x.next]) :: ((bv, row 142 (ckps x.cks ++ spv)) :: x.cks.flatMap ckCh)) (Imm.le_refl _) ?_; exact ⟨rfl, rfl, rfl⟩

theorem tab_at0b {I : Imm} {t q : Nat} {x : Tb} {L : Chunks} (hd : IsTab I t q x L) {p : Int} (hp : ¬ p < 1) (hp2 : x.size < p) : Spec Tryz.prog 35 [.pointer (some ⟨t, 0, none⟩), .int .i64 p] I L (fun v J L' => v = .pointer none ∧ I = J ∧ L' = L) := by
 cases hd with | mk ok ow =>
 obtain ⟨bv, cv, spv, rfl, rfl, hcv, hnv⟩ := ow.get (by have := ok.n1; omega)
 have hn1 := ok.n1
 have hn2 := ok.n2
 refine Spec.of Tryz.func35 rfl Tryz.ntmps35 (Nat.le_of_ble_eq_true rfl) (fun F => ?_)
 try simp only [nf]
 dsimp only [argsEnv]
 refine WP.seq ?_; refine WP.region [0] rfl ?_; refine WP.mv rfl rfl ?_; refine WP.nil (WP.next (WP.seq (WP.seq ?_)))
 refine WP.region [0, 1, 2, 3, 4, 5, 6, 7] rfl ?_; refine WP.mv rfl rfl ?_; refine WP.vl rfl (Yld.lss rfl rfl rfl false (decide_eq_false (by omega))) ?_; refine WP.mv rfl rfl ?_; iterate 2 refine WP.valG rfl rfl rfl rfl rfl rfl rfl (Yld.move rfl rfl) ?_
 refine WP.loudG rfl rfl rfl rfl rfl ?_; refine Op.cl (tab_Size (IsTab.mk ok ow)) rfl Tryz.func54 rfl rfl rfl rfl ?_; rintro v J L1 - ⟨rfl, rfl, rfl⟩
 try simp only [nf]
 refine WP.valG rfl rfl rfl rfl rfl rfl rfl (Yld.gtr rfl rfl rfl true (decide_eq_true (by omega))) ?_; refine WP.vl rfl (Yld.pickF rfl rfl rfl) ?_; refine WP.nil ?_; refine WP.sub [(0, _), (1, _), (4, _), (12, _)] ?_ ⟨rfl, rfl, rfl, rfl, trivial⟩
 refine WP.next ?_; refine WP.condT rfl ?_; refine WP.seq ?_; refine WP.region [0] rfl ?_; refine WP.mv rfl rfl ?_; refine WP.nil (WP.next (WP.ret ?_))
 refine WP.fn .ret (.inr rfl) (res1 rfl rfl) ((t, row 100 [.pointer (some ⟨q, 0, none⟩), .int .u64 (x.tok : Int), .slice (some ⟨bv, 0, none⟩) x.cks.length cv, .int .i64 x.next]) :: ((bv, row 142 (ckps x.cks ++ spv)) :: x.cks.flatMap ckCh)) (Imm.le_refl _) ?_; exact ⟨rfl, rfl, rfl⟩

theorem tab_at1 {I : Imm} {t q : Nat} {x : Tb} {L : Chunks} (hd : IsTab I t q x L) {p : Int} {i j : Nat} (hp : p = (i : Int) * 16 + j + 1) (hj : j < 16) (hi : i < x.cks.length) : Spec Tryz.prog 35 [.pointer (some ⟨t, 0, none⟩), .int .i64 p] I L (fun v J L' => v = .pointer (some ⟨x.cks[i].1, j, none⟩) ∧ I = J ∧ L' = L) := by
 cases hd with | mk ok ow =>
 obtain ⟨bv, cv, spv, rfl, rfl, hcv, hnv⟩ := ow.get (by have := ok.n1; omega)
 have hn1 := ok.n1
 have hn2 := ok.n2
 refine Spec.of Tryz.func35 rfl Tryz.ntmps35 (Nat.le_of_ble_eq_true rfl) (fun F => ?_)
 try simp only [nf]
 dsimp only [argsEnv]
 refine WP.seq ?_; refine WP.region [0] rfl ?_; refine WP.mv rfl rfl ?_; refine WP.nil (WP.next (WP.seq (WP.seq ?_)))
 refine WP.region [0, 1, 2, 3, 4, 5, 6, 7] rfl ?_; refine WP.mv rfl rfl ?_; refine WP.vl rfl (Yld.lss rfl rfl rfl false (decide_eq_false (by omega))) ?_; refine WP.mv rfl rfl ?_; iterate 2 refine WP.valG rfl rfl rfl rfl rfl rfl rfl (Yld.move rfl rfl) ?_
 refine WP.loudG rfl rfl rfl rfl rfl ?_; refine Op.cl (tab_Size (IsTab.mk ok ow)) rfl Tryz.func54 rfl rfl rfl rfl ?_; rintro v J L1 - ⟨rfl, rfl, rfl⟩
 try simp only [nf]
 refine WP.valG rfl rfl rfl rfl rfl rfl rfl (Yld.gtr rfl rfl rfl false (decide_eq_false (by unfold Tb.size; omega))) ?_; refine WP.vl rfl (Yld.pickF rfl rfl rfl) ?_; refine WP.nil ?_; refine WP.sub [(0, _), (1, _), (4, _), (12, _)] ?_ ⟨rfl, rfl, rfl, rfl, trivial⟩
 refine WP.next ?_; refine WP.condF rfl ?_; refine WP.skip (WP.next (WP.seq ?_))
 refine WP.region [0, 1, 2, 3, 4, 5, 6, 7, 8, 9, 10, 11, 12, 13, 14] rfl ?_; refine WP.mv rfl rfl ?_; refine WP.vl rfl (Yld.nilCheck rfl rfl) ?_; refine WP.vl rfl (Yld.fieldAddr rfl ty_fd_100_2 rfl) ?_; refine WP.vl rfl (Yld.ld rfl ty_sc_98 rfl rfl) ?_; refine WP.mv rfl rfl ?_; refine WP.vl rfl (Yld.sub64 rfl rfl rfl (by omega)) ?_; refine WP.vl rfl (Yld.quo64 rfl rfl rfl (by omega)) ?_; rw [show (p - 1) / 16 = (i : Int) by omega]
 refine WP.vl rfl (Yld.indexAddr (i := i) rfl ty_sl_98 rfl rfl hi) ?_; refine WP.vl rfl (Yld.ld rfl ty_sc_142 rfl (ckps_at hi spv)) ?_; refine WP.mv rfl rfl ?_; refine WP.vl rfl (Yld.sub64 rfl rfl rfl (by omega)) ?_; refine WP.vl rfl (Yld.rem64 rfl rfl rfl (by omega)) ?_; refine WP.vl rfl (Yld.nilCheck rfl rfl) ?_; rw [show (p - 1) % 16 = (j : Int) by omega]
 refine WP.vl rfl (Yld.indexAddrA (i := j) rfl ty_ar_150 rfl rfl hj) ?_; refine WP.mv rfl rfl ?_; refine WP.nil ?_; refine WP.sub [(0, _), (1, _), (4, _), (12, _)] ?_ ⟨rfl, rfl, rfl, rfl, trivial⟩
 refine WP.next (WP.ret ?_)
 refine WP.fn .ret (.inr rfl) (res1 rfl rfl) ((t, row 100 [.pointer (some ⟨q, 0, none⟩), .int .u64 (x.tok : Int), .slice (some ⟨bv, 0, none⟩) x.cks.length cv, .int .i64 x.next]) :: ((bv, row 142 (ckps x.cks ++ spv)) :: x.cks.flatMap ckCh)) (Imm.le_refl _) ?_; refine ⟨?_, rfl, rfl⟩
 simp


theorem tab_at0 {I : Imm} {t q : Nat} {x : Tb} {L : Chunks} (hd : IsTab I t q x L) {p : Int} (hp : p < 1 ∨ x.size < p) : Spec Tryz.prog 35 [.pointer (some ⟨t, 0, none⟩), .int .i64 p] I L (fun v J L' => v = .pointer none ∧ I = J ∧ L' = L) := by
 by_cases h : p < 1
 ·exact tab_at0a hd h
 ·exact tab_at0b hd h (by omega)
theorem tab_find0 {I : Imm} {t q : Nat} {x : Tb} {L : Chunks} (hd : IsTab I t q x L) {p : Int} (hp : p < 1 ∨ x.size < p) : Spec Tryz.prog 32 [.pointer (some ⟨t, 0, none⟩), .int .i64 p] I L (fun v J L' => v = .pointer none ∧ I = J ∧ L' = L) := by
 cases hd with | mk ok ow =>
 obtain ⟨bv, cv, spv, rfl, rfl, hcv, hnv⟩ := ow.get (by have := ok.n1; omega)
 have hn1 := ok.n1
 have hn2 := ok.n2
 refine Spec.of Tryz.func32 rfl Tryz.ntmps32 (Nat.le_of_ble_eq_true rfl) (fun F => ?_)
 try simp only [nf]
 dsimp only [argsEnv]
 refine WP.seq ?_; refine WP.region [0] rfl ?_; refine WP.mv rfl rfl ?_; refine WP.nil (WP.next (WP.seq (WP.seq ?_)))
 refine WP.region [0, 1, 2, 3] rfl ?_; iterate 2 refine WP.mv rfl rfl ?_
 refine WP.loud rfl rfl ?_; refine Op.cl (tab_at0 (IsTab.mk ok ow) hp) rfl Tryz.func35 rfl rfl rfl rfl ?_; rintro v J L1 - ⟨rfl, rfl, rfl⟩
 try simp only [nf]
 refine WP.mv rfl rfl ?_; refine WP.nil ?_; refine WP.sub [(0, _), (1, _), (4, _), (5, _)] ?_ ⟨rfl, rfl, rfl, rfl, trivial⟩
 refine WP.next (WP.seq ?_)
 refine WP.region [0, 1] rfl ?_; refine WP.mv rfl rfl ?_; refine WP.vl rfl (Yld.neqNil rfl ty_pt_93 rfl rfl) ?_; refine WP.nil ?_; refine WP.sub [(0, _), (1, _), (4, _), (5, _), (10, _)] ?_ ⟨rfl, rfl, rfl, rfl, rfl, trivial⟩
 refine WP.next ?_; refine WP.condF rfl ?_; refine WP.skip (WP.next (WP.seq ?_))
 refine WP.region [0] rfl ?_; refine WP.mv rfl rfl ?_; refine WP.nil (WP.next (WP.ret ?_))
 refine WP.fn .ret (.inr rfl) (res1 rfl rfl) ((t, row 100 [.pointer (some ⟨q, 0, none⟩), .int .u64 (x.tok : Int), .slice (some ⟨bv, 0, none⟩) x.cks.length cv, .int .i64 x.next]) :: ((bv, row 142 (ckps x.cks ++ spv)) :: x.cks.flatMap ckCh)) (Imm.le_refl _) ?_; exact ⟨rfl, rfl, rfl⟩

theorem tab_find1 {I : Imm} {t q : Nat} {x : Tb} {L : Chunks} (hd : IsTab I t q x L) {p : Int} {i j : Nat} (hp : p = (i : Int) * 16 + j + 1) (hj : j < 16) (hi : i < x.cks.length) : Spec Tryz.prog 32 [.pointer (some ⟨t, 0, none⟩), .int .i64 p] I L (fun v J L' => v = slotV (x.cks[i].2 j) ∧ I = J ∧ L' = L) := by
 cases hd with | mk ok ow =>
 obtain ⟨bv, cv, spv, rfl, rfl, hcv, hnv⟩ := ow.get (by have := ok.n1; omega)
 have hn1 := ok.n1
 have hn2 := ok.n2
 refine Spec.of Tryz.func32 rfl Tryz.ntmps32 (Nat.le_of_ble_eq_true rfl) (fun F => ?_)
 try simp only [nf]
 dsimp only [argsEnv]
 refine WP.seq ?_; refine WP.region [0] rfl ?_; refine WP.mv rfl rfl ?_; refine WP.nil (WP.next (WP.seq (WP.seq ?_)))
 refine WP.region [0, 1, 2, 3] rfl ?_; iterate 2 refine WP.mv rfl rfl ?_
 refine WP.loud rfl rfl ?_; refine Op.cl (tab_at1 (IsTab.mk ok ow) hp hj hi) rfl Tryz.func35 rfl rfl rfl rfl ?_; rintro v J L1 - ⟨rfl, rfl, rfl⟩
 try simp only [nf]
 refine WP.mv rfl rfl ?_; refine WP.nil ?_; refine WP.sub [(0, _), (1, _), (4, _), (5, _)] ?_ ⟨rfl, rfl, rfl, rfl, trivial⟩
 refine WP.next (WP.seq ?_)
 refine WP.region [0, 1] rfl ?_; refine WP.mv rfl rfl ?_; refine WP.vl rfl (Yld.neqNil rfl ty_pt_93 rfl rfl) ?_; refine WP.nil ?_; refine WP.sub [(0, _), (1, _), (4, _), (5, _), (10, _)] ?_ ⟨rfl, rfl, rfl, rfl, rfl, trivial⟩
 refine WP.next ?_; refine WP.condT rfl ?_; refine WP.seq ?_; refine WP.outL (f := ckCh) (l := x.cks) i hi (by repeat (first | exact Rm.chunk | exact Rm.here | exact Rm.nil0 | apply Rm.skip | apply Rm.skipS)) ?_; simp only [ckCh, List.cons_append, List.nil_append]
 refine WP.region [0, 1, 2] rfl ?_; refine WP.mv rfl rfl ?_; refine WP.loud rfl rfl ?_; refine Op.cl (slot_Load (by rw [← Nat.zero_add j, ← Nat.mul_one j]; simp only [Nat.mul_one]; exact (by simpa using ckV_at hj)) (fun e he => ok.ent _ (List.getElem_mem hi) _ _ he)) rfl Tryz.func53 rfl rfl rfl rfl ?_; rintro v J L1 - ⟨rfl, rfl, rfl⟩
 try simp only [nf]
 refine WP.mv rfl rfl ?_; refine WP.nil ?_; refine WP.sub [(0, _), (1, _), (4, _), (5, _), (10, _)] ?_ ⟨rfl, rfl, rfl, rfl, rfl, trivial⟩
 refine WP.inL (f := ckCh) (l := x.cks) i hi zT (by repeat (first | exact Rm.chunk | exact Rm.here | exact Rm.nil0 | apply Rm.skip | apply Rm.skipS)) ?_; refine WP.next (WP.ret ?_)
 refine WP.fn .ret (.inr rfl) (res1 rfl rfl) ((t, row 100 [.pointer (some ⟨q, 0, none⟩), .int .u64 (x.tok : Int), .slice (some ⟨bv, 0, none⟩) x.cks.length cv, .int .i64 x.next]) :: ((bv, row 142 (ckps x.cks ++ spv)) :: x.cks.flatMap ckCh)) (Imm.le_refl _) ?_; exact ⟨rfl, rfl, rfl⟩


theorem tab_find {I : Imm} {t q : Nat} {x : Tb} {L : Chunks} (hd : IsTab I t q x L) {p : Int} : Spec Tryz.prog 32 [.pointer (some ⟨t, 0, none⟩), .int .i64 p] I L (fun v J L' => v = slotV (x.get p) ∧ I = J ∧ L' = L) := by
 by_cases h : 1 ≤ p ∧ p ≤ x.size
 ·obtain ⟨i, j, h1, h2, h3⟩ := Tb.split h
  rw [Tb.get_at h1 h2 h3]
  exact tab_find1 hd h1 h2 h3
 ·rw [Tb.get_out (by omega)]
  exact tab_find0 hd (by omega)

end Go.Hp
