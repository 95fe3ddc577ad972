import Derived.Test.YtbgkfndnbngnmaaSegR
set_option linter.unusedVariables false
set_option linter.unusedSimpArgs false
namespace Go.Hp
open Go Go.Proofs

def wd (F k : Nat) : List UInt8 := [UInt8.ofNat k, UInt8.ofNat (8 * F + k)]
def wp (F k : Nat) : Pt := ⟨((8 * F + k : Nat) : Int), (k : Int) + 1, 0, 1, 1, wd F k⟩
def wg (f e : Nat) : Sg := ⟨4, f, e⟩
theorem wg_ok {f e : Nat} (h1 : f ≤ e) (h2 : e ≤ 1099511627776) : (wg f e).ok 136 := ⟨show 4 ≤ 4 by decide, show 4 * 32 + 8 ≤ 136 by decide, h1, h2⟩
theorem wp_may {F k : Nat} (h1 : F ≤ 1073741824) (h2 : k ≤ 200) : (wp F k).may := ⟨by unfold wp; simp only; omega, by unfold wp; simp only; omega, ⟨show (1 : Int) ≤ 1 by decide, show (1 : Int) ≤ 4294967295 by decide⟩, ⟨show (1 : Int) ≤ 1 by decide, show (1 : Int) ≤ 64 by decide⟩, ⟨show (0 : Int) ≤ 0 by decide, show (0 : Int) ≤ 1 - 1 by decide⟩, .inr ⟨show (0 : Int) = 1 - 1 by decide, show 1 ≤ 2 by decide, show 2 ≤ 198 by decide⟩⟩
structure Wk (F i f e : Nat) (x : Dk) : Prop where
  on : On x 136
  fe : f ≤ e
  e4 : e ≤ f + 4
  lo : F ≤ f
  hi1 : 8 * F + i ≤ 8 * e
  hi2 : 8 * e < 8 * F + i + 8
  us : 0 < i → f < e
  wl : x.waits.length ≤ 4 * i
  bl : ∀ k, k < i → 8 * f ≤ 8 * F + k → bl x (jx 4 (8 * F + k)) = penc (wp F k)
theorem Wk.new (F : Nat) : Wk F 0 F F (Dk.new 136) := ⟨On.new (by decide) (by decide), Nat.le_refl _, by omega, Nat.le_refl _, by omega, by omega, fun h => absurd h (Nat.lt_irrefl _), Nat.le_refl _, fun k h => absurd h (Nat.not_lt_zero _)⟩
theorem Wk.step {F i f e f' e' : Nat} {x : Dk} (h : Wk F i f e x) (hF : F ≤ 1073741824) (hi : i < 200) (h1 : f ≤ f') (h2 : e' ≤ f' + 4) (h3 : 8 * f' ≤ 8 * F + i) (h4 : 8 * F + i + 1 ≤ 8 * e') (h5 : 8 * e' < 8 * F + i + 1 + 8) :
    ∃ y, pwrt x 136 (wg f' e') (wp F i) = (y, 0) ∧ Wk F (i + 1) f' e' y := by
  have hlo := h.lo
  obtain ⟨y, e1, o1, w1, b1⟩ := pwrt_on h.on (wg_ok (f := f') (e := e') (by omega) (by omega)) (wp_may (k := i) hF (by omega)) (by unfold phas wg wp; simp only; omega)
  refine ⟨y, e1, o1, by omega, h2, by omega, by omega, h5, fun _ => by omega, by have := h.wl; omega, fun k hk hfk => ?_⟩
  rw [b1]
  have hpl : (wp F i).place.toNat = 8 * F + i := Int.toNat_natCast _
  rw [hpl]
  by_cases hki : k = i
  · subst hki; exact if_pos rfl
  · rw [if_neg (show jx 4 (8 * F + k) ≠ jx (wg f' e').slots (8 * F + i) from jx_ne' (s := 4) (by omega) (by omega)), h.bl k (by omega) (by omega)]
theorem wraps_read {F m f e : Nat} {x : Dk} (h : Wk F m f e x) (hF : F ≤ 1073741824) (hm : m ≤ 200) {k : Nat} (hk : k < m) : pread x 136 (wg f e) (8 * F + k) = if 8 * F + k < 8 * f then (ptZ, 1) else (wp F k, 0) := by
  have hfe := h.fe
  have hi1 := h.hi1
  have hi2 := h.hi2
  by_cases hlt : 8 * F + k < 8 * f
  · rw [if_pos hlt]; unfold pread
    rw [if_neg (by unfold phas wg; simp only; omega)]
  · rw [if_neg hlt]; unfold pread
    rw [if_pos (by unfold phas wg; simp only; omega), pstand_on h.on (wg_ok hfe (by omega)), show (wg f e).slots = 4 from rfl, h.bl k hk (by omega), pdec_enc (wp_may hF (by omega))]
    exact if_pos rfl
structure WSX where
  i : Nat
  f : Nat
  e : Nat
  x : Dk
  J : Imm
  L : Chunks
structure WSX.ok (J0 : Imm) (d F many : Nat) (t : WSX) : Prop where
  le : t.i ≤ many
  hJ : J0.le t.J
  hd : IsDisk d 136 t.x t.L
  wk : Wk F t.i t.f t.e t.x
set_option maxHeartbeats 1000000 in
theorem seg_Wraps {I : Imm} {a m z : Int} : Spec Try.prog 7 [.int .i64 a, .int .i64 m, .int .i64 z] I [] (fun v J L => v = .bool true ∧ L = []) := by
  refine Spec.of Try.func7 rfl Try.ntmps7 (Nat.le_of_ble_eq_true rfl) (fun F0 => ?_)
  try simp only [List.cons_append, List.nil_append, List.append_assoc]
  dsimp only [argsEnv]
  refine WP.seq ?_
  refine WP.region [0] rfl ?_
  refine WP.val rfl rfl rfl rfl (Yld.assign rfl rfl) ?_
  refine WP.nil ?_
  refine WP.next ?_
  refine WP.seq ?_
  refine WP.region [0, 1] rfl ?_
  refine WP.loud rfl rfl ?_
  refine Op.call seg_awake rfl Try.func8 rfl rfl rfl rfl (by repeat (first | exact Take.nil | with_reducible apply Take.cons | apply Take.app | exact Rm.chunk | exact Rm.here | exact Rm.nil0 | apply Rm.skip | apply Rm.skipS | (focus (apply Take.all; (repeat (first | exact Rm.chunk | exact Rm.here | exact Rm.nil0 | apply Rm.skip | apply Rm.skipS)); done)) | apply Take.cons)) ?_
  rintro v Ja L1 hJa ⟨rfl, rfl⟩
  try simp only [List.cons_append, List.nil_append, List.append_assoc]
  refine WP.val rfl rfl rfl rfl (Yld.assign rfl rfl) ?_
  refine WP.nil ?_
  refine WP.sub [(0, _), (1, _), (2, _), (6, _), (7, _)] ?_ ⟨rfl, rfl, rfl, rfl, rfl, trivial⟩
  refine WP.next ?_
  refine WP.seq ?_
  refine WP.region [0, 1, 2, 3, 4, 5] rfl ?_
  refine WP.loud rfl rfl ?_
  refine Op.call (disk_New (n := 136) (by decide) (by decide)) rfl Try.func21 rfl rfl rfl rfl (by repeat (first | exact Take.nil | with_reducible apply Take.cons | apply Take.app | exact Rm.chunk | exact Rm.here | exact Rm.nil0 | apply Rm.skip | apply Rm.skipS | (focus (apply Take.all; (repeat (first | exact Rm.chunk | exact Rm.here | exact Rm.nil0 | apply Rm.skip | apply Rm.skipS)); done)) | apply Take.cons)) ?_
  rintro v J Ld hJ ⟨rfl, d, rfl, hd⟩
  clear hJ; try simp only [List.cons_append, List.nil_append, List.append_assoc]
  refine WP.val rfl rfl rfl rfl (Yld.move rfl rfl) ?_
  refine WP.val rfl rfl rfl rfl (Yld.extract rfl rfl rfl) ?_
  refine WP.val rfl rfl rfl rfl (Yld.extract rfl rfl rfl) ?_
  refine WP.val rfl rfl rfl rfl (Yld.assign rfl rfl) ?_
  refine WP.val rfl rfl rfl rfl (Yld.assign rfl rfl) ?_
  refine WP.nil ?_
  refine WP.sub [(0, _), (1, _), (2, _), (6, _), (7, _), (8, _), (9, _)] ?_ ⟨rfl, rfl, rfl, rfl, rfl, rfl, rfl, trivial⟩
  refine WP.next ?_
  refine WP.seq ?_
  refine WP.seq ?_
  refine WP.region [0, 1, 2, 3, 4, 5, 6, 7, 8, 9] rfl ?_
  refine WP.val rfl rfl rfl rfl (Yld.move rfl rfl) ?_
  refine WP.val rfl rfl rfl rfl (Yld.not rfl rfl) ?_
  refine WP.val rfl rfl rfl rfl (Yld.move rfl rfl) ?_
  refine WP.valG rfl rfl rfl rfl rfl rfl rfl (Yld.move rfl rfl) ?_
  refine WP.valG rfl rfl rfl rfl rfl rfl rfl (Yld.eqlNil rfl ty_pt_41 rfl rfl) ?_
  refine WP.val rfl rfl rfl rfl (Yld.pickF rfl rfl rfl) ?_
  refine WP.val rfl rfl rfl rfl (Yld.move rfl rfl) ?_
  refine WP.valG rfl rfl rfl rfl rfl rfl rfl (Yld.move rfl rfl) ?_
  refine WP.valG rfl rfl rfl rfl rfl rfl rfl (Yld.neq rfl rfl rfl false (decide_eq_false (by omega))) ?_
  refine WP.val rfl rfl rfl rfl (Yld.pickF rfl rfl rfl) ?_
  refine WP.nil ?_
  refine WP.sub [(0, _), (1, _), (2, _), (6, _), (7, _), (8, _), (9, _), (37, _)] ?_ ⟨rfl, rfl, rfl, rfl, rfl, rfl, rfl, rfl, trivial⟩
  refine WP.next ?_
  refine WP.condF rfl ?_
  refine WP.skip ?_
  refine WP.next ?_
  refine WP.seq ?_
  refine WP.seq ?_
  refine WP.region [0, 1, 2, 3, 4, 5, 6, 7, 8, 9, 10, 11, 12, 13, 14, 15, 16, 17, 18, 19, 20, 21] rfl ?_
  refine WP.val rfl rfl rfl rfl (Yld.move rfl rfl) ?_
  refine WP.split rfl rfl rfl rfl (Yld.lss rfl rfl rfl) (fun g1 => ?_) (fun g1 => ?_)
  · refine WP.val rfl rfl rfl rfl (Yld.move rfl rfl) ?_
    refine WP.passG rfl rfl rfl rfl rfl rfl rfl rfl ?_
    refine WP.passG rfl rfl rfl rfl rfl rfl rfl rfl ?_
    refine WP.val rfl rfl rfl rfl (Yld.pickT rfl rfl rfl) ?_
    refine WP.val rfl rfl rfl rfl (Yld.move rfl rfl) ?_
    refine WP.passG rfl rfl rfl rfl rfl rfl rfl rfl ?_
    refine WP.passG rfl rfl rfl rfl rfl rfl rfl rfl ?_
    refine WP.val rfl rfl rfl rfl (Yld.pickT rfl rfl rfl) ?_
    refine WP.val rfl rfl rfl rfl (Yld.move rfl rfl) ?_
    refine WP.passG rfl rfl rfl rfl rfl rfl rfl rfl ?_
    refine WP.passG rfl rfl rfl rfl rfl rfl rfl rfl ?_
    refine WP.val rfl rfl rfl rfl (Yld.pickT rfl rfl rfl) ?_
    refine WP.val rfl rfl rfl rfl (Yld.move rfl rfl) ?_
    refine WP.passG rfl rfl rfl rfl rfl rfl rfl rfl ?_
    refine WP.passG rfl rfl rfl rfl rfl rfl rfl rfl ?_
    refine WP.val rfl rfl rfl rfl (Yld.pickT rfl rfl rfl) ?_
    refine WP.val rfl rfl rfl rfl (Yld.move rfl rfl) ?_
    refine WP.passG rfl rfl rfl rfl rfl rfl rfl rfl ?_
    refine WP.passG rfl rfl rfl rfl rfl rfl rfl rfl ?_
    refine WP.val rfl rfl rfl rfl (Yld.pickT rfl rfl rfl) ?_
    refine WP.nil ?_
    refine WP.sub [(0, _), (1, _), (2, _), (6, _), (7, _), (8, _), (9, _), (37, _), (59, _)] ?_ ⟨rfl, rfl, rfl, rfl, rfl, rfl, rfl, rfl, rfl, trivial⟩
    refine WP.next ?_
    refine WP.condT rfl ?_
    refine WP.seq ?_
    refine WP.region [0] rfl ?_
    refine WP.val rfl rfl rfl rfl (Yld.assign rfl rfl) ?_
    refine WP.nil ?_
    refine WP.next ?_
    refine WP.ret ?_
    refine WP.fin .ret (.inr rfl) (res1 rfl rfl) [] (by repeat (first | exact Take.nil | with_reducible apply Take.cons | apply Take.app | exact Rm.chunk | exact Rm.here | exact Rm.nil0 | apply Rm.skip | apply Rm.skipS | (focus (apply Take.all; (repeat (first | exact Rm.chunk | exact Rm.here | exact Rm.nil0 | apply Rm.skip | apply Rm.skipS)); done)) | apply Take.cons)) (by repeat (first | exact Leave.done | apply Leave.drop | apply Leave.dropS)) hJa ?_
    exact ⟨rfl, rfl⟩
  · refine WP.val rfl rfl rfl rfl (Yld.move rfl rfl) ?_
    refine WP.valG rfl rfl rfl rfl rfl rfl rfl (Yld.move rfl rfl) ?_
    refine WP.splitG rfl rfl rfl rfl rfl rfl rfl (Yld.gtr rfl rfl rfl) (fun g2 => ?_) (fun g2 => ?_)
    · refine WP.val rfl rfl rfl rfl (Yld.pickF rfl rfl rfl) ?_
      refine WP.val rfl rfl rfl rfl (Yld.move rfl rfl) ?_
      refine WP.passG rfl rfl rfl rfl rfl rfl rfl rfl ?_
      refine WP.passG rfl rfl rfl rfl rfl rfl rfl rfl ?_
      refine WP.val rfl rfl rfl rfl (Yld.pickT rfl rfl rfl) ?_
      refine WP.val rfl rfl rfl rfl (Yld.move rfl rfl) ?_
      refine WP.passG rfl rfl rfl rfl rfl rfl rfl rfl ?_
      refine WP.passG rfl rfl rfl rfl rfl rfl rfl rfl ?_
      refine WP.val rfl rfl rfl rfl (Yld.pickT rfl rfl rfl) ?_
      refine WP.val rfl rfl rfl rfl (Yld.move rfl rfl) ?_
      refine WP.passG rfl rfl rfl rfl rfl rfl rfl rfl ?_
      refine WP.passG rfl rfl rfl rfl rfl rfl rfl rfl ?_
      refine WP.val rfl rfl rfl rfl (Yld.pickT rfl rfl rfl) ?_
      refine WP.val rfl rfl rfl rfl (Yld.move rfl rfl) ?_
      refine WP.passG rfl rfl rfl rfl rfl rfl rfl rfl ?_
      refine WP.passG rfl rfl rfl rfl rfl rfl rfl rfl ?_
      refine WP.val rfl rfl rfl rfl (Yld.pickT rfl rfl rfl) ?_
      refine WP.nil ?_
      refine WP.sub [(0, _), (1, _), (2, _), (6, _), (7, _), (8, _), (9, _), (37, _), (59, _)] ?_ ⟨rfl, rfl, rfl, rfl, rfl, rfl, rfl, rfl, rfl, trivial⟩
      refine WP.next ?_
      refine WP.condT rfl ?_
      refine WP.seq ?_
      refine WP.region [0] rfl ?_
      refine WP.val rfl rfl rfl rfl (Yld.assign rfl rfl) ?_
      refine WP.nil ?_
      refine WP.next ?_
      refine WP.ret ?_
      refine WP.fin .ret (.inr rfl) (res1 rfl rfl) [] (by repeat (first | exact Take.nil | with_reducible apply Take.cons | apply Take.app | exact Rm.chunk | exact Rm.here | exact Rm.nil0 | apply Rm.skip | apply Rm.skipS | (focus (apply Take.all; (repeat (first | exact Rm.chunk | exact Rm.here | exact Rm.nil0 | apply Rm.skip | apply Rm.skipS)); done)) | apply Take.cons)) (by repeat (first | exact Leave.done | apply Leave.drop | apply Leave.dropS)) hJa ?_
      exact ⟨rfl, rfl⟩
    · refine WP.val rfl rfl rfl rfl (Yld.pickF rfl rfl rfl) ?_
      refine WP.val rfl rfl rfl rfl (Yld.move rfl rfl) ?_
      refine WP.valG rfl rfl rfl rfl rfl rfl rfl (Yld.move rfl rfl) ?_
      refine WP.splitG rfl rfl rfl rfl rfl rfl rfl (Yld.lss rfl rfl rfl) (fun g3 => ?_) (fun g3 => ?_)
      · refine WP.val rfl rfl rfl rfl (Yld.pickF rfl rfl rfl) ?_
        refine WP.val rfl rfl rfl rfl (Yld.move rfl rfl) ?_
        refine WP.passG rfl rfl rfl rfl rfl rfl rfl rfl ?_
        refine WP.passG rfl rfl rfl rfl rfl rfl rfl rfl ?_
        refine WP.val rfl rfl rfl rfl (Yld.pickT rfl rfl rfl) ?_
        refine WP.val rfl rfl rfl rfl (Yld.move rfl rfl) ?_
        refine WP.passG rfl rfl rfl rfl rfl rfl rfl rfl ?_
        refine WP.passG rfl rfl rfl rfl rfl rfl rfl rfl ?_
        refine WP.val rfl rfl rfl rfl (Yld.pickT rfl rfl rfl) ?_
        refine WP.val rfl rfl rfl rfl (Yld.move rfl rfl) ?_
        refine WP.passG rfl rfl rfl rfl rfl rfl rfl rfl ?_
        refine WP.passG rfl rfl rfl rfl rfl rfl rfl rfl ?_
        refine WP.val rfl rfl rfl rfl (Yld.pickT rfl rfl rfl) ?_
        refine WP.nil ?_
        refine WP.sub [(0, _), (1, _), (2, _), (6, _), (7, _), (8, _), (9, _), (37, _), (59, _)] ?_ ⟨rfl, rfl, rfl, rfl, rfl, rfl, rfl, rfl, rfl, trivial⟩
        refine WP.next ?_
        refine WP.condT rfl ?_
        refine WP.seq ?_
        refine WP.region [0] rfl ?_
        refine WP.val rfl rfl rfl rfl (Yld.assign rfl rfl) ?_
        refine WP.nil ?_
        refine WP.next ?_
        refine WP.ret ?_
        refine WP.fin .ret (.inr rfl) (res1 rfl rfl) [] (by repeat (first | exact Take.nil | with_reducible apply Take.cons | apply Take.app | exact Rm.chunk | exact Rm.here | exact Rm.nil0 | apply Rm.skip | apply Rm.skipS | (focus (apply Take.all; (repeat (first | exact Rm.chunk | exact Rm.here | exact Rm.nil0 | apply Rm.skip | apply Rm.skipS)); done)) | apply Take.cons)) (by repeat (first | exact Leave.done | apply Leave.drop | apply Leave.dropS)) hJa ?_
        exact ⟨rfl, rfl⟩
      · refine WP.val rfl rfl rfl rfl (Yld.pickF rfl rfl rfl) ?_
        refine WP.val rfl rfl rfl rfl (Yld.move rfl rfl) ?_
        refine WP.valG rfl rfl rfl rfl rfl rfl rfl (Yld.move rfl rfl) ?_
        refine WP.splitG rfl rfl rfl rfl rfl rfl rfl (Yld.gtr rfl rfl rfl) (fun g4 => ?_) (fun g4 => ?_)
        · refine WP.val rfl rfl rfl rfl (Yld.pickF rfl rfl rfl) ?_
          refine WP.val rfl rfl rfl rfl (Yld.move rfl rfl) ?_
          refine WP.passG rfl rfl rfl rfl rfl rfl rfl rfl ?_
          refine WP.passG rfl rfl rfl rfl rfl rfl rfl rfl ?_
          refine WP.val rfl rfl rfl rfl (Yld.pickT rfl rfl rfl) ?_
          refine WP.val rfl rfl rfl rfl (Yld.move rfl rfl) ?_
          refine WP.passG rfl rfl rfl rfl rfl rfl rfl rfl ?_
          refine WP.passG rfl rfl rfl rfl rfl rfl rfl rfl ?_
          refine WP.val rfl rfl rfl rfl (Yld.pickT rfl rfl rfl) ?_
          refine WP.nil ?_
          refine WP.sub [(0, _), (1, _), (2, _), (6, _), (7, _), (8, _), (9, _), (37, _), (59, _)] ?_ ⟨rfl, rfl, rfl, rfl, rfl, rfl, rfl, rfl, rfl, trivial⟩
          refine WP.next ?_
          refine WP.condT rfl ?_
          refine WP.seq ?_
          refine WP.region [0] rfl ?_
          refine WP.val rfl rfl rfl rfl (Yld.assign rfl rfl) ?_
          refine WP.nil ?_
          refine WP.next ?_
          refine WP.ret ?_
          refine WP.fin .ret (.inr rfl) (res1 rfl rfl) [] (by repeat (first | exact Take.nil | with_reducible apply Take.cons | apply Take.app | exact Rm.chunk | exact Rm.here | exact Rm.nil0 | apply Rm.skip | apply Rm.skipS | (focus (apply Take.all; (repeat (first | exact Rm.chunk | exact Rm.here | exact Rm.nil0 | apply Rm.skip | apply Rm.skipS)); done)) | apply Take.cons)) (by repeat (first | exact Leave.done | apply Leave.drop | apply Leave.dropS)) hJa ?_
          exact ⟨rfl, rfl⟩
        · refine WP.val rfl rfl rfl rfl (Yld.pickF rfl rfl rfl) ?_
          refine WP.val rfl rfl rfl rfl (Yld.move rfl rfl) ?_
          refine WP.valG rfl rfl rfl rfl rfl rfl rfl (Yld.move rfl rfl) ?_
          refine WP.splitG rfl rfl rfl rfl rfl rfl rfl (Yld.lss rfl rfl rfl) (fun g5 => ?_) (fun g5 => ?_)
          · refine WP.val rfl rfl rfl rfl (Yld.pickF rfl rfl rfl) ?_
            refine WP.val rfl rfl rfl rfl (Yld.move rfl rfl) ?_
            refine WP.passG rfl rfl rfl rfl rfl rfl rfl rfl ?_
            refine WP.passG rfl rfl rfl rfl rfl rfl rfl rfl ?_
            refine WP.val rfl rfl rfl rfl (Yld.pickT rfl rfl rfl) ?_
            refine WP.nil ?_
            refine WP.sub [(0, _), (1, _), (2, _), (6, _), (7, _), (8, _), (9, _), (37, _), (59, _)] ?_ ⟨rfl, rfl, rfl, rfl, rfl, rfl, rfl, rfl, rfl, trivial⟩
            refine WP.next ?_
            refine WP.condT rfl ?_
            refine WP.seq ?_
            refine WP.region [0] rfl ?_
            refine WP.val rfl rfl rfl rfl (Yld.assign rfl rfl) ?_
            refine WP.nil ?_
            refine WP.next ?_
            refine WP.ret ?_
            refine WP.fin .ret (.inr rfl) (res1 rfl rfl) [] (by repeat (first | exact Take.nil | with_reducible apply Take.cons | apply Take.app | exact Rm.chunk | exact Rm.here | exact Rm.nil0 | apply Rm.skip | apply Rm.skipS | (focus (apply Take.all; (repeat (first | exact Rm.chunk | exact Rm.here | exact Rm.nil0 | apply Rm.skip | apply Rm.skipS)); done)) | apply Take.cons)) (by repeat (first | exact Leave.done | apply Leave.drop | apply Leave.dropS)) hJa ?_
            exact ⟨rfl, rfl⟩
          · refine WP.val rfl rfl rfl rfl (Yld.pickF rfl rfl rfl) ?_
            refine WP.val rfl rfl rfl rfl (Yld.move rfl rfl) ?_
            refine WP.valG rfl rfl rfl rfl rfl rfl rfl (Yld.move rfl rfl) ?_
            refine WP.splitG rfl rfl rfl rfl rfl rfl rfl (Yld.gtr rfl rfl rfl) (fun g6 => ?_) (fun g6 => ?_)
            · refine WP.val rfl rfl rfl rfl (Yld.pickF rfl rfl rfl) ?_
              refine WP.nil ?_
              refine WP.sub [(0, _), (1, _), (2, _), (6, _), (7, _), (8, _), (9, _), (37, _), (59, _)] ?_ ⟨rfl, rfl, rfl, rfl, rfl, rfl, rfl, rfl, rfl, trivial⟩
              refine WP.next ?_
              refine WP.condT rfl ?_
              refine WP.seq ?_
              refine WP.region [0] rfl ?_
              refine WP.val rfl rfl rfl rfl (Yld.assign rfl rfl) ?_
              refine WP.nil ?_
              refine WP.next ?_
              refine WP.ret ?_
              refine WP.fin .ret (.inr rfl) (res1 rfl rfl) [] (by repeat (first | exact Take.nil | with_reducible apply Take.cons | apply Take.app | exact Rm.chunk | exact Rm.here | exact Rm.nil0 | apply Rm.skip | apply Rm.skipS | (focus (apply Take.all; (repeat (first | exact Rm.chunk | exact Rm.here | exact Rm.nil0 | apply Rm.skip | apply Rm.skipS)); done)) | apply Take.cons)) (by repeat (first | exact Leave.done | apply Leave.drop | apply Leave.dropS)) hJa ?_
              exact ⟨rfl, rfl⟩
            · refine WP.val rfl rfl rfl rfl (Yld.pickF rfl rfl rfl) ?_
              refine WP.nil ?_
              refine WP.sub [(0, _), (1, _), (2, _), (6, _), (7, _), (8, _), (9, _), (37, _), (59, _)] ?_ ⟨rfl, rfl, rfl, rfl, rfl, rfl, rfl, rfl, rfl, trivial⟩
              refine WP.next ?_
              refine WP.condF rfl ?_
              refine WP.skip ?_
              refine WP.next ?_
              refine WP.seq ?_
              obtain ⟨F, rfl⟩ : ∃ F : Nat, a = (F : Int) := ⟨a.toNat, by omega⟩
              obtain ⟨many, rfl⟩ : ∃ F : Nat, m = (F : Int) := ⟨m.toNat, by omega⟩
              obtain ⟨beh, rfl⟩ : ∃ F : Nat, z = (F : Int) := ⟨z.toNat, by omega⟩
              have hF : F ≤ 1073741824 := by omega
              have hmany : many ≤ 200 := by omega
              have hbeh : beh ≤ 24 := by omega
              refine WP.region [0, 1, 2, 3, 4, 5, 6, 7, 8] rfl ?_
              refine WP.val rfl rfl rfl rfl (Yld.move rfl rfl) ?_
              refine WP.val rfl rfl rfl rfl (Yld.move rfl rfl) ?_
              refine WP.val rfl rfl rfl rfl (Yld.move rfl rfl) ?_
              refine WP.loud rfl rfl ?_
              refine Op.call (seg_New_ok (f := F) (e := F) hd (by decide) (by omega) (by omega) (by omega)) rfl Try.func22 rfl rfl rfl rfl (by repeat (first | exact Take.nil | with_reducible apply Take.cons | apply Take.app | exact Rm.chunk | exact Rm.here | exact Rm.nil0 | apply Rm.skip | apply Rm.skipS | (focus (apply Take.all; (repeat (first | exact Rm.chunk | exact Rm.here | exact Rm.nil0 | apply Rm.skip | apply Rm.skipS)); done)) | apply Take.cons)) ?_
              rintro v J L7 hJ ⟨rfl, s, rfl, rfl⟩
              clear hJ; try simp only [List.cons_append, List.nil_append, List.append_assoc]
              refine WP.val rfl rfl rfl rfl (Yld.move rfl rfl) ?_
              refine WP.val rfl rfl rfl rfl (Yld.extract rfl rfl rfl) ?_
              refine WP.val rfl rfl rfl rfl (Yld.extract rfl rfl rfl) ?_
              refine WP.val rfl rfl rfl rfl (Yld.assign rfl rfl) ?_
              refine WP.val rfl rfl rfl rfl (Yld.assign rfl rfl) ?_
              refine WP.nil ?_
              refine WP.sub [(0, _), (1, _), (2, _), (6, _), (7, _), (8, _), (9, _), (10, _), (11, _), (37, _), (59, _)] ?_ ⟨rfl, rfl, rfl, rfl, rfl, rfl, rfl, rfl, rfl, rfl, rfl, trivial⟩
              refine WP.next ?_
              refine WP.seq ?_
              refine WP.seq ?_
              refine WP.region [0, 1, 2, 3, 4, 5] rfl ?_
              refine WP.val rfl rfl rfl rfl (Yld.move rfl rfl) ?_
              refine WP.val rfl rfl rfl rfl (Yld.eqlNil rfl ty_pt_44 rfl rfl) ?_
              refine WP.val rfl rfl rfl rfl (Yld.move rfl rfl) ?_
              refine WP.valG rfl rfl rfl rfl rfl rfl rfl (Yld.move rfl rfl) ?_
              refine WP.valG rfl rfl rfl rfl rfl rfl rfl (Yld.neq rfl rfl rfl false (decide_eq_false (by omega))) ?_
              refine WP.val rfl rfl rfl rfl (Yld.pickF rfl rfl rfl) ?_
              refine WP.nil ?_
              refine WP.sub [(0, _), (1, _), (2, _), (6, _), (7, _), (8, _), (9, _), (10, _), (11, _), (37, _), (59, _), (72, _)] ?_ ⟨rfl, rfl, rfl, rfl, rfl, rfl, rfl, rfl, rfl, rfl, rfl, rfl, trivial⟩
              refine WP.next ?_
              refine WP.condF rfl ?_
              refine WP.skip ?_
              refine WP.next ?_
              refine WP.seq ?_
              refine WP.seq ?_
              refine WP.region [0] rfl ?_
              refine WP.val rfl rfl rfl rfl (Yld.assign rfl rfl) ?_
              refine WP.nil ?_
              refine WP.next ?_
              refine WP.block ?_
              refine WP.loop (X := WSX) (fun t : WSX => [(0, .int .i64 ((F : Nat) : Int)), (1, .int .i64 ((many : Nat) : Int)), (2, .int .i64 ((beh : Nat) : Int)), (10, .pointer (some ⟨s, 0, none⟩)), (12, .int .i64 (t.i : Int))]) (fun t => t.J) (fun t : WSX => (s, row 71 (sgV d (wg t.f t.e))) :: (t.L ++ F0)) (fun t => t.ok Ja d F many) (fun t => many - t.i) ⟨0, F, F, Dk.new 136, Ja, Ld⟩ ⟨Nat.zero_le _, Imm.le_refl _, hd, Wk.new F⟩ ⟨rfl, rfl, rfl, rfl, rfl, trivial⟩ rfl (by (try dsimp only); repeat (first | exact Rm.chunk | exact Rm.here | exact Rm.nil0 | apply Rm.skip | apply Rm.skipS | apply PX.cons | (apply PX.done; (repeat (first | exact Leave.done | apply Leave.drop | apply Leave.dropS)); done) | apply PX.app)) ?_
              rintro ⟨i, f, e, x, J, L⟩ ⟨hle, hJ, hd, hwk⟩; dsimp only at hle hJ hd hwk
              try dsimp only
              try simp only [List.cons_append, List.nil_append, List.append_assoc]
              refine WP.seq ?_
              refine WP.seq ?_
              refine WP.region [0, 1, 2] rfl ?_
              refine WP.val rfl rfl rfl rfl (Yld.move rfl rfl) ?_
              refine WP.val rfl rfl rfl rfl (Yld.move rfl rfl) ?_
              refine WP.split rfl rfl rfl rfl (Yld.lss rfl rfl rfl) (fun hlt => ?_) (fun hlt => ?_)
              · have hi : i < many := by omega
                have hfe := hwk.fe
                have he4 := hwk.e4
                have hi1 := hwk.hi1
                have hi2 := hwk.hi2
                have hlo := hwk.lo
                have hus := hwk.us
                refine WP.nil ?_
                refine WP.sub [(0, _), (1, _), (2, _), (10, _), (12, _), (75, _)] ?_ ⟨rfl, rfl, rfl, rfl, rfl, rfl, trivial⟩
                refine WP.next ?_
                refine WP.condT rfl ?_
                refine WP.skip ?_
                refine WP.next ?_
                refine WP.seq ?_
                refine WP.block ?_
                refine WP.seq ?_
                refine WP.region [0, 1, 2, 3, 4] rfl ?_
                refine WP.val rfl rfl rfl rfl (Yld.move rfl rfl) ?_
                refine WP.val rfl rfl rfl rfl (Yld.mul64 rfl rfl rfl (by omega)) ?_
                refine WP.val rfl rfl rfl rfl (Yld.move rfl rfl) ?_
                refine WP.val rfl rfl rfl rfl (Yld.add64 rfl rfl rfl (by omega)) ?_
                rw [show (8 : Int) * (F : Int) + (i : Int) = ((8 * F + i : Nat) : Int) by omega]
                refine WP.val rfl rfl rfl rfl (Yld.assign rfl rfl) ?_
                refine WP.nil ?_
                refine WP.sub [(0, _), (1, _), (2, _), (10, _), (12, _), (13, _), (75, _)] ?_ ⟨rfl, rfl, rfl, rfl, rfl, rfl, rfl, trivial⟩
                refine WP.next ?_
                refine WP.cut (X := Nat × Nat) (fun u : Nat × Nat => [(0, .int .i64 ((F : Nat) : Int)), (1, .int .i64 ((many : Nat) : Int)), (2, .int .i64 ((beh : Nat) : Int)), (10, .pointer (some ⟨s, 0, none⟩)), (12, .int .i64 ((i : Nat) : Int)), (13, .int .i64 ((8 * F + i : Nat) : Int))]) (fun _ => J) (fun u : Nat × Nat => (s, row 71 (sgV d (wg u.1 u.2))) :: (L ++ F0)) (fun u : Nat × Nat => f ≤ u.1 ∧ u.2 ≤ u.1 + 4 ∧ 8 * u.1 ≤ 8 * F + i ∧ 8 * F + i + 1 ≤ 8 * u.2 ∧ 8 * u.2 < 8 * F + i + 1 + 8) ?_ ?_
                · skip
                  refine WP.seq ?_
                  refine WP.region [0, 1, 2, 3, 4] rfl ?_
                  refine WP.val rfl rfl rfl rfl (Yld.move rfl rfl) ?_
                  refine WP.val rfl rfl rfl rfl (Yld.move rfl rfl) ?_
                  refine WP.loud rfl rfl ?_
                  refine Op.call (seg_End (d := d) (n := 136) (g := wg f e)) rfl Try.func25 rfl rfl rfl rfl (by repeat (first | exact Take.nil | with_reducible apply Take.cons | apply Take.app | exact Rm.chunk | exact Rm.here | exact Rm.nil0 | apply Rm.skip | apply Rm.skipS | (focus (apply Take.all; (repeat (first | exact Rm.chunk | exact Rm.here | exact Rm.nil0 | apply Rm.skip | apply Rm.skipS)); done)) | apply Take.cons)) ?_
                  rintro v J L1 hJ ⟨rfl, rfl, rfl⟩
                  clear hJ; try simp only [List.cons_append, List.nil_append, List.append_assoc]
                  refine WP.val rfl rfl rfl rfl (Yld.mul64 rfl rfl rfl (by show _ ∧ _; simp only [wg]; omega)) ?_
                  refine WP.split rfl rfl rfl rfl (Yld.eql rfl rfl rfl) (fun hend => ?_) (fun hend => ?_)
                  · simp only [wg] at hend
                    refine WP.nil ?_
                    refine WP.sub [(0, _), (1, _), (2, _), (10, _), (12, _), (13, _), (75, _), (86, _)] ?_ ⟨rfl, rfl, rfl, rfl, rfl, rfl, rfl, rfl, trivial⟩
                    refine WP.next ?_
                    refine WP.condT rfl ?_
                    refine WP.cut (X := Nat) (fun f1 : Nat => [(0, .int .i64 ((F : Nat) : Int)), (1, .int .i64 ((many : Nat) : Int)), (2, .int .i64 ((beh : Nat) : Int)), (10, .pointer (some ⟨s, 0, none⟩)), (12, .int .i64 ((i : Nat) : Int)), (13, .int .i64 ((8 * F + i : Nat) : Int))]) (fun _ => J) (fun f1 : Nat => (s, row 71 (sgV d (wg f1 e))) :: (L ++ F0)) (fun f1 => f ≤ f1 ∧ f1 ≤ e) ?_ ?_
                    · skip
                      refine WP.block ?_
                      refine WP.loop (X := Nat) (fun f1 : Nat => [(0, .int .i64 ((F : Nat) : Int)), (1, .int .i64 ((many : Nat) : Int)), (2, .int .i64 ((beh : Nat) : Int)), (10, .pointer (some ⟨s, 0, none⟩)), (12, .int .i64 ((i : Nat) : Int)), (13, .int .i64 ((8 * F + i : Nat) : Int))]) (fun _ => J) (fun f1 : Nat => (s, row 71 (sgV d (wg f1 e))) :: (L ++ F0)) (fun f1 => f ≤ f1 ∧ f1 ≤ e) (fun f1 => e - f1) f ⟨Nat.le_refl _, hfe⟩ ⟨rfl, rfl, rfl, rfl, rfl, rfl, trivial⟩ rfl (by (try dsimp only); repeat (first | exact Rm.chunk | exact Rm.here | exact Rm.nil0 | apply Rm.skip | apply Rm.skipS | apply PX.cons | (apply PX.done; (repeat (first | exact Leave.done | apply Leave.drop | apply Leave.dropS)); done) | apply PX.app)) ?_
                      rintro f1 ⟨hf1, hfe'⟩; try dsimp only at hf1 hfe'
                      try dsimp only
                      try simp only [List.cons_append, List.nil_append, List.append_assoc]
                      refine WP.seq ?_
                      refine WP.seq ?_
                      refine WP.region [0, 1, 2, 3, 4, 5, 6, 7, 8, 9, 10, 11, 12] rfl ?_
                      refine WP.val rfl rfl rfl rfl (Yld.move rfl rfl) ?_
                      refine WP.loud rfl rfl ?_
                      refine Op.call (seg_Used (d := d) (g := wg f1 e) (wg_ok hfe' (by omega))) rfl Try.func26 rfl rfl rfl rfl (by repeat (first | exact Take.nil | with_reducible apply Take.cons | apply Take.app | exact Rm.chunk | exact Rm.here | exact Rm.nil0 | apply Rm.skip | apply Rm.skipS | (focus (apply Take.all; (repeat (first | exact Rm.chunk | exact Rm.here | exact Rm.nil0 | apply Rm.skip | apply Rm.skipS)); done)) | apply Take.cons)) ?_
                      rintro v J L1 hJ ⟨rfl, rfl, rfl⟩
                      clear hJ; try simp only [List.cons_append, List.nil_append, List.append_assoc]
                      refine WP.split rfl rfl rfl rfl (Yld.gtr rfl rfl rfl) (fun hu => ?_) (fun hu => ?_)
                      · refine WP.val rfl rfl rfl rfl (Yld.move rfl rfl) ?_
                        refine WP.valG rfl rfl rfl rfl rfl rfl rfl (Yld.move rfl rfl) ?_
                        refine WP.loudG rfl rfl rfl rfl rfl ?_
                        refine Op.call (seg_First (d := d) (n := 136) (g := wg f1 e)) rfl Try.func27 rfl rfl rfl rfl (by repeat (first | exact Take.nil | with_reducible apply Take.cons | apply Take.app | exact Rm.chunk | exact Rm.here | exact Rm.nil0 | apply Rm.skip | apply Rm.skipS | (focus (apply Take.all; (repeat (first | exact Rm.chunk | exact Rm.here | exact Rm.nil0 | apply Rm.skip | apply Rm.skipS)); done)) | apply Take.cons)) ?_
                        rintro v J L1 hJ ⟨rfl, rfl, rfl⟩
                        clear hJ; try simp only [List.cons_append, List.nil_append, List.append_assoc]
                        refine WP.valG rfl rfl rfl rfl rfl rfl rfl (Yld.mul64 rfl rfl rfl (by show _ ∧ _; simp only [wg]; omega)) ?_
                        refine WP.valG rfl rfl rfl rfl rfl rfl rfl (Yld.add64 rfl rfl rfl (by show _ ∧ _; simp only [wg]; omega)) ?_
                        refine WP.valG rfl rfl rfl rfl rfl rfl rfl (Yld.move rfl rfl) ?_
                        refine WP.valG rfl rfl rfl rfl rfl rfl rfl (Yld.move rfl rfl) ?_
                        refine WP.valG rfl rfl rfl rfl rfl rfl rfl (Yld.sub64 rfl rfl rfl (by omega)) ?_
                        refine WP.splitG rfl rfl rfl rfl rfl rfl rfl (Yld.leq rfl rfl rfl) (fun hle8 => ?_) (fun hle8 => ?_)
                        · simp only [wg] at hu hle8
                          refine WP.val rfl rfl rfl rfl (Yld.pickT rfl rfl rfl) ?_
                          refine WP.nil ?_
                          refine WP.sub [(0, _), (1, _), (2, _), (10, _), (12, _), (13, _), (99, _)] ?_ ⟨rfl, rfl, rfl, rfl, rfl, rfl, rfl, trivial⟩
                          refine WP.next ?_
                          refine WP.condT rfl ?_
                          refine WP.skip ?_
                          refine WP.next ?_
                          refine WP.block ?_
                          refine WP.seq ?_
                          refine WP.region [0, 1, 2, 3, 4, 5] rfl ?_
                          refine WP.val rfl rfl rfl rfl (Yld.move rfl rfl) ?_
                          refine WP.val rfl rfl rfl rfl (Yld.move rfl rfl) ?_
                          refine WP.loud rfl rfl ?_
                          refine Op.call (seg_First (d := d) (n := 136) (g := wg f1 e)) rfl Try.func27 rfl rfl rfl rfl (by repeat (first | exact Take.nil | with_reducible apply Take.cons | apply Take.app | exact Rm.chunk | exact Rm.here | exact Rm.nil0 | apply Rm.skip | apply Rm.skipS | (focus (apply Take.all; (repeat (first | exact Rm.chunk | exact Rm.here | exact Rm.nil0 | apply Rm.skip | apply Rm.skipS)); done)) | apply Take.cons)) ?_
                          rintro v J L1 hJ ⟨rfl, rfl, rfl⟩
                          clear hJ; try simp only [List.cons_append, List.nil_append, List.append_assoc]
                          refine WP.val rfl rfl rfl rfl (Yld.add64 rfl rfl rfl (by show _ ∧ _; simp only [wg]; omega)) ?_
                          rw [show (((wg f1 e).first : Nat) : Int) + 1 = ((f1 + 1 : Nat) : Int) from rfl]
                          refine WP.loud rfl rfl ?_
                          refine Op.call (seg_Release_ok (d := d) (n := 136) (g := wg f1 e) (t := f1 + 1) (show f1 ≤ f1 + 1 by omega) (show f1 + 1 ≤ e by omega)) rfl Try.func28 rfl rfl rfl rfl (by repeat (first | exact Take.nil | with_reducible apply Take.cons | apply Take.app | exact Rm.chunk | exact Rm.here | exact Rm.nil0 | apply Rm.skip | apply Rm.skipS | (focus (apply Take.all; (repeat (first | exact Rm.chunk | exact Rm.here | exact Rm.nil0 | apply Rm.skip | apply Rm.skipS)); done)) | apply Take.cons)) ?_
                          rintro v J L1 hJ ⟨rfl, rfl, rfl⟩
                          clear hJ; try simp only [List.cons_append, List.nil_append, List.append_assoc]
                          refine WP.val rfl rfl rfl rfl (Yld.assign rfl rfl) ?_
                          refine WP.nil ?_
                          refine WP.sub [(0, _), (1, _), (2, _), (10, _), (12, _), (13, _), (14, _), (99, _)] ?_ ⟨rfl, rfl, rfl, rfl, rfl, rfl, rfl, rfl, trivial⟩
                          refine WP.next ?_
                          refine WP.seq ?_
                          refine WP.region [0, 1] rfl ?_
                          refine WP.val rfl rfl rfl rfl (Yld.move rfl rfl) ?_
                          refine WP.val rfl rfl rfl rfl (Yld.neq rfl rfl rfl false (decide_eq_false (by omega))) ?_
                          refine WP.nil ?_
                          refine WP.sub [(0, _), (1, _), (2, _), (10, _), (12, _), (13, _), (14, _), (99, _), (106, _)] ?_ ⟨rfl, rfl, rfl, rfl, rfl, rfl, rfl, rfl, rfl, trivial⟩
                          refine WP.next ?_
                          refine WP.condF rfl ?_
                          refine WP.skip ?_
                          refine WP.leave ?_
                          exact WP.again (f1 + 1) ⟨(show f ≤ f1 + 1 by omega), (show f1 + 1 ≤ e by omega)⟩ (show e - (f1 + 1) < e - f1 by omega) ⟨rfl, rfl, rfl, rfl, rfl, rfl, trivial⟩ rfl (by (try dsimp only); repeat (first | exact Rm.chunk | exact Rm.here | exact Rm.nil0 | apply Rm.skip | apply Rm.skipS | apply PX.cons | (apply PX.done; (repeat (first | exact Leave.done | apply Leave.drop | apply Leave.dropS)); done) | apply PX.app))
                        · refine WP.val rfl rfl rfl rfl (Yld.pickT rfl rfl rfl) ?_
                          refine WP.nil ?_
                          refine WP.sub [(0, _), (1, _), (2, _), (10, _), (12, _), (13, _), (99, _)] ?_ ⟨rfl, rfl, rfl, rfl, rfl, rfl, rfl, trivial⟩
                          refine WP.next ?_
                          refine WP.condF rfl ?_
                          refine WP.exit ?_
                          refine WP.thenE ?_
                          refine WP.thenE ?_
                          refine WP.hit ?_
                          exact WP.meet f1 ⟨hf1, hfe'⟩ ⟨rfl, rfl, rfl, rfl, rfl, rfl, trivial⟩ rfl (by (try dsimp only); repeat (first | exact Rm.chunk | exact Rm.here | exact Rm.nil0 | apply Rm.skip | apply Rm.skipS | apply PX.cons | (apply PX.done; (repeat (first | exact Leave.done | apply Leave.drop | apply Leave.dropS)); done) | apply PX.app))
                      · refine WP.val rfl rfl rfl rfl (Yld.move rfl rfl) ?_
                        refine WP.passG rfl rfl rfl rfl rfl rfl rfl rfl ?_
                        refine WP.passG rfl rfl rfl rfl rfl rfl rfl rfl ?_
                        refine WP.passG rfl rfl rfl rfl rfl rfl rfl rfl ?_
                        refine WP.passG rfl rfl rfl rfl rfl rfl rfl rfl ?_
                        refine WP.passG rfl rfl rfl rfl rfl rfl rfl rfl ?_
                        refine WP.passG rfl rfl rfl rfl rfl rfl rfl rfl ?_
                        refine WP.passG rfl rfl rfl rfl rfl rfl rfl rfl ?_
                        refine WP.passG rfl rfl rfl rfl rfl rfl rfl rfl ?_
                        refine WP.val rfl rfl rfl rfl (Yld.pickF rfl rfl rfl) ?_
                        refine WP.nil ?_
                        refine WP.sub [(0, _), (1, _), (2, _), (10, _), (12, _), (13, _), (99, _)] ?_ ⟨rfl, rfl, rfl, rfl, rfl, rfl, rfl, trivial⟩
                        refine WP.next ?_
                        refine WP.condF rfl ?_
                        refine WP.exit ?_
                        refine WP.thenE ?_
                        refine WP.thenE ?_
                        refine WP.hit ?_
                        exact WP.meet f1 ⟨hf1, hfe'⟩ ⟨rfl, rfl, rfl, rfl, rfl, rfl, trivial⟩ rfl (by (try dsimp only); repeat (first | exact Rm.chunk | exact Rm.here | exact Rm.nil0 | apply Rm.skip | apply Rm.skipS | apply PX.cons | (apply PX.done; (repeat (first | exact Leave.done | apply Leave.drop | apply Leave.dropS)); done) | apply PX.app))
                    · rintro f1 ⟨hf1, hfe'⟩; try dsimp only at hf1 hfe'
                      refine WP.seq ?_
                      refine WP.seq ?_
                      refine WP.region [0, 1, 2] rfl ?_
                      refine WP.val rfl rfl rfl rfl (Yld.move rfl rfl) ?_
                      refine WP.loud rfl rfl ?_
                      refine Op.call (seg_Used (d := d) (g := wg f1 e) (wg_ok hfe' (by omega))) rfl Try.func26 rfl rfl rfl rfl (by repeat (first | exact Take.nil | with_reducible apply Take.cons | apply Take.app | exact Rm.chunk | exact Rm.here | exact Rm.nil0 | apply Rm.skip | apply Rm.skipS | (focus (apply Take.all; (repeat (first | exact Rm.chunk | exact Rm.here | exact Rm.nil0 | apply Rm.skip | apply Rm.skipS)); done)) | apply Take.cons)) ?_
                      rintro v J L1 hJ ⟨rfl, rfl, rfl⟩
                      clear hJ; try simp only [List.cons_append, List.nil_append, List.append_assoc]
                      refine WP.split rfl rfl rfl rfl (Yld.eql rfl rfl rfl) (fun hu4 => ?_) (fun hu4 => ?_)
                      · simp only [wg] at hu4
                        refine WP.nil ?_
                        refine WP.sub [(0, _), (1, _), (2, _), (10, _), (12, _), (13, _), (109, _)] ?_ ⟨rfl, rfl, rfl, rfl, rfl, rfl, rfl, trivial⟩
                        refine WP.next ?_
                        refine WP.condT rfl ?_
                        refine WP.seq ?_
                        refine WP.region [0, 1, 2, 3, 4, 5] rfl ?_
                        refine WP.val rfl rfl rfl rfl (Yld.move rfl rfl) ?_
                        refine WP.val rfl rfl rfl rfl (Yld.move rfl rfl) ?_
                        refine WP.loud rfl rfl ?_
                        refine Op.call (seg_First (d := d) (n := 136) (g := wg f1 e)) rfl Try.func27 rfl rfl rfl rfl (by repeat (first | exact Take.nil | with_reducible apply Take.cons | apply Take.app | exact Rm.chunk | exact Rm.here | exact Rm.nil0 | apply Rm.skip | apply Rm.skipS | (focus (apply Take.all; (repeat (first | exact Rm.chunk | exact Rm.here | exact Rm.nil0 | apply Rm.skip | apply Rm.skipS)); done)) | apply Take.cons)) ?_
                        rintro v J L1 hJ ⟨rfl, rfl, rfl⟩
                        clear hJ; try simp only [List.cons_append, List.nil_append, List.append_assoc]
                        refine WP.val rfl rfl rfl rfl (Yld.add64 rfl rfl rfl (by show _ ∧ _; simp only [wg]; omega)) ?_
                        rw [show (((wg f1 e).first : Nat) : Int) + 1 = ((f1 + 1 : Nat) : Int) from rfl]
                        refine WP.loud rfl rfl ?_
                        refine Op.call (seg_Release_ok (d := d) (n := 136) (g := wg f1 e) (t := f1 + 1) (show f1 ≤ f1 + 1 by omega) (show f1 + 1 ≤ e by omega)) rfl Try.func28 rfl rfl rfl rfl (by repeat (first | exact Take.nil | with_reducible apply Take.cons | apply Take.app | exact Rm.chunk | exact Rm.here | exact Rm.nil0 | apply Rm.skip | apply Rm.skipS | (focus (apply Take.all; (repeat (first | exact Rm.chunk | exact Rm.here | exact Rm.nil0 | apply Rm.skip | apply Rm.skipS)); done)) | apply Take.cons)) ?_
                        rintro v J L1 hJ ⟨rfl, rfl, rfl⟩
                        clear hJ; try simp only [List.cons_append, List.nil_append, List.append_assoc]
                        refine WP.val rfl rfl rfl rfl (Yld.assign rfl rfl) ?_
                        refine WP.nil ?_
                        refine WP.sub [(0, _), (1, _), (2, _), (10, _), (12, _), (13, _), (15, _), (109, _)] ?_ ⟨rfl, rfl, rfl, rfl, rfl, rfl, rfl, rfl, trivial⟩
                        refine WP.next ?_
                        refine WP.seq ?_
                        refine WP.region [0, 1] rfl ?_
                        refine WP.val rfl rfl rfl rfl (Yld.move rfl rfl) ?_
                        refine WP.val rfl rfl rfl rfl (Yld.neq rfl rfl rfl false (decide_eq_false (by omega))) ?_
                        refine WP.nil ?_
                        refine WP.sub [(0, _), (1, _), (2, _), (10, _), (12, _), (13, _), (15, _), (109, _), (116, _)] ?_ ⟨rfl, rfl, rfl, rfl, rfl, rfl, rfl, rfl, rfl, trivial⟩
                        refine WP.next ?_
                        refine WP.condF rfl ?_
                        refine WP.skip ?_
                        refine WP.next ?_
                        refine WP.seq ?_
                        refine WP.region [0, 1, 2] rfl ?_
                        refine WP.val rfl rfl rfl rfl (Yld.move rfl rfl) ?_
                        refine WP.loud rfl rfl ?_
                        refine Op.call (seg_Grow_ok (d := d) (g := wg (f1 + 1) e) (wg_ok (by omega) (by omega)) (by show ¬ e - (f1 + 1) = 4; omega)) rfl Try.func29 rfl rfl rfl rfl (by repeat (first | exact Take.nil | with_reducible apply Take.cons | apply Take.app | exact Rm.chunk | exact Rm.here | exact Rm.nil0 | apply Rm.skip | apply Rm.skipS | (focus (apply Take.all; (repeat (first | exact Rm.chunk | exact Rm.here | exact Rm.nil0 | apply Rm.skip | apply Rm.skipS)); done)) | apply Take.cons)) ?_
                        rintro v J L1 hJ ⟨rfl, rfl, rfl⟩
                        clear hJ; try simp only [List.cons_append, List.nil_append, List.append_assoc]
                        refine WP.val rfl rfl rfl rfl (Yld.assign rfl rfl) ?_
                        refine WP.nil ?_
                        refine WP.sub [(0, _), (1, _), (2, _), (10, _), (12, _), (13, _), (15, _), (16, _), (109, _), (116, _)] ?_ ⟨rfl, rfl, rfl, rfl, rfl, rfl, rfl, rfl, rfl, rfl, trivial⟩
                        refine WP.next ?_
                        refine WP.seq ?_
                        refine WP.region [0, 1] rfl ?_
                        refine WP.val rfl rfl rfl rfl (Yld.move rfl rfl) ?_
                        refine WP.val rfl rfl rfl rfl (Yld.neq rfl rfl rfl false (decide_eq_false (by omega))) ?_
                        refine WP.nil ?_
                        refine WP.sub [(0, _), (1, _), (2, _), (10, _), (12, _), (13, _), (15, _), (16, _), (109, _), (116, _), (120, _)] ?_ ⟨rfl, rfl, rfl, rfl, rfl, rfl, rfl, rfl, rfl, rfl, rfl, trivial⟩
                        refine WP.next ?_
                        refine WP.condF rfl ?_
                        refine WP.skip ?_
                        exact WP.meet (f1 + 1, e + 1) ⟨(show f ≤ _ by omega), (show e + 1 ≤ _ + 4 by omega), (show 8 * _ ≤ 8 * F + i by omega), (show 8 * F + i + 1 ≤ 8 * (e + 1) by omega), (show 8 * (e + 1) < 8 * F + i + 1 + 8 by omega)⟩ ⟨rfl, rfl, rfl, rfl, rfl, rfl, trivial⟩ rfl (by (try dsimp only); repeat (first | exact Rm.chunk | exact Rm.here | exact Rm.nil0 | apply Rm.skip | apply Rm.skipS | apply PX.cons | (apply PX.done; (repeat (first | exact Leave.done | apply Leave.drop | apply Leave.dropS)); done) | apply PX.app))
                      · simp only [wg] at hu4
                        refine WP.nil ?_
                        refine WP.sub [(0, _), (1, _), (2, _), (10, _), (12, _), (13, _), (109, _)] ?_ ⟨rfl, rfl, rfl, rfl, rfl, rfl, rfl, trivial⟩
                        refine WP.next ?_
                        refine WP.condF rfl ?_
                        refine WP.skip ?_
                        refine WP.next ?_
                        refine WP.seq ?_
                        refine WP.region [0, 1, 2] rfl ?_
                        refine WP.val rfl rfl rfl rfl (Yld.move rfl rfl) ?_
                        refine WP.loud rfl rfl ?_
                        refine Op.call (seg_Grow_ok (d := d) (g := wg f1 e) (wg_ok (by omega) (by omega)) (by show ¬ e - f1 = 4; omega)) rfl Try.func29 rfl rfl rfl rfl (by repeat (first | exact Take.nil | with_reducible apply Take.cons | apply Take.app | exact Rm.chunk | exact Rm.here | exact Rm.nil0 | apply Rm.skip | apply Rm.skipS | (focus (apply Take.all; (repeat (first | exact Rm.chunk | exact Rm.here | exact Rm.nil0 | apply Rm.skip | apply Rm.skipS)); done)) | apply Take.cons)) ?_
                        rintro v J L1 hJ ⟨rfl, rfl, rfl⟩
                        clear hJ; try simp only [List.cons_append, List.nil_append, List.append_assoc]
                        refine WP.val rfl rfl rfl rfl (Yld.assign rfl rfl) ?_
                        refine WP.nil ?_
                        refine WP.sub [(0, _), (1, _), (2, _), (10, _), (12, _), (13, _), (16, _), (109, _)] ?_ ⟨rfl, rfl, rfl, rfl, rfl, rfl, rfl, rfl, trivial⟩
                        refine WP.next ?_
                        refine WP.seq ?_
                        refine WP.region [0, 1] rfl ?_
                        refine WP.val rfl rfl rfl rfl (Yld.move rfl rfl) ?_
                        refine WP.val rfl rfl rfl rfl (Yld.neq rfl rfl rfl false (decide_eq_false (by omega))) ?_
                        refine WP.nil ?_
                        refine WP.sub [(0, _), (1, _), (2, _), (10, _), (12, _), (13, _), (16, _), (109, _), (120, _)] ?_ ⟨rfl, rfl, rfl, rfl, rfl, rfl, rfl, rfl, rfl, trivial⟩
                        refine WP.next ?_
                        refine WP.condF rfl ?_
                        refine WP.skip ?_
                        exact WP.meet (f1, e + 1) ⟨(show f ≤ _ by omega), (show e + 1 ≤ _ + 4 by omega), (show 8 * _ ≤ 8 * F + i by omega), (show 8 * F + i + 1 ≤ 8 * (e + 1) by omega), (show 8 * (e + 1) < 8 * F + i + 1 + 8 by omega)⟩ ⟨rfl, rfl, rfl, rfl, rfl, rfl, trivial⟩ rfl (by (try dsimp only); repeat (first | exact Rm.chunk | exact Rm.here | exact Rm.nil0 | apply Rm.skip | apply Rm.skipS | apply PX.cons | (apply PX.done; (repeat (first | exact Leave.done | apply Leave.drop | apply Leave.dropS)); done) | apply PX.app))
                  · simp only [wg] at hend
                    have hpos : 0 < i := by omega
                    have hfl := hus hpos
                    refine WP.nil ?_
                    refine WP.sub [(0, _), (1, _), (2, _), (10, _), (12, _), (13, _), (75, _), (86, _)] ?_ ⟨rfl, rfl, rfl, rfl, rfl, rfl, rfl, rfl, trivial⟩
                    refine WP.next ?_
                    refine WP.condF rfl ?_
                    refine WP.skip ?_
                    exact WP.meet (f, e) ⟨Nat.le_refl _, he4, (show 8 * f ≤ 8 * F + i by omega), (show 8 * F + i + 1 ≤ 8 * e by omega), (show 8 * e < 8 * F + i + 1 + 8 by omega)⟩ ⟨rfl, rfl, rfl, rfl, rfl, rfl, trivial⟩ rfl (by (try dsimp only); repeat (first | exact Rm.chunk | exact Rm.here | exact Rm.nil0 | apply Rm.skip | apply Rm.skipS | apply PX.cons | (apply PX.done; (repeat (first | exact Leave.done | apply Leave.drop | apply Leave.dropS)); done) | apply PX.app))
                · rintro ⟨f', e'⟩ ⟨q1, q2, q3, q4, q5⟩; dsimp only at q1 q2 q3 q4 q5; obtain ⟨y, hwr, hwy⟩ := hwk.step hF (by omega) q1 q2 q3 q4 q5
                  refine WP.seq ?_
                  refine WP.region [0, 1, 2, 3, 4, 5, 6, 7, 8, 9, 10, 11] rfl ?_
                  refine WP.val rfl rfl rfl rfl (Yld.move rfl rfl) ?_
                  refine WP.val rfl rfl rfl rfl (Yld.move rfl rfl) ?_
                  refine WP.val rfl rfl rfl rfl (Yld.move rfl rfl) ?_
                  refine WP.val rfl rfl rfl rfl (Yld.add64 rfl rfl rfl (by omega)) ?_
                  refine WP.val rfl rfl rfl rfl (Yld.move rfl rfl) ?_
                  refine WP.val rfl rfl rfl rfl (Yld.convN8 i rfl ty_un_3 ty_ik_5 rfl) ?_
                  refine WP.val rfl rfl rfl rfl (Yld.move rfl rfl) ?_
                  refine WP.val rfl rfl rfl rfl (Yld.convN8 (8 * F + i) rfl ty_un_3 ty_ik_5 rfl) ?_
                  refine WP.loud rfl rfl ?_
                  refine Op.buildSlice rfl ty_sl_22 ty_el2_22 rfl rfl rfl rfl (vs := [_, _]) rfl (segs := [(0, [_]), (1, [_])]) (cs := bytesV (wd F i)) rfl rfl (by repeat (first | exact SetSeg.nil | apply SetSeg.one | exact SetAt.zero | apply SetAt.succ)) (fun bq => ?_)
                  refine WP.share (fun JD hJD hbq => ?_)
                  have hdat := Im_lit (l := wd F i) (sp := []) (c := 2) (by rw [List.append_nil]; exact hbq) (Nat.le_refl _)
                  refine WP.val rfl rfl rfl rfl (Yld.buildS (pl := [(0, 0, 1), (1, 1, 1), (3, 3, 1), (4, 4, 1), (5, 5, 1)]) rfl ty_zr_35 ty_zd_35 (by kernel_rfl) rfl (vs := [_, _, _, _, _]) rfl (segs := [(0, [_]), (1, [_]), (3, [_]), (4, [_]), (5, [_])]) rfl rfl (.one .zero (.one (.succ .zero) (.one (.succ (.succ (.succ .zero))) (.one (.succ (.succ (.succ (.succ .zero)))) (.one (.succ (.succ (.succ (.succ (.succ .zero))))) .nil)))))) ?_
                  refine WP.loud rfl rfl ?_
                  refine Op.call (seg_Write (g := wg f' e') (p := wp F i) hd (wg_ok (by omega) (by omega)) hdat (by have := hwk.wl; omega)) rfl Try.func23 rfl rfl rfl rfl (by repeat (first | exact Take.nil | with_reducible apply Take.cons | apply Take.app | exact Rm.chunk | exact Rm.here | exact Rm.nil0 | apply Rm.skip | apply Rm.skipS | (focus (apply Take.all; (repeat (first | exact Rm.chunk | exact Rm.here | exact Rm.nil0 | apply Rm.skip | apply Rm.skipS)); done)) | apply Take.cons)) ?_
                  rintro v J4 L26 hJ4 ⟨rfl, Lw, rfl, hd⟩
                  try simp only [List.cons_append, List.nil_append, List.append_assoc]
                  rw [hwr] at hd ⊢
                  refine WP.val rfl rfl rfl rfl (Yld.assign rfl rfl) ?_
                  refine WP.nil ?_
                  refine WP.sub [(0, _), (1, _), (2, _), (10, _), (12, _), (13, _), (17, _)] ?_ ⟨rfl, rfl, rfl, rfl, rfl, rfl, rfl, trivial⟩
                  refine WP.next ?_
                  refine WP.seq ?_
                  refine WP.region [0, 1] rfl ?_
                  refine WP.val rfl rfl rfl rfl (Yld.move rfl rfl) ?_
                  refine WP.val rfl rfl rfl rfl (Yld.neq rfl rfl rfl false (decide_eq_false (by omega))) ?_
                  refine WP.nil ?_
                  refine WP.sub [(0, _), (1, _), (2, _), (10, _), (12, _), (13, _), (17, _), (133, _)] ?_ ⟨rfl, rfl, rfl, rfl, rfl, rfl, rfl, rfl, trivial⟩
                  refine WP.next ?_
                  refine WP.condF rfl ?_
                  refine WP.skip ?_
                  refine WP.leave ?_
                  refine WP.next ?_
                  refine WP.region [0, 1, 2] rfl ?_
                  refine WP.val rfl rfl rfl rfl (Yld.move rfl rfl) ?_
                  refine WP.val rfl rfl rfl rfl (Yld.add64 rfl rfl rfl (by omega)) ?_
                  refine WP.val rfl rfl rfl rfl (Yld.assign rfl rfl) ?_
                  refine WP.nil ?_
                  refine WP.sub [(0, _), (1, _), (2, _), (10, _), (12, _), (13, _), (17, _), (133, _)] ?_ ⟨rfl, rfl, rfl, rfl, rfl, rfl, rfl, rfl, trivial⟩
                  exact WP.again ⟨i + 1, f', e', y, J4, Lw⟩ ⟨(show i + 1 ≤ many by omega), Imm.le_trans hJ (Imm.le_trans hJD hJ4), hd, hwy⟩ (show many - (i + 1) < many - i by omega) ⟨rfl, rfl, rfl, rfl, rfl, trivial⟩ rfl (by (try dsimp only); repeat (first | exact Rm.chunk | exact Rm.here | exact Rm.nil0 | apply Rm.skip | apply Rm.skipS | apply PX.cons | (apply PX.done; (repeat (first | exact Leave.done | apply Leave.drop | apply Leave.dropS)); done) | apply PX.app))
              · obtain rfl : i = many := by omega
                refine WP.nil ?_
                refine WP.sub [(0, _), (1, _), (2, _), (10, _), (12, _), (75, _)] ?_ ⟨rfl, rfl, rfl, rfl, rfl, rfl, trivial⟩
                refine WP.next ?_
                refine WP.condF rfl ?_
                refine WP.exit ?_
                refine WP.thenE ?_
                refine WP.thenE ?_
                refine WP.hit ?_
                refine WP.next ?_
                refine WP.seq ?_
                refine WP.seq ?_
                refine WP.region [0] rfl ?_
                refine WP.val rfl rfl rfl rfl (Yld.assign rfl rfl) ?_
                refine WP.nil ?_
                refine WP.next ?_
                refine WP.block ?_
                refine WP.loop (X := Nat × Imm) (fun u : Nat × Imm => [(0, .int .i64 ((F : Nat) : Int)), (1, .int .i64 ((i : Nat) : Int)), (10, .pointer (some ⟨s, 0, none⟩)), (18, .int .i64 (u.1 : Int))]) (fun u => u.2) (fun u : Nat × Imm => (s, row 71 (sgV d (wg f e))) :: (L ++ F0)) (fun u : Nat × Imm => u.1 ≤ i ∧ Ja.le u.2) (fun u : Nat × Imm => i - u.1) (0, J) ⟨Nat.zero_le _, hJ⟩ ⟨rfl, rfl, rfl, rfl, trivial⟩ rfl (by (try dsimp only); repeat (first | exact Rm.chunk | exact Rm.here | exact Rm.nil0 | apply Rm.skip | apply Rm.skipS | apply PX.cons | (apply PX.done; (repeat (first | exact Leave.done | apply Leave.drop | apply Leave.dropS)); done) | apply PX.app)) ?_
                rintro ⟨k, Jk⟩ ⟨hk0, hJk⟩; dsimp only at hk0 hJk
                try dsimp only
                try simp only [List.cons_append, List.nil_append, List.append_assoc]
                refine WP.seq ?_
                refine WP.seq ?_
                refine WP.region [0, 1, 2] rfl ?_
                refine WP.val rfl rfl rfl rfl (Yld.move rfl rfl) ?_
                refine WP.val rfl rfl rfl rfl (Yld.move rfl rfl) ?_
                refine WP.split rfl rfl rfl rfl (Yld.lss rfl rfl rfl) (fun hlt2 => ?_) (fun hlt2 => ?_)
                · have hk : k < i := by omega
                  have hfe := hwk.fe
                  have hi2 := hwk.hi2
                  have hrd := wraps_read hwk hF (by omega) hk
                  refine WP.nil ?_
                  refine WP.sub [(0, _), (1, _), (10, _), (18, _), (136, _)] ?_ ⟨rfl, rfl, rfl, rfl, rfl, trivial⟩
                  refine WP.next ?_
                  refine WP.condT rfl ?_
                  refine WP.skip ?_
                  refine WP.next ?_
                  refine WP.seq ?_
                  refine WP.block ?_
                  refine WP.seq ?_
                  refine WP.region [0, 1, 2, 3, 4] rfl ?_
                  refine WP.val rfl rfl rfl rfl (Yld.move rfl rfl) ?_
                  refine WP.val rfl rfl rfl rfl (Yld.mul64 rfl rfl rfl (by omega)) ?_
                  refine WP.val rfl rfl rfl rfl (Yld.move rfl rfl) ?_
                  refine WP.val rfl rfl rfl rfl (Yld.add64 rfl rfl rfl (by omega)) ?_
                  rw [show (8 : Int) * (F : Int) + (k : Int) = ((8 * F + k : Nat) : Int) by omega]
                  refine WP.val rfl rfl rfl rfl (Yld.assign rfl rfl) ?_
                  refine WP.nil ?_
                  refine WP.sub [(0, _), (1, _), (10, _), (18, _), (19, _), (136, _)] ?_ ⟨rfl, rfl, rfl, rfl, rfl, rfl, trivial⟩
                  refine WP.next ?_
                  refine WP.seq ?_
                  refine WP.region [0, 1, 2, 3, 4, 5, 6, 7, 8] rfl ?_
                  refine WP.val rfl rfl rfl rfl (Yld.move rfl rfl) ?_
                  refine WP.val rfl rfl rfl rfl (Yld.move rfl rfl) ?_
                  refine WP.loud rfl rfl ?_
                  refine Op.call (seg_Read (g := wg f e) (p := 8 * F + k) hd (wg_ok hfe (by omega)) (by omega)) rfl Try.func30 rfl rfl rfl rfl (by repeat (first | exact Take.nil | with_reducible apply Take.cons | apply Take.app | exact Rm.chunk | exact Rm.here | exact Rm.nil0 | apply Rm.skip | apply Rm.skipS | (focus (apply Take.all; (repeat (first | exact Rm.chunk | exact Rm.here | exact Rm.nil0 | apply Rm.skip | apply Rm.skipS)); done)) | apply Take.cons)) ?_
                  rintro v J5 L33 hJ5 ⟨cs, rfl, hcs, rfl⟩
                  try simp only [List.cons_append, List.nil_append, List.append_assoc]
                  obtain ⟨va, rfl, hva⟩ := hcs
                  refine WP.val rfl rfl rfl rfl (Yld.move rfl rfl) ?_
                  refine WP.val rfl rfl rfl rfl (Yld.extract rfl rfl rfl) ?_
                  refine WP.val rfl rfl rfl rfl (Yld.extract rfl rfl rfl) ?_
                  refine WP.loud rfl rfl ?_
                  refine Op.alloc rfl rfl rfl ty_zr_35 (fun b20 => ?_)
                  refine WP.loud rfl rfl ?_
                  refine Op.storeAll rfl rfl ty_sz_35 rfl rfl rfl (ptV_one (by obtain ⟨A', c', e, _⟩ := hva; exact ⟨_, _, _, e⟩)) (by repeat (first | exact Upd.head | apply Upd.tail | apply Upd.tailS)) rfl ?_
                  refine WP.val rfl rfl rfl rfl (Yld.assign rfl rfl) ?_
                  refine WP.nil ?_
                  refine WP.sub [(0, _), (1, _), (10, _), (18, _), (19, _), (20, _), (21, _), (136, _)] ?_ ⟨rfl, rfl, rfl, rfl, rfl, rfl, rfl, rfl, trivial⟩
                  refine WP.next ?_
                  refine WP.seq ?_
                  refine WP.seq ?_
                  refine WP.region [0, 1, 2, 3, 4] rfl ?_
                  refine WP.val rfl rfl rfl rfl (Yld.move rfl rfl) ?_
                  refine WP.val rfl rfl rfl rfl (Yld.move rfl rfl) ?_
                  refine WP.loud rfl rfl ?_
                  refine Op.call (seg_First (d := d) (n := 136) (g := wg f e)) rfl Try.func27 rfl rfl rfl rfl (by repeat (first | exact Take.nil | with_reducible apply Take.cons | apply Take.app | exact Rm.chunk | exact Rm.here | exact Rm.nil0 | apply Rm.skip | apply Rm.skipS | (focus (apply Take.all; (repeat (first | exact Rm.chunk | exact Rm.here | exact Rm.nil0 | apply Rm.skip | apply Rm.skipS)); done)) | apply Take.cons)) ?_
                  rintro v J L1 hJ ⟨rfl, rfl, rfl⟩
                  clear hJ; try simp only [List.cons_append, List.nil_append, List.append_assoc]
                  refine WP.val rfl rfl rfl rfl (Yld.mul64 rfl rfl rfl (by show _ ∧ _; simp only [wg]; omega)) ?_
                  refine WP.split rfl rfl rfl rfl (Yld.lss rfl rfl rfl) (fun hlow => ?_) (fun hlow => ?_)
                  · simp only [wg] at hlow
                    rw [if_pos (by omega)] at hrd
                    rw [hrd] at hva ⊢
                    refine WP.nil ?_
                    refine WP.sub [(0, _), (1, _), (10, _), (18, _), (19, _), (20, _), (21, _), (136, _), (153, _)] ?_ ⟨rfl, rfl, rfl, rfl, rfl, rfl, rfl, rfl, rfl, trivial⟩
                    refine WP.next ?_
                    refine WP.condT rfl ?_
                    refine WP.seq ?_
                    refine WP.seq ?_
                    refine WP.region [0, 1] rfl ?_
                    refine WP.val rfl rfl rfl rfl (Yld.move rfl rfl) ?_
                    refine WP.val rfl rfl rfl rfl (Yld.neq rfl rfl rfl false (decide_eq_false (by simp))) ?_
                    refine WP.nil ?_
                    refine WP.sub [(0, _), (1, _), (10, _), (18, _), (19, _), (20, _), (21, _), (136, _), (153, _), (155, _)] ?_ ⟨rfl, rfl, rfl, rfl, rfl, rfl, rfl, rfl, rfl, rfl, trivial⟩
                    refine WP.next ?_
                    refine WP.condF rfl ?_
                    refine WP.skip ?_
                    refine WP.next ?_
                    refine WP.exit ?_
                    refine WP.thenE ?_
                    refine WP.hit ?_
                    refine WP.next ?_
                    refine WP.region [0, 1, 2] rfl ?_
                    refine WP.val rfl rfl rfl rfl (Yld.move rfl rfl) ?_
                    refine WP.val rfl rfl rfl rfl (Yld.add64 rfl rfl rfl (by omega)) ?_
                    refine WP.val rfl rfl rfl rfl (Yld.assign rfl rfl) ?_
                    refine WP.nil ?_
                    refine WP.sub [(0, _), (1, _), (10, _), (18, _), (19, _), (20, _), (21, _), (136, _), (153, _), (155, _)] ?_ ⟨rfl, rfl, rfl, rfl, rfl, rfl, rfl, rfl, rfl, rfl, trivial⟩
                    exact WP.again (k + 1, J5) ⟨(show k + 1 ≤ i by omega), Imm.le_trans hJk hJ5⟩ (show i - (k + 1) < i - k by omega) ⟨rfl, rfl, rfl, rfl, trivial⟩ rfl (by (try dsimp only); repeat (first | exact Rm.chunk | exact Rm.here | exact Rm.nil0 | apply Rm.skip | apply Rm.skipS | apply PX.cons | (apply PX.done; (repeat (first | exact Leave.done | apply Leave.drop | apply Leave.dropS)); done) | apply PX.app))
                  · simp only [wg] at hlow
                    rw [if_neg (by omega)] at hrd
                    rw [hrd] at hva ⊢
                    refine WP.nil ?_
                    refine WP.sub [(0, _), (1, _), (10, _), (18, _), (19, _), (20, _), (21, _), (136, _), (153, _)] ?_ ⟨rfl, rfl, rfl, rfl, rfl, rfl, rfl, rfl, rfl, trivial⟩
                    refine WP.next ?_
                    refine WP.condF rfl ?_
                    refine WP.skip ?_
                    refine WP.next ?_
                    refine WP.seq ?_
                    refine WP.region [0, 1, 2, 3, 4, 5, 6, 7, 8, 9, 10, 11] rfl ?_
                    refine WP.val rfl rfl rfl rfl (Yld.loadAll (cs := ptV (wp F k) va) rfl ty_ag_35 rfl (by repeat (first | exact There.h | exact There.i (by assumption) | apply There.t | apply There.s)) rfl) ?_
                    refine WP.val rfl rfl rfl rfl (Yld.move rfl rfl) ?_
                    refine WP.val rfl rfl rfl rfl (Yld.move rfl rfl) ?_
                    refine WP.val rfl rfl rfl rfl (Yld.add64 rfl rfl rfl (by omega)) ?_
                    refine WP.val rfl rfl rfl rfl (Yld.move rfl rfl) ?_
                    refine WP.val rfl rfl rfl rfl (Yld.convN8 k rfl ty_un_3 ty_ik_5 rfl) ?_
                    refine WP.val rfl rfl rfl rfl (Yld.move rfl rfl) ?_
                    refine WP.val rfl rfl rfl rfl (Yld.convN8 (8 * F + k) rfl ty_un_3 ty_ik_5 rfl) ?_
                    refine WP.loud rfl rfl ?_
                    refine Op.buildSlice rfl ty_sl_22 ty_el2_22 rfl rfl rfl rfl (vs := [_, _]) rfl (segs := [(0, [_]), (1, [_])]) (cs := bytesV (wd F k)) rfl rfl (by repeat (first | exact SetSeg.nil | apply SetSeg.one | exact SetAt.zero | apply SetAt.succ)) (fun bq => ?_)
                    refine WP.share (fun JD hJD hbq => ?_)
                    have hdat := Im_lit (l := wd F k) (sp := []) (c := 2) (by rw [List.append_nil]; exact hbq) (Nat.le_refl _)
                    have hva := hva.mono (fun b o h => hJD.2 b o h)
                    refine WP.val rfl rfl rfl rfl (Yld.buildS (pl := [(0, 0, 1), (1, 1, 1), (3, 3, 1), (4, 4, 1), (5, 5, 1)]) rfl ty_zr_35 ty_zd_35 (by kernel_rfl) rfl (vs := [_, _, _, _, _]) rfl (segs := [(0, [_]), (1, [_]), (3, [_]), (4, [_]), (5, [_])]) rfl rfl (.one .zero (.one (.succ .zero) (.one (.succ (.succ (.succ .zero))) (.one (.succ (.succ (.succ (.succ .zero)))) (.one (.succ (.succ (.succ (.succ (.succ .zero))))) .nil)))))) ?_
                    refine WP.loud rfl rfl ?_
                    refine Op.call (seg_Same (p := wp F k) (q := wp F k) hva hdat) rfl Try.func20 rfl rfl rfl rfl (by repeat (first | exact Take.nil | with_reducible apply Take.cons | apply Take.app | exact Rm.chunk | exact Rm.here | exact Rm.nil0 | apply Rm.skip | apply Rm.skipS | (focus (apply Take.all; (repeat (first | exact Rm.chunk | exact Rm.here | exact Rm.nil0 | apply Rm.skip | apply Rm.skipS)); done)) | apply Take.cons)) ?_
                    rintro v J L1 hJ ⟨rfl, rfl, rfl⟩
                    clear hJ; try simp only [List.cons_append, List.nil_append, List.append_assoc]
                    rw [psame_self]
                    refine WP.val rfl rfl rfl rfl (Yld.assign rfl rfl) ?_
                    refine WP.nil ?_
                    refine WP.sub [(0, _), (1, _), (10, _), (18, _), (19, _), (20, _), (21, _), (22, _), (136, _), (153, _)] ?_ ⟨rfl, rfl, rfl, rfl, rfl, rfl, rfl, rfl, rfl, rfl, trivial⟩
                    refine WP.next ?_
                    refine WP.seq ?_
                    refine WP.region [0, 1, 2, 3, 4, 5] rfl ?_
                    refine WP.val rfl rfl rfl rfl (Yld.move rfl rfl) ?_
                    refine WP.val rfl rfl rfl rfl (Yld.neq rfl rfl rfl false (decide_eq_false (by simp))) ?_
                    refine WP.val rfl rfl rfl rfl (Yld.move rfl rfl) ?_
                    refine WP.valG rfl rfl rfl rfl rfl rfl rfl (Yld.move rfl rfl) ?_
                    refine WP.valG rfl rfl rfl rfl rfl rfl rfl (Yld.not rfl rfl) ?_
                    refine WP.val rfl rfl rfl rfl (Yld.pickF rfl rfl rfl) ?_
                    refine WP.nil ?_
                    refine WP.sub [(0, _), (1, _), (10, _), (18, _), (19, _), (20, _), (21, _), (22, _), (136, _), (153, _), (172, _)] ?_ ⟨rfl, rfl, rfl, rfl, rfl, rfl, rfl, rfl, rfl, rfl, rfl, trivial⟩
                    refine WP.next ?_
                    refine WP.condF rfl ?_
                    refine WP.skip ?_
                    refine WP.leave ?_
                    refine WP.next ?_
                    refine WP.region [0, 1, 2] rfl ?_
                    refine WP.val rfl rfl rfl rfl (Yld.move rfl rfl) ?_
                    refine WP.val rfl rfl rfl rfl (Yld.add64 rfl rfl rfl (by omega)) ?_
                    refine WP.val rfl rfl rfl rfl (Yld.assign rfl rfl) ?_
                    refine WP.nil ?_
                    refine WP.sub [(0, _), (1, _), (10, _), (18, _), (19, _), (20, _), (21, _), (22, _), (136, _), (153, _), (172, _)] ?_ ⟨rfl, rfl, rfl, rfl, rfl, rfl, rfl, rfl, rfl, rfl, rfl, trivial⟩
                    exact WP.again (k + 1, JD) ⟨(show k + 1 ≤ i by omega), Imm.le_trans hJk (Imm.le_trans hJ5 hJD)⟩ (show i - (k + 1) < i - k by omega) ⟨rfl, rfl, rfl, rfl, trivial⟩ rfl (by (try dsimp only); repeat (first | exact Rm.chunk | exact Rm.here | exact Rm.nil0 | apply Rm.skip | apply Rm.skipS | apply PX.cons | (apply PX.done; (repeat (first | exact Leave.done | apply Leave.drop | apply Leave.dropS)); done) | apply PX.app))
                · refine WP.nil ?_
                  refine WP.sub [(0, _), (1, _), (10, _), (18, _), (136, _)] ?_ ⟨rfl, rfl, rfl, rfl, rfl, trivial⟩
                  refine WP.next ?_
                  refine WP.condF rfl ?_
                  refine WP.exit ?_
                  refine WP.thenE ?_
                  refine WP.thenE ?_
                  refine WP.hit ?_
                  refine WP.next ?_
                  refine WP.seq ?_
                  refine WP.region [0] rfl ?_
                  refine WP.val rfl rfl rfl rfl (Yld.assign rfl rfl) ?_
                  refine WP.nil ?_
                  refine WP.next ?_
                  refine WP.ret ?_
                  refine WP.fin .ret (.inr rfl) (res1 rfl rfl) [] (by repeat (first | exact Take.nil | with_reducible apply Take.cons | apply Take.app | exact Rm.chunk | exact Rm.here | exact Rm.nil0 | apply Rm.skip | apply Rm.skipS | (focus (apply Take.all; (repeat (first | exact Rm.chunk | exact Rm.here | exact Rm.nil0 | apply Rm.skip | apply Rm.skipS)); done)) | apply Take.cons)) (by repeat (first | exact Leave.done | apply Leave.drop | apply Leave.dropS)) (Imm.le_trans hJa hJk) ?_
                  exact ⟨rfl, rfl⟩


end Go.Hp
