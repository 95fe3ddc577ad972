import Derived.Test.YtbgkfndnbngnmaaDiskA
set_option linter.unusedVariables false
set_option linter.unusedSimpArgs false
namespace Go.Hp
open Go Go.Proofs

def Dk.cut (x : Dk) (a : Int) : Dk := { x with left := if -1 < a then a else -1 }
theorem Dk.cut_ok {n : Nat} {x : Dk} (h : x.ok n) {a : Int} (ha : a ≤ 9223372036854775807) : (x.cut a).ok n := ⟨h.n1, h.n2, h.lp, h.ln, h.hw, by simp only [Dk.cut]; split <;> omega⟩
def Dk.sync (x : Dk) : Dk := if x.off then x else { x with plat := x.now, waits := [], syncs := IntKind.i64.wrap (x.syncs + 1) }
theorem Dk.sync_ok {n : Nat} {x : Dk} (h : x.ok n) : x.sync.ok n := by
  unfold Dk.sync
  split
  · exact h
  · exact ⟨h.n1, h.n2, h.ln, h.ln, by simp, h.hl⟩
def Dk.read (x : Dk) (n : Nat) (at_ many : Int) : List UInt8 × Int :=
  if x.off then ([], 4) else if at_ < 0 ∨ many < 0 ∨ ¬ (many = 0 ∨ (at_ ≤ n ∧ many ≤ n - at_)) then ([], 1) else ((x.now.drop (at_.toNat * 64)).take (many.toNat * 64), 0)
theorem disk_Read {I : Imm} {d n : Nat} {x : Dk} {L : Chunks} (hd : IsDisk d n x L) {at_ many : Int} : Spec Try.prog 54 [.pointer (some ⟨d, 0, none⟩), .int .i64 at_, .int .i64 many] I L (fun v' J L' => I = J ∧ ∃ v Lo, v' = .tuple #[v, .int .i64 (x.read n at_ many).2] ∧ Own 5 1 v (bytesV (x.read n at_ many).1) (x.read n at_ many).1.length Lo ∧ L' = Lo ++ L) := by
  cases hd with
  | @mk bp bn vw Lw ok ow =>
  obtain ⟨n1, n2, lp, ln, hw, hl⟩ := id ok
  obtain ⟨Aw, cw, rfl, hcw⟩ := ow.slice
  refine Spec.of Try.func54 rfl Try.ntmps54 (Nat.le_of_ble_eq_true rfl) (fun F => ?_)
  try simp only [List.cons_append, List.nil_append, List.append_assoc]
  dsimp only [argsEnv]
  refine WP.seq ?_
  refine WP.region [0, 1] rfl ?_
  refine WP.val rfl rfl rfl rfl (Yld.assign rfl rfl) ?_
  refine WP.val rfl rfl rfl rfl (Yld.assign rfl rfl) ?_
  refine WP.nil ?_
  refine WP.next ?_
  refine WP.seq ?_
  refine WP.block ?_
  refine WP.seq ?_
  refine WP.region [0, 1, 2, 3, 4] rfl ?_
  refine WP.val rfl rfl rfl rfl (Yld.move rfl rfl) ?_
  refine WP.val rfl rfl rfl rfl (Yld.nilCheck rfl rfl) ?_
  refine WP.val rfl rfl rfl rfl (Yld.fieldAddr rfl ty_fd_69_4 rfl) ?_
  refine WP.splitB rfl rfl rfl rfl (Yld.load rfl ty_sc_4 rfl (by repeat (first | exact There.h | exact There.i (by assumption) | apply There.t | apply There.s)) rfl) (fun hb => ?_) (fun hb => ?_)
  · refine WP.val rfl rfl rfl rfl (Yld.assign rfl rfl) ?_
    refine WP.nil ?_
    refine WP.sub [(0, _), (1, _), (2, _), (6, _), (7, _), (9, _)] ?_ ⟨rfl, rfl, rfl, rfl, rfl, rfl, trivial⟩
    refine WP.next ?_
    refine WP.condT rfl ?_
    refine WP.seq ?_
    refine WP.region [0, 1] rfl ?_
    refine WP.val rfl rfl rfl rfl (Yld.assign rfl rfl) ?_
    refine WP.val rfl rfl rfl rfl (Yld.assign rfl rfl) ?_
    refine WP.nil ?_
    refine WP.next ?_
    refine WP.ret ?_
    refine WP.fin .ret (.inr rfl) (res2 rfl rfl rfl) ([] ++ ((d, row 69 _) :: (bp, row 5 _) :: (bn, row 5 _) :: Lw)) (by repeat (first | exact Take.nil | with_reducible apply Take.cons | apply Take.app | exact Rm.chunk | exact Rm.here | exact Rm.nil0 | apply Rm.skip | apply Rm.skipS | (focus (apply Take.all; (repeat (first | exact Rm.chunk | exact Rm.here | exact Rm.nil0 | apply Rm.skip | apply Rm.skipS)); done)) | apply Take.cons)) (by repeat (first | exact Leave.done | apply Leave.drop | apply Leave.dropS)) (Imm.le_refl _) ?_
    have hr : x.read n at_ many = ([], 4) := by simp [Dk.read, hb]
    rw [hr]; exact ⟨rfl, _, [], rfl, .none0, rfl⟩
  · refine WP.val rfl rfl rfl rfl (Yld.assign rfl rfl) ?_
    refine WP.nil ?_
    refine WP.sub [(0, _), (1, _), (2, _), (6, _), (7, _), (9, _)] ?_ ⟨rfl, rfl, rfl, rfl, rfl, rfl, trivial⟩
    refine WP.next ?_
    refine WP.condF rfl ?_
    refine WP.seq ?_
    refine WP.region [0, 1, 2, 3, 4, 5, 6, 7, 8, 9, 10, 11, 12, 13] rfl ?_
    refine WP.val rfl rfl rfl rfl (Yld.move rfl rfl) ?_
    refine WP.split rfl rfl rfl rfl (Yld.lss rfl rfl rfl) (fun h1 => ?_) (fun h1 => ?_)
    · refine WP.val rfl rfl rfl rfl (Yld.move rfl rfl) ?_
      refine WP.passG rfl rfl rfl rfl rfl rfl rfl rfl ?_
      refine WP.passG rfl rfl rfl rfl rfl rfl rfl rfl ?_
      refine WP.val rfl rfl rfl rfl (Yld.pickT rfl rfl rfl) ?_
      refine WP.val rfl rfl rfl rfl (Yld.move rfl rfl) ?_
      refine WP.passG rfl rfl rfl rfl rfl rfl rfl rfl ?_
      refine WP.passG rfl rfl rfl rfl rfl rfl rfl rfl ?_
      refine WP.passG rfl rfl rfl rfl rfl rfl rfl rfl ?_
      refine WP.passG rfl rfl rfl rfl rfl rfl rfl rfl ?_
      refine WP.passG rfl rfl rfl rfl rfl rfl rfl rfl ?_
      refine WP.val rfl rfl rfl rfl (Yld.pickT rfl rfl rfl) ?_
      refine WP.val rfl rfl rfl rfl (Yld.assign rfl rfl) ?_
      refine WP.nil ?_
      refine WP.sub [(0, _), (1, _), (2, _), (6, _), (7, _), (9, _), (14, _)] ?_ ⟨rfl, rfl, rfl, rfl, rfl, rfl, rfl, trivial⟩
      refine WP.next ?_
      refine WP.condT rfl ?_
      refine WP.seq ?_
      refine WP.region [0, 1] rfl ?_
      refine WP.val rfl rfl rfl rfl (Yld.assign rfl rfl) ?_
      refine WP.val rfl rfl rfl rfl (Yld.assign rfl rfl) ?_
      refine WP.nil ?_
      refine WP.next ?_
      refine WP.ret ?_
      refine WP.fin .ret (.inr rfl) (res2 rfl rfl rfl) ([] ++ ((d, row 69 _) :: (bp, row 5 _) :: (bn, row 5 _) :: Lw)) (by repeat (first | exact Take.nil | with_reducible apply Take.cons | apply Take.app | exact Rm.chunk | exact Rm.here | exact Rm.nil0 | apply Rm.skip | apply Rm.skipS | (focus (apply Take.all; (repeat (first | exact Rm.chunk | exact Rm.here | exact Rm.nil0 | apply Rm.skip | apply Rm.skipS)); done)) | apply Take.cons)) (by repeat (first | exact Leave.done | apply Leave.drop | apply Leave.dropS)) (Imm.le_refl _) ?_
      have hr : x.read n at_ many = ([], 1) := by simp [Dk.read, hb, h1]
      rw [hr]; exact ⟨rfl, _, [], rfl, .none0, rfl⟩
    · refine WP.val rfl rfl rfl rfl (Yld.move rfl rfl) ?_
      refine WP.valG rfl rfl rfl rfl rfl rfl rfl (Yld.move rfl rfl) ?_
      refine WP.splitG rfl rfl rfl rfl rfl rfl rfl (Yld.lss rfl rfl rfl) (fun h2 => ?_) (fun h2 => ?_)
      · refine WP.val rfl rfl rfl rfl (Yld.pickF rfl rfl rfl) ?_
        refine WP.val rfl rfl rfl rfl (Yld.move rfl rfl) ?_
        refine WP.passG rfl rfl rfl rfl rfl rfl rfl rfl ?_
        refine WP.passG rfl rfl rfl rfl rfl rfl rfl rfl ?_
        refine WP.passG rfl rfl rfl rfl rfl rfl rfl rfl ?_
        refine WP.passG rfl rfl rfl rfl rfl rfl rfl rfl ?_
        refine WP.passG rfl rfl rfl rfl rfl rfl rfl rfl ?_
        refine WP.val rfl rfl rfl rfl (Yld.pickT rfl rfl rfl) ?_
        refine WP.val rfl rfl rfl rfl (Yld.assign rfl rfl) ?_
        refine WP.nil ?_
        refine WP.sub [(0, _), (1, _), (2, _), (6, _), (7, _), (9, _), (14, _)] ?_ ⟨rfl, rfl, rfl, rfl, rfl, rfl, rfl, trivial⟩
        refine WP.next ?_
        refine WP.condT rfl ?_
        refine WP.seq ?_
        refine WP.region [0, 1] rfl ?_
        refine WP.val rfl rfl rfl rfl (Yld.assign rfl rfl) ?_
        refine WP.val rfl rfl rfl rfl (Yld.assign rfl rfl) ?_
        refine WP.nil ?_
        refine WP.next ?_
        refine WP.ret ?_
        refine WP.fin .ret (.inr rfl) (res2 rfl rfl rfl) ([] ++ ((d, row 69 _) :: (bp, row 5 _) :: (bn, row 5 _) :: Lw)) (by repeat (first | exact Take.nil | with_reducible apply Take.cons | apply Take.app | exact Rm.chunk | exact Rm.here | exact Rm.nil0 | apply Rm.skip | apply Rm.skipS | (focus (apply Take.all; (repeat (first | exact Rm.chunk | exact Rm.here | exact Rm.nil0 | apply Rm.skip | apply Rm.skipS)); done)) | apply Take.cons)) (by repeat (first | exact Leave.done | apply Leave.drop | apply Leave.dropS)) (Imm.le_refl _) ?_
        have hr : x.read n at_ many = ([], 1) := by simp [Dk.read, hb, h2]
        rw [hr]; exact ⟨rfl, _, [], rfl, .none0, rfl⟩
      · refine WP.val rfl rfl rfl rfl (Yld.pickF rfl rfl rfl) ?_
        refine WP.val rfl rfl rfl rfl (Yld.move rfl rfl) ?_
        refine WP.valG rfl rfl rfl rfl rfl rfl rfl (Yld.move rfl rfl) ?_
        refine WP.valG rfl rfl rfl rfl rfl rfl rfl (Yld.move rfl rfl) ?_
        refine WP.valG rfl rfl rfl rfl rfl rfl rfl (Yld.move rfl rfl) ?_
        refine WP.loudG rfl rfl rfl rfl rfl ?_
        refine Op.call (disk_has (.mk ok ow) (by omega)) rfl Try.func53 rfl rfl rfl rfl (by repeat (first | exact Take.nil | with_reducible apply Take.cons | apply Take.app | exact Rm.chunk | exact Rm.here | exact Rm.nil0 | apply Rm.skip | apply Rm.skipS | (focus (apply Take.all; (repeat (first | exact Rm.chunk | exact Rm.here | exact Rm.nil0 | apply Rm.skip | apply Rm.skipS)); done)) | apply Take.cons)) ?_
        rintro v J L1 hJ ⟨rfl, rfl, rfl⟩
        clear hJ; try simp only [List.cons_append, List.nil_append, List.append_assoc]
        refine WP.valG rfl rfl rfl rfl rfl rfl rfl (Yld.not rfl rfl) ?_
        refine WP.val rfl rfl rfl rfl (Yld.pickF rfl rfl rfl) ?_
        refine WP.val rfl rfl rfl rfl (Yld.assign rfl rfl) ?_
        refine WP.nil ?_
        refine WP.sub [(0, _), (1, _), (2, _), (6, _), (7, _), (9, _), (14, _)] ?_ ⟨rfl, rfl, rfl, rfl, rfl, rfl, rfl, trivial⟩
        refine WP.next ?_
        refine WP.cond rfl (fun ht => ?_) (fun ht => ?_)
        · refine WP.seq ?_
          refine WP.region [0, 1] rfl ?_
          refine WP.val rfl rfl rfl rfl (Yld.assign rfl rfl) ?_
          refine WP.val rfl rfl rfl rfl (Yld.assign rfl rfl) ?_
          refine WP.nil ?_
          refine WP.next ?_
          refine WP.ret ?_
          refine WP.fin .ret (.inr rfl) (res2 rfl rfl rfl) ([] ++ ((d, row 69 _) :: (bp, row 5 _) :: (bn, row 5 _) :: Lw)) (by repeat (first | exact Take.nil | with_reducible apply Take.cons | apply Take.app | exact Rm.chunk | exact Rm.here | exact Rm.nil0 | apply Rm.skip | apply Rm.skipS | (focus (apply Take.all; (repeat (first | exact Rm.chunk | exact Rm.here | exact Rm.nil0 | apply Rm.skip | apply Rm.skipS)); done)) | apply Take.cons)) (by repeat (first | exact Leave.done | apply Leave.drop | apply Leave.dropS)) (Imm.le_refl _) ?_
          have hr : x.read n at_ many = ([], 1) := by have hh : ¬ (many = 0 ∨ (at_ ≤ n ∧ many ≤ n - at_)) := (fun h => by rw [decide_eq_true h] at ht; cases ht); simp only [Dk.read, hb, Bool.false_eq_true, if_false, hh, not_false_eq_true, or_true, if_true]
          rw [hr]; exact ⟨rfl, _, [], rfl, .none0, rfl⟩
        · refine WP.seq ?_
          refine WP.region [0, 1, 2] rfl ?_
          refine WP.val rfl rfl rfl rfl (Yld.move rfl rfl) ?_
          refine WP.split rfl rfl rfl rfl (Yld.eql rfl rfl rfl) (fun h5 => ?_) (fun h5 => ?_)
          · refine WP.val rfl rfl rfl rfl (Yld.assign rfl rfl) ?_
            refine WP.nil ?_
            refine WP.sub [(0, _), (1, _), (2, _), (6, _), (7, _), (9, _), (14, _), (28, _)] ?_ ⟨rfl, rfl, rfl, rfl, rfl, rfl, rfl, rfl, trivial⟩
            refine WP.next ?_
            refine WP.condT rfl ?_
            refine WP.seq ?_
            refine WP.region [0, 1] rfl ?_
            refine WP.val rfl rfl rfl rfl (Yld.assign rfl rfl) ?_
            refine WP.val rfl rfl rfl rfl (Yld.assign rfl rfl) ?_
            refine WP.nil ?_
            refine WP.next ?_
            refine WP.ret ?_
            refine WP.fin .ret (.inr rfl) (res2 rfl rfl rfl) ([] ++ ((d, row 69 _) :: (bp, row 5 _) :: (bn, row 5 _) :: Lw)) (by repeat (first | exact Take.nil | with_reducible apply Take.cons | apply Take.app | exact Rm.chunk | exact Rm.here | exact Rm.nil0 | apply Rm.skip | apply Rm.skipS | (focus (apply Take.all; (repeat (first | exact Rm.chunk | exact Rm.here | exact Rm.nil0 | apply Rm.skip | apply Rm.skipS)); done)) | apply Take.cons)) (by repeat (first | exact Leave.done | apply Leave.drop | apply Leave.dropS)) (Imm.le_refl _) ?_
            have hr : x.read n at_ many = ([], 0) := by simp [Dk.read, hb, h1, h5]
            rw [hr]; exact ⟨rfl, _, [], rfl, .none0, rfl⟩
          · have hh : many = 0 ∨ (at_ ≤ n ∧ many ≤ n - at_) := Classical.byContradiction fun h => by rw [decide_eq_false h] at ht; cases ht
            have hmk : 0 < many.toNat ∧ at_.toNat + many.toNat ≤ n := by omega
            refine WP.val rfl rfl rfl rfl (Yld.assign rfl rfl) ?_
            refine WP.nil ?_
            refine WP.sub [(0, _), (1, _), (2, _), (6, _), (7, _), (9, _), (14, _), (28, _)] ?_ ⟨rfl, rfl, rfl, rfl, rfl, rfl, rfl, rfl, trivial⟩
            refine WP.next ?_
            refine WP.condF rfl ?_
            refine WP.skip ?_
            refine WP.leave ?_
            refine WP.next ?_
            refine WP.seq ?_
            refine WP.region [0, 1, 2, 3] rfl ?_
            refine WP.val rfl rfl rfl rfl (Yld.move rfl rfl) ?_
            refine WP.val rfl rfl rfl rfl (Yld.mul64 rfl rfl rfl (by omega)) ?_
            refine WP.loud rfl rfl ?_
            refine Op.make (l := many.toNat * 64) (c := many.toNat * 64) rfl ty_sl_22 ty_el_22 rfl rfl rfl (congrArg (fun z => some (Value.int .i64 z)) (by omega)) (congrArg (fun z => some (Value.int .i64 z)) (by omega)) (Nat.le_refl _) (by omega) (by omega) (fun bo => ?_)
            rw [bytes0]
            refine WP.val rfl rfl rfl rfl (Yld.assign rfl rfl) ?_
            refine WP.nil ?_
            refine WP.sub [(0, _), (1, _), (2, _), (6, _), (7, _), (8, _), (9, _), (14, _), (28, _)] ?_ ⟨rfl, rfl, rfl, rfl, rfl, rfl, rfl, rfl, rfl, trivial⟩
            refine WP.next ?_
            refine WP.seq ?_
            refine WP.region [0, 1, 2, 3, 4, 5, 6, 7, 8] rfl ?_
            refine WP.val rfl rfl rfl rfl (Yld.move rfl rfl) ?_
            refine WP.val rfl rfl rfl rfl (Yld.move rfl rfl) ?_
            refine WP.val rfl rfl rfl rfl (Yld.nilCheck rfl rfl) ?_
            refine WP.val rfl rfl rfl rfl (Yld.fieldAddr rfl ty_fd_69_1 rfl) ?_
            refine WP.val rfl rfl rfl rfl (Yld.load rfl ty_sc_22 rfl (by repeat (first | exact There.h | exact There.i (by assumption) | apply There.t | apply There.s)) rfl) ?_
            refine WP.val rfl rfl rfl rfl (Yld.move rfl rfl) ?_
            refine WP.val rfl rfl rfl rfl (Yld.mul64 rfl rfl rfl (by omega)) ?_
            refine WP.val rfl rfl rfl rfl (Yld.slice rfl ty_sl_22 rfl (Env.limS (n := at_.toNat * 64) (congrArg (fun z => some (Value.int .i64 z)) (by omega))) Env.lim0 (by omega) (by omega)) ?_
            refine WP.loud rfl rfl ?_
            refine Op.copyB (k := 0) (m := many.toNat * 64) (m2 := n * 64 - at_.toNat * 64) (q := many.toNat * 64) (old := List.replicate (many.toNat * 64) 0) (new := (x.now.drop (at_.toNat * 64)).take (many.toNat * 64)) (s := (x.now.drop (0 + at_.toNat * 64 * 1)).take (n * 64 - at_.toNat * 64)) rfl ty_sl_22 rfl rfl rfl rfl (SlAt.blk (Nat.le_refl _)) (SlAt.rdB (l := x.now) (SlAt.sub (SlAt.blk (Nat.le_refl _)) (by omega) (by omega)) (by repeat (first | exact There.h | exact There.i (by assumption) | apply There.t | apply There.s)) (by omega)) (Nat.min_eq_right (by omega)) (by simp) (by simp [List.take_take]; omega) (by repeat (first | exact Upd.head | apply Upd.tail | apply Upd.tailS)) ?_
            refine WP.nil ?_
            refine WP.sub [(0, _), (1, _), (2, _), (6, _), (7, _), (8, _), (9, _), (14, _), (28, _)] ?_ ⟨rfl, rfl, rfl, rfl, rfl, rfl, rfl, rfl, rfl, trivial⟩
            refine WP.next ?_
            refine WP.seq ?_
            refine WP.region [0, 1, 2] rfl ?_
            refine WP.val rfl rfl rfl rfl (Yld.move rfl rfl) ?_
            refine WP.val rfl rfl rfl rfl (Yld.assign rfl rfl) ?_
            refine WP.val rfl rfl rfl rfl (Yld.assign rfl rfl) ?_
            refine WP.nil ?_
            refine WP.sub [(0, _), (1, _), (2, _), (6, _), (7, _), (8, _), (9, _), (14, _), (28, _)] ?_ ⟨rfl, rfl, rfl, rfl, rfl, rfl, rfl, rfl, rfl, trivial⟩
            refine WP.next ?_
            refine WP.ret ?_
            refine WP.fin .ret (.inr rfl) (res2 rfl rfl rfl) ([(bo, row 5 _)] ++ ((d, row 69 _) :: (bp, row 5 _) :: (bn, row 5 _) :: Lw)) (by repeat (first | exact Take.nil | with_reducible apply Take.cons | apply Take.app | exact Rm.chunk | exact Rm.here | exact Rm.nil0 | apply Rm.skip | apply Rm.skipS | (focus (apply Take.all; (repeat (first | exact Rm.chunk | exact Rm.here | exact Rm.nil0 | apply Rm.skip | apply Rm.skipS)); done)) | apply Take.cons)) (by repeat (first | exact Leave.done | apply Leave.drop | apply Leave.dropS)) (Imm.le_refl _) ?_
            have hh : many = 0 ∨ (at_ ≤ n ∧ many ≤ n - at_) := Classical.byContradiction fun h => by rw [decide_eq_false h] at ht; cases ht
            have hr : x.read n at_ many = ((x.now.drop (at_.toNat * 64)).take (many.toNat * 64), 0) := by simp only [Dk.read, hb, Bool.false_eq_true, if_false, h1, h2, hh, not_true_eq_false, or_false]
            rw [hr]
            refine ⟨rfl, _, [(bo, row 5 (bytesV ((x.now.drop (at_.toNat * 64)).take (many.toNat * 64))))], rfl, ?_, rfl⟩
            have hll : ((x.now.drop (at_.toNat * 64)).take (many.toNat * 64)).length = many.toNat * 64 := by simp [ln]; omega
            have hbk := Own.blk (T := 5) (sz := 1) (b := bo) (cap := many.toNat * 64) (n := many.toNat * 64) (xs := bytesV ((x.now.drop (at_.toNat * 64)).take (many.toNat * 64))) (sp := []) (by rw [bytesV_len, hll, Nat.mul_one]) (by simp [bytesV_len, hll]) (Nat.le_refl _)
            rw [List.append_nil] at hbk
            simp only [hll]; exact hbk


end Go.Hp
