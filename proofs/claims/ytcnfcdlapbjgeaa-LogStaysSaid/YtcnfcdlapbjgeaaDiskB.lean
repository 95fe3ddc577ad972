import Derived.Test.YtcnfcdlapbjgeaaDiskA
set_option linter.unusedVariables false
set_option linter.unusedSimpArgs false
namespace Go.Hp
open Go Go.Proofs

def Dk.cut (x : Dk) (a : Int) : Dk := { x with left := if -1 < a then a else -1 }
theorem Dk.cut_ok {n : Nat} {x : Dk} (h : x.ok n) {a : Int} (ha : a ≤ 9223372036854775807) : (x.cut a).ok n := ⟨h.n1, h.n2, h.lp, h.ln, h.hw, by simp only [Dk.cut]; split <;> omega⟩
def Dk.sync (x : Dk) : Dk := if x.off then x else { x with plat := x.now, waits := [], syncs := IntKind.i64.wrap (x.syncs + 1) }
theorem Dk.sync_ok {n : Nat} {x : Dk} (h : x.ok n) : x.sync.ok n := by
 unfold Dk.sync
 split
 ·exact h
 ·exact ⟨h.n1, h.n2, h.ln, h.ln, by simp, h.hl⟩
def Dk.read (x : Dk) (n : Nat) (at_ many : Int) : List UInt8 × Int :=
 if x.off then ([], 4) else if at_ < 0 ∨ many < 0 ∨ ¬ (many = 0 ∨ (at_ ≤ n ∧ many ≤ n - at_)) then ([], 1) else ((x.now.drop (at_.toNat * 64)).take (many.toNat * 64), 0)
theorem disk_Sync {I : Imm} {d n : Nat} {x : Dk} {L : Chunks} (hd : IsDisk d n x L) : Spec Try.prog 57 [.pointer (some ⟨d, 0, none⟩)] I L (fun v' J L' => v' = .int .i64 (if x.off then 4 else 0) ∧ I = J ∧ IsDisk d n x.sync L') := by
 cases hd with
 | @mk bp bn vw Lw ok ow =>
 obtain ⟨n1, n2, lp, ln, hw, hl⟩ := id ok
 obtain ⟨Aw, cw, rfl, hcw⟩ := ow.slice
 refine Spec.of Try.func57 rfl Try.ntmps57 (Nat.le_of_ble_eq_true rfl) (fun F => ?_)
 try simp only [nf]
 dsimp only [argsEnv]
 refine WP.seq ?_
 refine WP.region [0] rfl ?_
 refine WP.mv rfl rfl ?_
 refine WP.nil ?_
 refine WP.next ?_
 refine WP.seq ?_
 refine WP.seq ?_
 refine WP.region [0, 1, 2, 3] rfl ?_
 refine WP.mv rfl rfl ?_
 refine WP.vl rfl (Yld.nilCheck rfl rfl) ?_
 refine WP.vl rfl (Yld.fieldAddr rfl ty_fd_101_4 rfl) ?_
 refine WP.splitB rfl rfl rfl rfl (Yld.ld rfl ty_sc_4 rfl rfl) (fun hb => ?_) (fun hb => ?_)
 ·refine WP.nil ?_
  refine WP.sub [(0, _), (2, _), (6, _)] ?_ ⟨rfl, rfl, rfl, trivial⟩
  refine WP.next ?_
  refine WP.condT rfl ?_
  refine WP.seq ?_
  refine WP.region [0] rfl ?_
  refine WP.mv rfl rfl ?_
  refine WP.nil ?_
  refine WP.next ?_
  refine WP.ret ?_
  refine WP.fn .ret (.inr rfl) (res1 rfl rfl) ((d, row 101 _) :: (bp, row 5 _) :: (bn, row 5 _) :: Lw) (Imm.le_refl _) ?_
  exact ⟨by simp [hb], rfl, by have e : x.sync = x := (by simp [Dk.sync, hb]); rw [e]; exact .mk ok ow⟩
 ·refine WP.nil ?_
  refine WP.sub [(0, _), (2, _), (6, _)] ?_ ⟨rfl, rfl, rfl, trivial⟩
  refine WP.next ?_
  refine WP.condF rfl ?_
  refine WP.skip ?_
  refine WP.next ?_
  refine WP.seq ?_
  refine WQ.start Trymixed 8 (by kernel_rfl) _ rfl [8] rfl ?_
  refine WQ.val rfl rfl rfl (Yld.move rfl rfl) ?_
  refine WQ.val rfl rfl rfl (Yld.nilCheck rfl rfl) ?_
  refine WQ.val rfl rfl rfl (Yld.fieldAddr rfl ty_fd_101_0 rfl) ?_
  refine WQ.val rfl rfl rfl (Yld.ld rfl ty_sc_46 rfl rfl) ?_
  refine WQ.val rfl rfl rfl (Yld.move rfl rfl) ?_
  refine WQ.val rfl rfl rfl (Yld.nilCheck rfl rfl) ?_
  refine WQ.val rfl rfl rfl (Yld.fieldAddr rfl ty_fd_101_1 rfl) ?_
  refine WQ.val rfl rfl rfl (Yld.ld rfl ty_sc_46 rfl rfl) ?_
  refine WQ.nil ?_
  refine WP.loud rfl rfl ?_
  refine Op.copyB (k := 0) (m := n * 64) (m2 := n * 64) (q := n * 64) (old := x.plat) (new := x.now) rfl ty_sl_46 rfl rfl rfl rfl (SlAt.blk (Nat.le_refl _)) (SlAt.rdB (l := x.now) (SlAt.blk (Nat.le_refl _)) (by repeat (first | exact There.h | exact There.i (by assumption) | apply There.t | apply There.s)) (by omega)) (Nat.min_self _) (by omega) (by simp [List.take_of_length_le, ln, lp]) (by repeat (first | exact Upd.head | apply Upd.tail | apply Upd.tailS)) ?_
  refine WP.nil ?_
  refine WP.sub [(0, _), (2, _), (6, _)] ?_ ⟨rfl, rfl, rfl, trivial⟩
  refine WP.next ?_
  refine WP.seq ?_
  refine WP.region [0, 1, 2, 3] rfl ?_
  refine WP.mv rfl rfl ?_
  refine WP.vl rfl (Yld.nilCheck rfl rfl) ?_
  refine WP.vl rfl (Yld.fieldAddr rfl ty_fd_101_2 rfl) ?_
  refine WP.loud rfl rfl ?_
  refine Op.s1 rfl rfl ty_sz_99 rfl rfl rfl ?_
  refine WP.nil ?_
  refine WP.sub [(0, _), (2, _), (6, _)] ?_ ⟨rfl, rfl, rfl, trivial⟩
  refine WP.next ?_
  refine WP.seq ?_
  refine WP.region [0, 1, 2, 3, 4, 5, 6, 7] rfl ?_
  refine WP.mv rfl rfl ?_
  refine WP.vl rfl (Yld.nilCheck rfl rfl) ?_
  refine WP.vl rfl (Yld.fieldAddr rfl ty_fd_101_6 rfl) ?_
  refine WP.vl rfl (Yld.ld rfl ty_sc_3 rfl rfl) ?_
  refine WP.vl rfl (Yld.add rfl rfl rfl) ?_
  refine WP.vl rfl (Yld.nilCheck rfl rfl) ?_
  refine WP.vl rfl (Yld.fieldAddr rfl ty_fd_101_6 rfl) ?_
  refine WP.loud rfl rfl ?_
  refine Op.s1 rfl rfl ty_sz_3 rfl rfl rfl ?_
  refine WP.nil ?_
  refine WP.sub [(0, _), (2, _), (6, _)] ?_ ⟨rfl, rfl, rfl, trivial⟩
  refine WP.next ?_
  refine WP.seq ?_
  refine WP.region [0] rfl ?_
  refine WP.mv rfl rfl ?_
  refine WP.nil ?_
  refine WP.next ?_
  refine WP.ret ?_
  refine WP.fn .ret (.inr rfl) (res1 rfl rfl) [(d, row 101 _), (bp, row 5 _), (bn, row 5 _)] (Imm.le_refl _) ?_
  exact ⟨by simp [hb], rfl, by have e : x.sync = { x with plat := x.now, waits := [], syncs := IntKind.i64.wrap (x.syncs + 1) } := (by simp [Dk.sync, hb]); rw [e]; exact .mk (x := { x with plat := x.now, waits := [], syncs := IntKind.i64.wrap (x.syncs + 1) }) (e ▸ Dk.sync_ok ok) (hb ▸ .none0)⟩

theorem disk_Read {I : Imm} {d n : Nat} {x : Dk} {L : Chunks} (hd : IsDisk d n x L) {at_ many : Int} : Spec Try.prog 53 [.pointer (some ⟨d, 0, none⟩), .int .i64 at_, .int .i64 many] I L (fun v' J L' => I = J ∧ ∃ v Lo, v' = .tuple #[v, .int .i64 (x.read n at_ many).2] ∧ Own 5 1 v (bytesV (x.read n at_ many).1) (x.read n at_ many).1.length Lo ∧ L' = Lo ++ L) := by
 cases hd with
 | @mk bp bn vw Lw ok ow =>
 obtain ⟨n1, n2, lp, ln, hw, hl⟩ := id ok
 obtain ⟨Aw, cw, rfl, hcw⟩ := ow.slice
 refine Spec.of Try.func53 rfl Try.ntmps53 (Nat.le_of_ble_eq_true rfl) (fun F => ?_)
 try simp only [nf]
 dsimp only [argsEnv]
 refine WP.seq ?_
 refine WP.region [0, 1] rfl ?_
 iterate 2 refine WP.mv rfl rfl ?_
 refine WP.nil ?_
 refine WP.next ?_
 refine WP.seq ?_
 refine WP.block ?_
 refine WP.seq ?_
 refine WP.region [0, 1, 2, 3, 4] rfl ?_
 refine WP.mv rfl rfl ?_
 refine WP.vl rfl (Yld.nilCheck rfl rfl) ?_
 refine WP.vl rfl (Yld.fieldAddr rfl ty_fd_101_4 rfl) ?_
 refine WP.splitB rfl rfl rfl rfl (Yld.ld rfl ty_sc_4 rfl rfl) (fun hb => ?_) (fun hb => ?_)
 ·refine WP.mv rfl rfl ?_
  refine WP.nil ?_
  refine WP.sub [(0, _), (1, _), (2, _), (6, _), (7, _), (9, _)] ?_ ⟨rfl, rfl, rfl, rfl, rfl, rfl, trivial⟩
  refine WP.next ?_
  refine WP.condT rfl ?_
  refine WP.seq ?_
  refine WP.region [0, 1] rfl ?_
  iterate 2 refine WP.mv rfl rfl ?_
  refine WP.nil ?_
  refine WP.next ?_
  refine WP.ret ?_
  refine WP.fn .ret (.inr rfl) (res2 rfl rfl rfl) ([] ++ ((d, row 101 _) :: (bp, row 5 _) :: (bn, row 5 _) :: Lw)) (Imm.le_refl _) ?_
  have hr : x.read n at_ many = ([], 4) := by simp [Dk.read, hb]
  rw [hr]; exact ⟨rfl, _, [], rfl, .none0, rfl⟩
 ·refine WP.mv rfl rfl ?_
  refine WP.nil ?_
  refine WP.sub [(0, _), (1, _), (2, _), (6, _), (7, _), (9, _)] ?_ ⟨rfl, rfl, rfl, rfl, rfl, rfl, trivial⟩
  refine WP.next ?_
  refine WP.condF rfl ?_
  refine WP.seq ?_
  refine WP.region [0, 1, 2, 3, 4, 5, 6, 7, 8, 9, 10, 11, 12, 13] rfl ?_
  refine WP.mv rfl rfl ?_
  refine WP.split rfl rfl rfl rfl (Yld.lss rfl rfl rfl) (fun h1 => ?_) (fun h1 => ?_)
  ·refine WP.mv rfl rfl ?_
   refine WP.passG rfl rfl rfl rfl rfl rfl rfl rfl ?_
   refine WP.passG rfl rfl rfl rfl rfl rfl rfl rfl ?_
   refine WP.vl rfl (Yld.pickT rfl rfl rfl) ?_
   refine WP.mv rfl rfl ?_
   refine WP.passG rfl rfl rfl rfl rfl rfl rfl rfl ?_
   refine WP.passG rfl rfl rfl rfl rfl rfl rfl rfl ?_
   refine WP.passG rfl rfl rfl rfl rfl rfl rfl rfl ?_
   refine WP.passG rfl rfl rfl rfl rfl rfl rfl rfl ?_
   refine WP.passG rfl rfl rfl rfl rfl rfl rfl rfl ?_
   refine WP.vl rfl (Yld.pickT rfl rfl rfl) ?_
   refine WP.mv rfl rfl ?_
   refine WP.nil ?_
   refine WP.sub [(0, _), (1, _), (2, _), (6, _), (7, _), (9, _), (14, _)] ?_ ⟨rfl, rfl, rfl, rfl, rfl, rfl, rfl, trivial⟩
   refine WP.next ?_
   refine WP.condT rfl ?_
   refine WP.seq ?_
   refine WP.region [0, 1] rfl ?_
   iterate 2 refine WP.mv rfl rfl ?_
   refine WP.nil ?_
   refine WP.next ?_
   refine WP.ret ?_
   refine WP.fn .ret (.inr rfl) (res2 rfl rfl rfl) ([] ++ ((d, row 101 _) :: (bp, row 5 _) :: (bn, row 5 _) :: Lw)) (Imm.le_refl _) ?_
   have hr : x.read n at_ many = ([], 1) := by simp [Dk.read, hb, h1]
   rw [hr]; exact ⟨rfl, _, [], rfl, .none0, rfl⟩
  ·refine WP.mv rfl rfl ?_
   refine WP.valG rfl rfl rfl rfl rfl rfl rfl (Yld.move rfl rfl) ?_
   refine WP.splitG rfl rfl rfl rfl rfl rfl rfl (Yld.lss rfl rfl rfl) (fun h2 => ?_) (fun h2 => ?_)
   ·refine WP.vl rfl (Yld.pickF rfl rfl rfl) ?_
    refine WP.mv rfl rfl ?_
    refine WP.passG rfl rfl rfl rfl rfl rfl rfl rfl ?_
    refine WP.passG rfl rfl rfl rfl rfl rfl rfl rfl ?_
    refine WP.passG rfl rfl rfl rfl rfl rfl rfl rfl ?_
    refine WP.passG rfl rfl rfl rfl rfl rfl rfl rfl ?_
    refine WP.passG rfl rfl rfl rfl rfl rfl rfl rfl ?_
    refine WP.vl rfl (Yld.pickT rfl rfl rfl) ?_
    refine WP.mv rfl rfl ?_
    refine WP.nil ?_
    refine WP.sub [(0, _), (1, _), (2, _), (6, _), (7, _), (9, _), (14, _)] ?_ ⟨rfl, rfl, rfl, rfl, rfl, rfl, rfl, trivial⟩
    refine WP.next ?_
    refine WP.condT rfl ?_
    refine WP.seq ?_
    refine WP.region [0, 1] rfl ?_
    iterate 2 refine WP.mv rfl rfl ?_
    refine WP.nil ?_
    refine WP.next ?_
    refine WP.ret ?_
    refine WP.fn .ret (.inr rfl) (res2 rfl rfl rfl) ([] ++ ((d, row 101 _) :: (bp, row 5 _) :: (bn, row 5 _) :: Lw)) (Imm.le_refl _) ?_
    have hr : x.read n at_ many = ([], 1) := by simp [Dk.read, hb, h2]
    rw [hr]; exact ⟨rfl, _, [], rfl, .none0, rfl⟩
   ·refine WP.vl rfl (Yld.pickF rfl rfl rfl) ?_
    refine WP.mv rfl rfl ?_
    refine WP.valG rfl rfl rfl rfl rfl rfl rfl (Yld.move rfl rfl) ?_
    refine WP.valG rfl rfl rfl rfl rfl rfl rfl (Yld.move rfl rfl) ?_
    refine WP.valG rfl rfl rfl rfl rfl rfl rfl (Yld.move rfl rfl) ?_
    refine WP.loudG rfl rfl rfl rfl rfl ?_
    refine Op.cl (disk_has (.mk ok ow) (by omega)) rfl Try.func62 rfl rfl rfl rfl ?_
    rintro v J L1 - ⟨rfl, rfl, rfl⟩
    try simp only [nf]
    refine WP.valG rfl rfl rfl rfl rfl rfl rfl (Yld.not rfl rfl) ?_
    refine WP.vl rfl (Yld.pickF rfl rfl rfl) ?_
    refine WP.mv rfl rfl ?_
    refine WP.nil ?_
    refine WP.sub [(0, _), (1, _), (2, _), (6, _), (7, _), (9, _), (14, _)] ?_ ⟨rfl, rfl, rfl, rfl, rfl, rfl, rfl, trivial⟩
    refine WP.next ?_
    refine WP.cond rfl (fun ht => ?_) (fun ht => ?_)
    ·refine WP.seq ?_
     refine WP.region [0, 1] rfl ?_
     iterate 2 refine WP.mv rfl rfl ?_
     refine WP.nil ?_
     refine WP.next ?_
     refine WP.ret ?_
     refine WP.fn .ret (.inr rfl) (res2 rfl rfl rfl) ([] ++ ((d, row 101 _) :: (bp, row 5 _) :: (bn, row 5 _) :: Lw)) (Imm.le_refl _) ?_
     have hr : x.read n at_ many = ([], 1) := by have hh : ¬ (many = 0 ∨ (at_ ≤ n ∧ many ≤ n - at_)) := (fun h => by rw [decide_eq_true h] at ht; cases ht); simp only [Dk.read, hb, Bool.false_eq_true, if_false, hh, not_false_eq_true, or_true, if_true]
     rw [hr]; exact ⟨rfl, _, [], rfl, .none0, rfl⟩
    ·refine WP.seq ?_
     refine WP.region [0, 1, 2] rfl ?_
     refine WP.mv rfl rfl ?_
     refine WP.split rfl rfl rfl rfl (Yld.eql rfl rfl rfl) (fun h5 => ?_) (fun h5 => ?_)
     ·refine WP.mv rfl rfl ?_
      refine WP.nil ?_
      refine WP.sub [(0, _), (1, _), (2, _), (6, _), (7, _), (9, _), (14, _), (28, _)] ?_ ⟨rfl, rfl, rfl, rfl, rfl, rfl, rfl, rfl, trivial⟩
      refine WP.next ?_
      refine WP.condT rfl ?_
      refine WP.seq ?_
      refine WP.region [0, 1] rfl ?_
      iterate 2 refine WP.mv rfl rfl ?_
      refine WP.nil ?_
      refine WP.next ?_
      refine WP.ret ?_
      refine WP.fn .ret (.inr rfl) (res2 rfl rfl rfl) ([] ++ ((d, row 101 _) :: (bp, row 5 _) :: (bn, row 5 _) :: Lw)) (Imm.le_refl _) ?_
      have hr : x.read n at_ many = ([], 0) := by simp [Dk.read, hb, h1, h5]
      rw [hr]; exact ⟨rfl, _, [], rfl, .none0, rfl⟩
     ·have hh : many = 0 ∨ (at_ ≤ n ∧ many ≤ n - at_) := Classical.byContradiction fun h => by rw [decide_eq_false h] at ht; cases ht
      have hmk : 0 < many.toNat ∧ at_.toNat + many.toNat ≤ n := by omega
      refine WP.mv rfl rfl ?_
      refine WP.nil ?_
      refine WP.sub [(0, _), (1, _), (2, _), (6, _), (7, _), (9, _), (14, _), (28, _)] ?_ ⟨rfl, rfl, rfl, rfl, rfl, rfl, rfl, rfl, trivial⟩
      refine WP.next ?_
      refine WP.condF rfl ?_
      refine WP.skip ?_
      refine WP.leave ?_
      refine WP.next ?_
      refine WP.seq ?_
      refine WP.region [0, 1, 2, 3] rfl ?_
      refine WP.mv rfl rfl ?_
      refine WP.vl rfl (Yld.mul64 rfl rfl rfl (by omega)) ?_
      refine WP.loud rfl rfl ?_
      refine Op.make (l := many.toNat * 64) (c := many.toNat * 64) rfl ty_sl_46 ty_el_46 rfl rfl rfl (congrArg (fun z => some (Value.int .i64 z)) (by omega)) (congrArg (fun z => some (Value.int .i64 z)) (by omega)) (Nat.le_refl _) (by omega) (by omega) (fun bo => ?_)
      rw [bytes0]
      refine WP.mv rfl rfl ?_
      refine WP.nil ?_
      refine WP.sub [(0, _), (1, _), (2, _), (6, _), (7, _), (8, _), (9, _), (14, _), (28, _)] ?_ ⟨rfl, rfl, rfl, rfl, rfl, rfl, rfl, rfl, rfl, trivial⟩
      refine WP.next ?_
      refine WP.seq ?_
      refine WP.region [0, 1, 2, 3, 4, 5, 6, 7, 8] rfl ?_
      iterate 2 refine WP.mv rfl rfl ?_
      refine WP.vl rfl (Yld.nilCheck rfl rfl) ?_
      refine WP.vl rfl (Yld.fieldAddr rfl ty_fd_101_1 rfl) ?_
      refine WP.vl rfl (Yld.ld rfl ty_sc_46 rfl rfl) ?_
      refine WP.mv rfl rfl ?_
      refine WP.vl rfl (Yld.mul64 rfl rfl rfl (by omega)) ?_
      refine WP.vl rfl (Yld.slice rfl ty_sl_46 rfl (Env.limS (n := at_.toNat * 64) (congrArg (fun z => some (Value.int .i64 z)) (by omega))) Env.lim0 (by omega) (by omega)) ?_
      refine WP.loud rfl rfl ?_
      refine Op.copyB (k := 0) (m := many.toNat * 64) (m2 := n * 64 - at_.toNat * 64) (q := many.toNat * 64) (old := List.replicate (many.toNat * 64) 0) (new := (x.now.drop (at_.toNat * 64)).take (many.toNat * 64)) (s := (x.now.drop (0 + at_.toNat * 64 * 1)).take (n * 64 - at_.toNat * 64)) rfl ty_sl_46 rfl rfl rfl rfl (SlAt.blk (Nat.le_refl _)) (SlAt.rdB (l := x.now) (SlAt.sub (SlAt.blk (Nat.le_refl _)) (by omega) (by omega)) (by repeat (first | exact There.h | exact There.i (by assumption) | apply There.t | apply There.s)) (by omega)) (Nat.min_eq_right (by omega)) (by simp) (by simp [List.take_take]; omega) (by repeat (first | exact Upd.head | apply Upd.tail | apply Upd.tailS)) ?_
      refine WP.nil ?_
      refine WP.sub [(0, _), (1, _), (2, _), (6, _), (7, _), (8, _), (9, _), (14, _), (28, _)] ?_ ⟨rfl, rfl, rfl, rfl, rfl, rfl, rfl, rfl, rfl, trivial⟩
      refine WP.next ?_
      refine WP.seq ?_
      refine WP.region [0, 1, 2] rfl ?_
      iterate 3 refine WP.mv rfl rfl ?_
      refine WP.nil ?_
      refine WP.sub [(0, _), (1, _), (2, _), (6, _), (7, _), (8, _), (9, _), (14, _), (28, _)] ?_ ⟨rfl, rfl, rfl, rfl, rfl, rfl, rfl, rfl, rfl, trivial⟩
      refine WP.next ?_
      refine WP.ret ?_
      refine WP.fn .ret (.inr rfl) (res2 rfl rfl rfl) ([(bo, row 5 _)] ++ ((d, row 101 _) :: (bp, row 5 _) :: (bn, row 5 _) :: Lw)) (Imm.le_refl _) ?_
      have hh : many = 0 ∨ (at_ ≤ n ∧ many ≤ n - at_) := Classical.byContradiction fun h => by rw [decide_eq_false h] at ht; cases ht
      have hr : x.read n at_ many = ((x.now.drop (at_.toNat * 64)).take (many.toNat * 64), 0) := by simp only [Dk.read, hb, Bool.false_eq_true, if_false, h1, h2, hh, not_true_eq_false, or_false]
      rw [hr]
      refine ⟨rfl, _, [(bo, row 5 (bytesV ((x.now.drop (at_.toNat * 64)).take (many.toNat * 64))))], rfl, ?_, rfl⟩
      have hll : ((x.now.drop (at_.toNat * 64)).take (many.toNat * 64)).length = many.toNat * 64 := by simp [ln]; omega
      have hbk := Own.blk (T := 5) (sz := 1) (b := bo) (cap := many.toNat * 64) (n := many.toNat * 64) (xs := bytesV ((x.now.drop (at_.toNat * 64)).take (many.toNat * 64))) (sp := []) (by rw [bytesV_len, hll, Nat.mul_one]) (by simp [bytesV_len, hll]) (Nat.le_refl _)
      rw [List.append_nil] at hbk
      simp only [hll]; exact hbk


end Go.Hp
