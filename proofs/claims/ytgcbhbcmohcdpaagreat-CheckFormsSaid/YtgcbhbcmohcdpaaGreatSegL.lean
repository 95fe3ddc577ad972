import Derived.Test.YtgcbhbcmohcdpaaGreatSegG
import Derived.Test.YtgcbhbcmohcdpaaGreatHpWord
set_option linter.unusedVariables false
set_option linter.unusedSimpArgs false
namespace Go.Hp
open Go Go.Proofs

structure pgood (f : Pt) (n i : Nat) (p : Pt) : Prop where
 may : p.may
 index : p.index = i
 parts : p.parts = n
 no : p.no = f.no
 era : p.era = f.era
 place : p.place = f.place + i
instance (f : Pt) (n i : Nat) (p : Pt) : Decidable (pgood f n i p) := decidable_of_iff (p.may ∧ p.index = i ∧ p.parts = n ∧ p.no = f.no ∧ p.era = f.era ∧ p.place = f.place + i) ⟨fun h => ⟨h.1, h.2.1, h.2.2.1, h.2.2.2.1, h.2.2.2.2.1, h.2.2.2.2.2⟩, fun h => ⟨h.may, h.index, h.parts, h.no, h.era, h.place⟩⟩
theorem ptV_one {p : Pt} {v : Value} (h : ∃ A n c, v = .slice A n c) : (ptV p v).all (·.oneCell') = true := by obtain ⟨_, _, _, rfl⟩ := h; rfl
structure Sg where
 slots : Nat
 first : Nat
 stop : Nat
structure Sg.ok (n : Nat) (g : Sg) : Prop where
 s4 : 4 ≤ g.slots
 sn : g.slots * 32 + 8 ≤ n
 fs : g.first ≤ g.stop
 sb : g.stop ≤ 1099511627776
def sgV (d : Nat) (g : Sg) : List Value := [.pointer (some ⟨d, 0, none⟩), .int .i64 (g.slots : Int), .int .i64 (g.first : Int), .int .i64 (g.stop : Int)]
def psec (g : Sg) (p : Nat) : Nat := 8 + (p / 8 % g.slots * 8 + p % 8) * 4
theorem psec_lt {n : Nat} {g : Sg} (h : g.ok n) (p : Nat) : psec g p + 4 ≤ n := by
 have h1 := Nat.mod_lt (p / 8) (show 0 < g.slots by have := h.s4; omega)
 have h2 := h.sn
 unfold psec; omega
def phas (g : Sg) (p : Int) : Prop := (g.first : Int) * 8 ≤ p ∧ p < (g.stop : Int) * 8
instance (g : Sg) (p : Int) : Decidable (phas g p) := inferInstanceAs (Decidable (_ ∧ _))
def pwrt (x : Dk) (n : Nat) (g : Sg) (p : Pt) : Dk × Int := if p.may then (if phas g p.place then x.write n (psec g p.place.toNat : Int) (penc p) else (x, 1)) else (x, 70)
/-- What stands at a place. -/
def pstand (x : Dk) (n : Nat) (g : Sg) (p : Nat) : Pt × Int :=
 if (x.read n (psec g p : Int) 4).2 ≠ 0 then (ptZ, (x.read n (psec g p : Int) 4).2) else match pdec (x.read n (psec g p : Int) 4).1 with
 | some r => if r.place = p then (r, 0) else (ptZ, 70)
 | none => (ptZ, 70)
def pread (x : Dk) (n : Nat) (g : Sg) (p : Nat) : Pt × Int := if phas g p then pstand x n g p else (ptZ, 1)
def scanL (f : Nat → Pt × Int) : Nat → Nat → List Pt → List Pt
 | 0, _, acc => acc
 | k + 1, p, acc => if (f p).2 ≠ 0 ∨ (acc ≠ [] ∧ (f p).1.era < (acc.getLastD ptZ).era) then acc else scanL f k (p + 1) (acc ++ [(f p).1])
theorem disk_ok {d n : Nat} {x : Dk} {L : Chunks} (h : IsDisk d n x L) : x.ok n := by cases h with | mk ok ow => exact ok
theorem seg_Slots {I : Imm} {s d n : Nat} {g : Sg} : Spec Tryz.prog 52 [.pointer (some ⟨s, 0, none⟩)] I [(s, row 122 (sgV d g))] (fun v J L' => v = .int .i64 (g.slots : Int) ∧ I = J ∧ [(s, row 122 (sgV d g))] = L') := by
 refine Spec.of Tryz.func52 rfl Tryz.ntmps52 (Nat.le_of_ble_eq_true rfl) (fun F => ?_)
 try simp only [nf]
 dsimp only [argsEnv]
 refine WP.seq ?_; refine WP.region [0] rfl ?_; refine WP.mv rfl rfl ?_; refine WP.nil (WP.next (WP.seq ?_))
 refine WP.region [0, 1, 2, 3, 4] rfl ?_; refine WP.mv rfl rfl ?_; refine WP.vl rfl (Yld.nilCheck rfl rfl) ?_; refine WP.vl rfl (Yld.fieldAddr rfl ty_fd_122_1 rfl) ?_; refine WP.vl rfl (Yld.ld (v := .int .i64 (g.slots : Int)) rfl ty_sc_3 rfl rfl) ?_; refine WP.mv rfl rfl ?_; refine WP.nil ?_; refine WP.sub [(0, _), (2, _)] ?_ ⟨rfl, rfl, trivial⟩
 refine WP.next (WP.ret ?_)
 refine WP.fn .ret (.inr rfl) (res1 rfl rfl) [(s, row 122 (sgV d g))] (Imm.le_refl _) ?_; exact ⟨rfl, rfl, rfl⟩

theorem seg_First {I : Imm} {s d n : Nat} {g : Sg} : Spec Tryz.prog 51 [.pointer (some ⟨s, 0, none⟩)] I [(s, row 122 (sgV d g))] (fun v J L' => v = .int .i64 (g.first : Int) ∧ I = J ∧ [(s, row 122 (sgV d g))] = L') := by
 refine Spec.of Tryz.func51 rfl Tryz.ntmps51 (Nat.le_of_ble_eq_true rfl) (fun F => ?_)
 try simp only [nf]
 dsimp only [argsEnv]
 refine WP.seq ?_; refine WP.region [0] rfl ?_; refine WP.mv rfl rfl ?_; refine WP.nil (WP.next (WP.seq ?_))
 refine WP.region [0, 1, 2, 3, 4] rfl ?_; refine WP.mv rfl rfl ?_; refine WP.vl rfl (Yld.nilCheck rfl rfl) ?_; refine WP.vl rfl (Yld.fieldAddr rfl ty_fd_122_2 rfl) ?_; refine WP.vl rfl (Yld.ld (v := .int .i64 (g.first : Int)) rfl ty_sc_3 rfl rfl) ?_; refine WP.mv rfl rfl ?_; refine WP.nil ?_; refine WP.sub [(0, _), (2, _)] ?_ ⟨rfl, rfl, trivial⟩
 refine WP.next (WP.ret ?_)
 refine WP.fn .ret (.inr rfl) (res1 rfl rfl) [(s, row 122 (sgV d g))] (Imm.le_refl _) ?_; exact ⟨rfl, rfl, rfl⟩

theorem seg_End {I : Imm} {s d n : Nat} {g : Sg} : Spec Tryz.prog 132 [.pointer (some ⟨s, 0, none⟩)] I [(s, row 122 (sgV d g))] (fun v J L' => v = .int .i64 (g.stop : Int) ∧ I = J ∧ [(s, row 122 (sgV d g))] = L') := by
 refine Spec.of Tryz.func132 rfl Tryz.ntmps132 (Nat.le_of_ble_eq_true rfl) (fun F => ?_)
 try simp only [nf]
 dsimp only [argsEnv]
 refine WP.seq ?_; refine WP.region [0] rfl ?_; refine WP.mv rfl rfl ?_; refine WP.nil (WP.next (WP.seq ?_))
 refine WP.region [0, 1, 2, 3, 4] rfl ?_; refine WP.mv rfl rfl ?_; refine WP.vl rfl (Yld.nilCheck rfl rfl) ?_; refine WP.vl rfl (Yld.fieldAddr rfl ty_fd_122_3 rfl) ?_; refine WP.vl rfl (Yld.ld (v := .int .i64 (g.stop : Int)) rfl ty_sc_3 rfl rfl) ?_; refine WP.mv rfl rfl ?_; refine WP.nil ?_; refine WP.sub [(0, _), (2, _)] ?_ ⟨rfl, rfl, trivial⟩
 refine WP.next (WP.ret ?_)
 refine WP.fn .ret (.inr rfl) (res1 rfl rfl) [(s, row 122 (sgV d g))] (Imm.le_refl _) ?_; exact ⟨rfl, rfl, rfl⟩

theorem seg_Used {I : Imm} {s d n : Nat} {g : Sg} (hg : g.ok n) : Spec Tryz.prog 147 [.pointer (some ⟨s, 0, none⟩)] I [(s, row 122 (sgV d g))] (fun v J L' => v = .int .i64 ((g.stop : Int) - (g.first : Int)) ∧ I = J ∧ [(s, row 122 (sgV d g))] = L') := by
 refine Spec.of Tryz.func147 rfl Tryz.ntmps147 (Nat.le_of_ble_eq_true rfl) (fun F => ?_)
 try simp only [nf]
 dsimp only [argsEnv]
 refine WP.seq ?_; refine WP.region [0] rfl ?_; refine WP.mv rfl rfl ?_; refine WP.nil (WP.next (WP.seq ?_))
 refine WQ.startAll Tryzmixed zK _ rfl ?_; refine WQ.val rfl rfl rfl (Yld.move rfl rfl) ?_; refine WQ.val rfl rfl rfl (Yld.nilCheck rfl rfl) ?_; refine WQ.val rfl rfl rfl (Yld.fieldAddr rfl ty_fd_122_3 rfl) ?_; refine WQ.val rfl rfl rfl (Yld.ld (v := .int .i64 (g.stop : Int)) rfl ty_sc_3 rfl rfl) ?_; refine WQ.val rfl rfl rfl (Yld.move rfl rfl) ?_; refine WQ.val rfl rfl rfl (Yld.nilCheck rfl rfl) ?_; refine WQ.val rfl rfl rfl (Yld.fieldAddr rfl ty_fd_122_2 rfl) ?_; refine WQ.val rfl rfl rfl (Yld.ld (v := .int .i64 (g.first : Int)) rfl ty_sc_3 rfl rfl) ?_; refine WQ.val rfl rfl rfl (Yld.sub64 rfl rfl rfl (by have := hg.sb; have := hg.fs; omega)) ?_; refine WQ.val rfl rfl rfl (Yld.assign rfl rfl) ?_; refine WQ.nil ?_; refine WP.sub [(0, _), (2, _)] ?_ ⟨rfl, rfl, trivial⟩
 refine WP.next (WP.ret ?_)
 refine WP.fn .ret (.inr rfl) (res1 rfl rfl) [(s, row 122 (sgV d g))] (Imm.le_refl _) ?_; exact ⟨rfl, rfl, rfl⟩

theorem seg_has {I : Imm} {s d n : Nat} {g : Sg} {p : Int} (hg : g.ok n) : Spec Tryz.prog 149 [.pointer (some ⟨s, 0, none⟩), .int .i64 p] I [(s, row 122 (sgV d g))] (fun v J L' => v = .bool (decide (phas g p)) ∧ I = J ∧ [(s, row 122 (sgV d g))] = L') := by
 refine Spec.of Tryz.func149 rfl Tryz.ntmps149 (Nat.le_of_ble_eq_true rfl) (fun F => ?_)
 try simp only [nf]
 dsimp only [argsEnv]
 refine WP.seq ?_; refine WP.region [0] rfl ?_; refine WP.mv rfl rfl ?_; refine WP.nil (WP.next (WP.seq ?_))
 refine WP.region [0, 1, 2, 3, 4, 5, 6, 7, 8, 9, 10, 11, 12, 13, 14, 15, 16] rfl ?_; iterate 2 refine WP.mv rfl rfl ?_
 refine WP.vl rfl (Yld.nilCheck rfl rfl) ?_; refine WP.vl rfl (Yld.fieldAddr rfl ty_fd_122_2 rfl) ?_; refine WP.vl rfl (Yld.ld (v := .int .i64 (g.first : Int)) rfl ty_sc_3 rfl rfl) ?_; refine WP.vl rfl (Yld.mul64 rfl rfl rfl (by have := hg.sb; have := hg.fs; omega)) ?_; refine WP.split rfl rfl rfl rfl (Yld.geq rfl rfl rfl) (fun h1 => ?_) (fun h1 => ?_)
 ·refine WP.mv rfl rfl ?_
  iterate 2 refine WP.valG rfl rfl rfl rfl rfl rfl rfl (Yld.move rfl rfl) ?_
  refine WP.valG rfl rfl rfl rfl rfl rfl rfl (Yld.nilCheck rfl rfl) ?_; refine WP.valG rfl rfl rfl rfl rfl rfl rfl (Yld.fieldAddr rfl ty_fd_122_3 rfl) ?_; refine WP.valG rfl rfl rfl rfl rfl rfl rfl (Yld.ld (v := .int .i64 (g.stop : Int)) rfl ty_sc_3 rfl rfl) ?_; refine WP.valG rfl rfl rfl rfl rfl rfl rfl (Yld.mul64 rfl rfl rfl (by have := hg.sb; omega)) ?_; refine WP.splitG rfl rfl rfl rfl rfl rfl rfl (Yld.lss rfl rfl rfl) (fun h2 => ?_) (fun h2 => ?_)
  ·refine WP.vl rfl (Yld.pickT rfl rfl rfl) ?_
   refine WP.mv rfl rfl ?_; refine WP.nil ?_; refine WP.sub [(0, _), (1, _), (4, _)] ?_ ⟨rfl, rfl, rfl, trivial⟩
   refine WP.next (WP.ret ?_)
   refine WP.fn .ret (.inr rfl) (res1 rfl rfl) [(s, row 122 (sgV d g))] (Imm.le_refl _) ?_; exact ⟨congrArg Value.bool (by unfold phas; exact (decide_eq_true ⟨by omega, by omega⟩).symm), rfl, rfl⟩
  ·refine WP.vl rfl (Yld.pickT rfl rfl rfl) ?_
   refine WP.mv rfl rfl ?_; refine WP.nil ?_; refine WP.sub [(0, _), (1, _), (4, _)] ?_ ⟨rfl, rfl, rfl, trivial⟩
   refine WP.next (WP.ret ?_)
   refine WP.fn .ret (.inr rfl) (res1 rfl rfl) [(s, row 122 (sgV d g))] (Imm.le_refl _) ?_; exact ⟨congrArg Value.bool (by unfold phas; exact (decide_eq_false (fun h => by omega)).symm), rfl, rfl⟩
 ·refine WP.mv rfl rfl ?_
  iterate 7 refine WP.passG rfl rfl rfl rfl rfl rfl rfl rfl ?_
  refine WP.vl rfl (Yld.pickF rfl rfl rfl) ?_; refine WP.mv rfl rfl ?_; refine WP.nil ?_; refine WP.sub [(0, _), (1, _), (4, _)] ?_ ⟨rfl, rfl, rfl, trivial⟩
  refine WP.next (WP.ret ?_)
  refine WP.fn .ret (.inr rfl) (res1 rfl rfl) [(s, row 122 (sgV d g))] (Imm.le_refl _) ?_; exact ⟨congrArg Value.bool (by unfold phas; exact (decide_eq_false (fun h => by omega)).symm), rfl, rfl⟩

theorem seg_sector {I : Imm} {s d n : Nat} {g : Sg} {p : Nat} (hg : g.ok n) (hn : n ≤ 8192) (hp : p ≤ 1152921504606846976) : Spec Tryz.prog 150 [.pointer (some ⟨s, 0, none⟩), .int .i64 (p : Int)] I [(s, row 122 (sgV d g))] (fun v J L' => v = .int .i64 (psec g p : Int) ∧ I = J ∧ [(s, row 122 (sgV d g))] = L') := by
 refine Spec.of Tryz.func150 rfl Tryz.ntmps150 (Nat.le_of_ble_eq_true rfl) (fun F => ?_)
 try simp only [nf]
 dsimp only [argsEnv]
 refine WP.seq ?_; refine WP.region [0] rfl ?_; refine WP.mv rfl rfl ?_; refine WP.nil (WP.next (WP.seq ?_))
 refine WP.region [0, 1, 2, 3, 4, 5, 6, 7] rfl ?_; refine WP.mv rfl rfl ?_; refine WP.vl rfl (Yld.quo64 rfl rfl rfl (by omega)) ?_; refine WP.mv rfl rfl ?_; refine WP.vl rfl (Yld.nilCheck rfl rfl) ?_; refine WP.vl rfl (Yld.fieldAddr rfl ty_fd_122_1 rfl) ?_; refine WP.vl rfl (Yld.ld (v := .int .i64 (g.slots : Int)) rfl ty_sc_3 rfl rfl) ?_; refine WP.vl rfl (Yld.rem64 rfl rfl rfl ⟨by omega, by have := hg.s4; omega⟩) ?_; rw [show ((p : Int) / 8 % (g.slots : Int)) = ((p / 8 % g.slots : Nat) : Int) from rfl]
 have hml := Nat.mod_lt (p / 8) (show 0 < g.slots by have := hg.s4; omega)
 have hsl : g.slots ≤ 256 := by have := hg.sn; omega
 refine WP.mv rfl rfl ?_; refine WP.nil ?_; refine WP.sub [(0, _), (1, _), (4, _), (5, _)] ?_ ⟨rfl, rfl, rfl, rfl, trivial⟩
 refine WP.next (WP.seq ?_)
 refine WP.region [0, 1, 2, 3, 4, 5, 6, 7] rfl ?_; refine WP.mv rfl rfl ?_; refine WP.vl rfl (Yld.mul64 rfl rfl rfl (by omega)) ?_; refine WP.mv rfl rfl ?_; refine WP.vl rfl (Yld.rem64 rfl rfl rfl (by omega)) ?_; refine WP.vl rfl (Yld.add64 rfl rfl rfl (by omega)) ?_; refine WP.vl rfl (Yld.mul64 rfl rfl rfl (by omega)) ?_; refine WP.vl rfl (Yld.add64 rfl rfl rfl (by omega)) ?_; refine WP.mv rfl rfl ?_; refine WP.nil ?_; refine WP.sub [(0, _), (1, _), (4, _), (5, _)] ?_ ⟨rfl, rfl, rfl, rfl, trivial⟩
 refine WP.next (WP.ret ?_)
 refine WP.fn .ret (.inr rfl) (res1 rfl rfl) [(s, row 122 (sgV d g))] (Imm.le_refl _) ?_; exact ⟨congrArg (fun z : Int => Value.int .i64 z) (by unfold psec; omega), rfl, rfl⟩

theorem seg_New_ok {I : Imm} {d n f e : Nat} {x : Dk} {L : Chunks} (hd : IsDisk d n x L) (hs : 136 ≤ n) (h1 : f ≤ e) (h2 : e ≤ 68719476736) (h3 : e - f ≤ (n - 8) / 32) : Spec Tryz.prog 39 [.pointer (some ⟨d, 0, none⟩), .int .i64 (f : Int), .int .i64 (e : Int)] I L (fun v J L' => I = J ∧ ∃ s, v = .tuple #[.pointer (some ⟨s, 0, none⟩), .int .i64 0] ∧ L' = (s, row 122 (sgV d ⟨(n - 8) / 32, f, e⟩)) :: L) := by
 refine Spec.of Tryz.func39 rfl Tryz.ntmps39 (Nat.le_of_ble_eq_true rfl) (fun F => ?_)
 try simp only [nf]
 dsimp only [argsEnv]
 refine WP.seq ?_; refine WP.region [0, 1] rfl ?_; iterate 2 refine WP.mv rfl rfl ?_
 refine WP.nil (WP.next (WP.seq ?_))
 refine WP.region [0, 1, 2, 3, 4, 5] rfl ?_; refine WP.mv rfl rfl ?_; refine WP.loud rfl rfl ?_; refine Op.cl (disk_Sectors hd) rfl Tryz.func49 rfl rfl rfl rfl ?_; rintro v J L - ⟨rfl, rfl, rfl⟩
 try simp only [nf]
 refine WP.vl rfl (Yld.sub64 rfl rfl rfl (by have := (disk_ok hd).n2; omega)) ?_; refine WP.vl rfl (Yld.max2 rfl rfl rfl ((n - 8 : Nat) : Int) (by split <;> omega)) ?_; refine WP.vl rfl (Yld.quo64 rfl rfl rfl (by have := (disk_ok hd).n2; omega)) ?_; rw [show ((n - 8 : Nat) : Int) / 32 = (((n - 8) / 32 : Nat) : Int) by omega]
 refine WP.mv rfl rfl ?_; refine WP.nil ?_; refine WP.sub [(0, _), (1, _), (2, _), (6, _), (7, _), (8, _)] ?_ ⟨rfl, rfl, rfl, rfl, rfl, rfl, trivial⟩
 refine WP.next (WP.seq (WP.seq ?_))
 refine WP.region [0, 1, 2, 3, 4, 5, 6, 7, 8, 9, 10, 11, 12, 13, 14, 15, 16, 17, 18, 19, 20, 21] rfl ?_; refine WP.mv rfl rfl ?_; refine WP.vl rfl (Yld.lss rfl rfl rfl false (decide_eq_false (by omega))) ?_; refine WP.mv rfl rfl ?_; refine WP.valG rfl rfl rfl rfl rfl rfl rfl (Yld.move rfl rfl) ?_; refine WP.valG rfl rfl rfl rfl rfl rfl rfl (Yld.lss rfl rfl rfl false (decide_eq_false (by omega))) ?_; refine WP.vl rfl (Yld.pickF rfl rfl rfl) ?_; refine WP.mv rfl rfl ?_; iterate 2 refine WP.valG rfl rfl rfl rfl rfl rfl rfl (Yld.move rfl rfl) ?_
 refine WP.valG rfl rfl rfl rfl rfl rfl rfl (Yld.lss rfl rfl rfl false (decide_eq_false (by omega))) ?_; refine WP.vl rfl (Yld.pickF rfl rfl rfl) ?_; refine WP.mv rfl rfl ?_; refine WP.valG rfl rfl rfl rfl rfl rfl rfl (Yld.move rfl rfl) ?_; refine WP.valG rfl rfl rfl rfl rfl rfl rfl (Yld.gtr rfl rfl rfl false (decide_eq_false (by omega))) ?_; refine WP.vl rfl (Yld.pickF rfl rfl rfl) ?_; refine WP.mv rfl rfl ?_; iterate 2 refine WP.valG rfl rfl rfl rfl rfl rfl rfl (Yld.move rfl rfl) ?_
 refine WP.valG rfl rfl rfl rfl rfl rfl rfl (Yld.sub64 rfl rfl rfl (by omega)) ?_; refine WP.valG rfl rfl rfl rfl rfl rfl rfl (Yld.move rfl rfl) ?_; refine WP.valG rfl rfl rfl rfl rfl rfl rfl (Yld.gtr rfl rfl rfl false (decide_eq_false (by omega))) ?_; refine WP.vl rfl (Yld.pickF rfl rfl rfl) ?_; refine WP.nil ?_; refine WP.sub [(0, _), (1, _), (2, _), (6, _), (7, _), (8, _), (35, _)] ?_ ⟨rfl, rfl, rfl, rfl, rfl, rfl, rfl, trivial⟩
 refine WP.next ?_; refine WP.condF rfl ?_; refine WP.skip (WP.next (WP.seq ?_))
 refine WP.region [0, 1, 2, 3, 4, 5, 6, 7] rfl ?_; iterate 4 refine WP.mv rfl rfl ?_
 refine WP.vl rfl (Yld.buildS (pl := [(0, 0, 1), (1, 1, 1), (2, 2, 1), (3, 3, 1)]) rfl ty_zr_122 ty_zd_122 zK rfl (vs := [_, _, _, _]) rfl (segs := [(0, [_]), (1, [_]), (2, [_]), (3, [_])]) rfl rfl (.one .zero (.one (.succ .zero) (.one (.succ (.succ .zero)) (.one (.succ (.succ (.succ .zero))) .nil))))) ?_; refine WP.loud rfl rfl ?_; refine Op.box rfl rfl rfl rfl rfl (fun s => ?_)
 iterate 2 refine WP.mv rfl rfl ?_
 refine WP.nil ?_; refine WP.sub [(0, _), (1, _), (2, _), (6, _), (7, _), (8, _), (35, _)] ?_ ⟨rfl, rfl, rfl, rfl, rfl, rfl, rfl, trivial⟩
 refine WP.next (WP.ret ?_)
 refine WP.fn .ret (.inr rfl) (res2 rfl rfl rfl) ((s, row 122 (sgV d ⟨(n - 8) / 32, f, e⟩)) :: L) (Imm.le_refl _) ?_; exact ⟨rfl, s, rfl, rfl⟩

theorem seg_Grow {I : Imm} {s d n : Nat} {g : Sg} (hg : g.ok n) : Spec Tryz.prog 133 [.pointer (some ⟨s, 0, none⟩)] I [(s, row 122 (sgV d g))] (fun v J L' => I = J ∧ ((g.stop - g.first = g.slots ∧ v = .int .i64 3 ∧ L' = [(s, row 122 (sgV d g))]) ∨ (¬ g.stop - g.first = g.slots ∧ v = .int .i64 0 ∧ L' = [(s, row 122 (sgV d ⟨g.slots, g.first, g.stop + 1⟩))]))) := by
 refine Spec.of Tryz.func133 rfl Tryz.ntmps133 (Nat.le_of_ble_eq_true rfl) (fun F => ?_)
 try simp only [nf]
 dsimp only [argsEnv]
 refine WP.seq ?_; refine WP.region [0] rfl ?_; refine WP.mv rfl rfl ?_; refine WP.nil (WP.next (WP.seq (WP.seq ?_)))
 refine WQ.startAll Tryzmixed zK _ rfl ?_; refine WQ.val rfl rfl rfl (Yld.move rfl rfl) ?_; refine WQ.call (seg_Used hg) (by rintro v' J L1 ⟨rfl, rfl, rfl⟩; exact ⟨rfl, rfl, rfl⟩) rfl Tryz.func147 rfl rfl rfl rfl rfl zT ?_; refine WQ.val rfl rfl rfl (Yld.move rfl rfl) ?_; refine WQ.val rfl rfl rfl (Yld.nilCheck rfl rfl) ?_; refine WQ.val rfl rfl rfl (Yld.fieldAddr rfl ty_fd_122_1 rfl) ?_; refine WQ.val rfl rfl rfl (Yld.ld (v := .int .i64 (g.slots : Int)) rfl ty_sc_3 rfl rfl) ?_; refine WQ.split rfl rfl rfl (Yld.eql rfl rfl rfl) (fun hf => ?_) (fun hf => ?_)
 ·refine WQ.nil ?_
  refine WP.sub [(0, _), (2, _), (9, _)] ?_ ⟨rfl, rfl, rfl, trivial⟩
  refine WP.next ?_; refine WP.condT rfl ?_; refine WP.seq ?_; refine WP.region [0] rfl ?_; refine WP.mv rfl rfl ?_; refine WP.nil (WP.next (WP.ret ?_))
  refine WP.fn .ret (.inr rfl) (res1 rfl rfl) [(s, row 122 (sgV d g))] (Imm.le_refl _) ?_; exact ⟨rfl, .inl ⟨by have := hg.fs; omega, rfl, rfl⟩⟩
 ·refine WQ.nil ?_
  refine WP.sub [(0, _), (2, _), (9, _)] ?_ ⟨rfl, rfl, rfl, trivial⟩
  refine WP.next ?_; refine WP.condF rfl ?_; refine WP.skip (WP.next (WP.seq ?_))
  refine WP.region [0, 1, 2, 3, 4, 5, 6, 7] rfl ?_; refine WP.mv rfl rfl ?_; refine WP.vl rfl (Yld.nilCheck rfl rfl) ?_; refine WP.vl rfl (Yld.fieldAddr rfl ty_fd_122_3 rfl) ?_; refine WP.vl rfl (Yld.ld (v := .int .i64 (g.stop : Int)) rfl ty_sc_3 rfl rfl) ?_; refine WP.vl rfl (Yld.add64 rfl rfl rfl (by have := hg.sb; omega)) ?_; refine WP.vl rfl (Yld.nilCheck rfl rfl) ?_; refine WP.vl rfl (Yld.fieldAddr rfl ty_fd_122_3 rfl) ?_; refine WP.loud rfl rfl ?_; refine Op.s1 rfl rfl ty_sz_3 rfl rfl rfl ?_; refine WP.nil ?_; refine WP.sub [(0, _), (2, _), (9, _)] ?_ ⟨rfl, rfl, rfl, trivial⟩
  refine WP.next (WP.seq ?_)
  refine WP.region [0] rfl ?_; refine WP.mv rfl rfl ?_; refine WP.nil (WP.next (WP.ret ?_))
  refine WP.fn .ret (.inr rfl) (res1 rfl rfl) [(s, row 122 (sgV d ⟨g.slots, g.first, g.stop + 1⟩))] (Imm.le_refl _) ?_; exact ⟨rfl, .inr ⟨by have := hg.fs; omega, rfl, rfl⟩⟩

theorem seg_Release_ok {I : Imm} {s d n : Nat} {g : Sg} {t : Nat} (h1 : g.first ≤ t) (h2 : t ≤ g.stop) : Spec Tryz.prog 139 [.pointer (some ⟨s, 0, none⟩), .int .i64 (t : Int)] I [(s, row 122 (sgV d g))] (fun v J L' => I = J ∧ v = .int .i64 0 ∧ L' = [(s, row 122 (sgV d ⟨g.slots, t, g.stop⟩))]) := by
 refine Spec.of Tryz.func139 rfl Tryz.ntmps139 (Nat.le_of_ble_eq_true rfl) (fun F => ?_)
 try simp only [nf]
 dsimp only [argsEnv]
 refine WP.seq ?_; refine WP.region [0] rfl ?_; refine WP.mv rfl rfl ?_; refine WP.nil (WP.next (WP.seq (WP.seq ?_)))
 refine WP.region [0, 1, 2, 3, 4, 5, 6, 7, 8, 9, 10, 11, 12, 13] rfl ?_; iterate 2 refine WP.mv rfl rfl ?_
 refine WP.vl rfl (Yld.nilCheck rfl rfl) ?_; refine WP.vl rfl (Yld.fieldAddr rfl ty_fd_122_2 rfl) ?_; refine WP.vl rfl (Yld.ld (v := .int .i64 (g.first : Int)) rfl ty_sc_3 rfl rfl) ?_; refine WP.vl rfl (Yld.lss rfl rfl rfl false (decide_eq_false (by omega))) ?_; refine WP.mv rfl rfl ?_; iterate 2 refine WP.valG rfl rfl rfl rfl rfl rfl rfl (Yld.move rfl rfl) ?_
 refine WP.valG rfl rfl rfl rfl rfl rfl rfl (Yld.nilCheck rfl rfl) ?_; refine WP.valG rfl rfl rfl rfl rfl rfl rfl (Yld.fieldAddr rfl ty_fd_122_3 rfl) ?_; refine WP.valG rfl rfl rfl rfl rfl rfl rfl (Yld.ld (v := .int .i64 (g.stop : Int)) rfl ty_sc_3 rfl rfl) ?_; refine WP.valG rfl rfl rfl rfl rfl rfl rfl (Yld.gtr rfl rfl rfl false (decide_eq_false (by omega))) ?_; refine WP.vl rfl (Yld.pickF rfl rfl rfl) ?_; refine WP.nil ?_; refine WP.sub [(0, _), (1, _), (4, _), (18, _)] ?_ ⟨rfl, rfl, rfl, rfl, trivial⟩
 refine WP.next ?_; refine WP.condF rfl ?_; refine WP.skip (WP.next (WP.seq ?_))
 refine WP.region [0, 1, 2, 3, 4] rfl ?_; iterate 2 refine WP.mv rfl rfl ?_
 refine WP.vl rfl (Yld.nilCheck rfl rfl) ?_; refine WP.vl rfl (Yld.fieldAddr rfl ty_fd_122_2 rfl) ?_; refine WP.loud rfl rfl ?_; refine Op.s1 rfl rfl ty_sz_3 rfl rfl rfl ?_; refine WP.nil ?_; refine WP.sub [(0, _), (1, _), (4, _), (18, _)] ?_ ⟨rfl, rfl, rfl, rfl, trivial⟩
 refine WP.next (WP.seq ?_)
 refine WP.region [0] rfl ?_; refine WP.mv rfl rfl ?_; refine WP.nil (WP.next (WP.ret ?_))
 refine WP.fn .ret (.inr rfl) (res1 rfl rfl) [(s, row 122 (sgV d ⟨g.slots, t, g.stop⟩))] (Imm.le_refl _) ?_; exact ⟨rfl, rfl, rfl⟩

theorem seg_Write_ok {I : Imm} {s d n : Nat} {g : Sg} {x : Dk} {L : Chunks} (hd : IsDisk d n x L) (hg : g.ok n) {p : Pt} {v : Value} (hv : SlRd (Im I) v p.data.length 1 (bytesV p.data)) (hwb : x.waits.length + 8192 ≤ 1954687338000) (hm : p.may) : Spec Tryz.prog 134 [.pointer (some ⟨s, 0, none⟩), .agg (ptV p v).toArray] I ((s, row 122 (sgV d g)) :: L) (fun v' J L' => v' = .int .i64 (pwrt x n g p).2 ∧ ∃ Ld, L' = (s, row 122 (sgV d g)) :: Ld ∧ IsDisk d n (pwrt x n g p).1 Ld) := by
 obtain ⟨Av, cv, rfl, _, _, _⟩ := id hv
 refine Spec.of Tryz.func134 rfl Tryz.ntmps134 (Nat.le_of_ble_eq_true rfl) (fun F => ?_)
 try simp only [nf]
 dsimp only [argsEnv]
 refine WP.seq ?_; refine WP.region [0, 1] rfl ?_; refine WP.loud rfl rfl ?_; refine Op.box rfl rfl rfl rfl rfl (fun b3 => ?_)
 refine WP.mv rfl rfl ?_; refine WP.nil (WP.next (WP.seq ?_))
 refine WP.region [0, 1, 2, 3, 4, 5, 6] rfl ?_; refine WP.vl rfl (Yld.lda rfl ty_ag_223 rfl rfl) ?_; refine WP.loud rfl rfl ?_; refine Op.cl (seg_Encode_ok hv hm) rfl Tryz.func148 rfl rfl rfl rfl ?_; rintro v J2 Lo hJ2 ⟨vb, rfl, ho⟩
 try simp only [nf]
 refine WP.mv rfl rfl ?_; iterate 2 refine WP.vl rfl (Yld.extract rfl rfl rfl) ?_
 iterate 2 refine WP.mv rfl rfl ?_
 refine WP.nil ?_; refine WP.sub [(0, _), (1, _), (3, _), (4, _), (5, _), (6, _)] ?_ ⟨rfl, rfl, rfl, rfl, rfl, rfl, trivial⟩
 refine WP.next (WP.seq (WP.block (WP.seq ?_)))
 refine WP.region [0, 1, 2] rfl ?_; refine WP.mv rfl rfl ?_; refine WP.vl rfl (Yld.neq rfl rfl rfl false (decide_eq_false (by omega))) ?_; refine WP.mv rfl rfl ?_; refine WP.nil ?_; refine WP.sub [(0, _), (1, _), (3, _), (4, _), (5, _), (6, _), (12, _)] ?_ ⟨rfl, rfl, rfl, rfl, rfl, rfl, rfl, trivial⟩
 refine WP.next ?_; refine WP.condF rfl ?_; refine WP.seq ?_; refine WP.region [0, 1, 2, 3, 4, 5] rfl ?_; refine WP.mv rfl rfl ?_; refine WP.vl rfl (Yld.fieldAddr rfl ty_fd_223_0 rfl) ?_; refine WP.vl rfl (Yld.ld (v := .int .i64 p.place) rfl ty_sc_3 rfl rfl) ?_; refine WP.loud rfl rfl ?_; refine Op.cl (seg_has (d := d) (p := p.place) hg) rfl Tryz.func149 rfl rfl rfl rfl ?_; rintro v J L1 - ⟨rfl, rfl, rfl⟩
 try simp only [nf]
 by_cases hh : (decide (phas g p.place)) = true
 ·try rw [hh]
  refine WP.vl rfl (Yld.not rfl rfl) ?_; refine WP.mv rfl rfl ?_; refine WP.nil ?_; refine WP.sub [(0, _), (1, _), (3, _), (4, _), (5, _), (6, _), (12, _), (16, _)] ?_ ⟨rfl, rfl, rfl, rfl, rfl, rfl, rfl, rfl, trivial⟩
  refine WP.next ?_; refine WP.condF rfl ?_; refine WP.skip (WP.leave (WP.next (WP.seq ?_)))
  refine WP.shO ho (fun J3 hJ3 hbs => ?_)
  have hpl : p.place = (p.place.toNat : Int) := by have := hm.place; omega
  have hn8 := (disk_ok hd).n2
  refine WQ.start Tryzmixed 9 zK _ rfl [9, 10] rfl ?_; refine WQ.val rfl rfl rfl (Yld.move rfl rfl) ?_; refine WQ.val rfl rfl rfl (Yld.nilCheck rfl rfl) ?_; refine WQ.val rfl rfl rfl (Yld.fieldAddr rfl ty_fd_122_0 rfl) ?_; refine WQ.val rfl rfl rfl (Yld.ld (v := .pointer (some ⟨d, 0, none⟩)) rfl ty_sc_40 rfl rfl) ?_; refine WQ.val rfl rfl rfl (Yld.move rfl rfl) ?_; refine WQ.val rfl rfl rfl (Yld.fieldAddr rfl ty_fd_223_0 rfl) ?_; refine WQ.val rfl rfl rfl (Yld.ld (v := .int .i64 (p.place.toNat : Int)) rfl ty_sc_3 rfl (congrArg (fun z : Int => some (Value.int .i64 z)) hpl)) ?_; refine WQ.call (seg_sector (d := d) (p := p.place.toNat) hg hn8 (by have := hm.place; omega)) (by rintro v' J L1 ⟨rfl, rfl, rfl⟩; exact ⟨rfl, rfl, rfl⟩) rfl Tryz.func150 rfl rfl rfl rfl rfl zT ?_; refine WQ.val rfl rfl rfl (Yld.move rfl rfl) ?_; refine WQ.nil ?_; refine WP.loud rfl rfl ?_; refine Op.cl (disk_Write (at_0 := (psec g p.place.toNat : Int)) hd hbs hwb (by rw [penc_len hm.len.2]; decide)) rfl Tryz.func120 rfl rfl rfl rfl ?_; rintro v J Ld - ⟨rfl, rfl, hd2⟩
  try simp only [nf]
  refine WP.mv rfl rfl ?_; refine WP.nil ?_; refine WP.sub [(0, _), (1, _), (3, _), (4, _), (5, _), (6, _), (12, _), (16, _)] ?_ ⟨rfl, rfl, rfl, rfl, rfl, rfl, rfl, rfl, trivial⟩
  refine WP.next (WP.ret ?_)
  refine WP.fn .ret (.inr rfl) (res1 rfl rfl) ((s, row 122 (sgV d g)) :: Ld) (Imm.le_trans hJ2 hJ3) ?_; have e : pwrt x n g p = x.write n (psec g p.place.toNat : Int) (penc p) := by unfold pwrt; rw [if_pos hm, if_pos (of_decide_eq_true hh)]
  rw [e]; exact ⟨rfl, _, rfl, hd2⟩
 ·have hh : (decide (phas g p.place)) = false := eq_false_of_ne_true hh
  try rw [hh]
  refine WP.vl rfl (Yld.not rfl rfl) ?_; refine WP.mv rfl rfl ?_; refine WP.nil ?_; refine WP.sub [(0, _), (1, _), (3, _), (4, _), (5, _), (6, _), (12, _), (16, _)] ?_ ⟨rfl, rfl, rfl, rfl, rfl, rfl, rfl, rfl, trivial⟩
  refine WP.next ?_; refine WP.condT rfl ?_; refine WP.seq ?_; refine WP.region [0] rfl ?_; refine WP.mv rfl rfl ?_; refine WP.nil (WP.next (WP.ret ?_))
  refine WP.fn .ret (.inr rfl) (res1 rfl rfl) ((s, row 122 (sgV d g)) :: L) hJ2 ?_; have e : pwrt x n g p = (x, 1) := by unfold pwrt; rw [if_pos hm, if_neg (of_decide_eq_false hh)]
  rw [e]; exact ⟨rfl, _, rfl, hd⟩

theorem seg_Write_bad {I : Imm} {s d n : Nat} {g : Sg} {x : Dk} {L : Chunks} (hd : IsDisk d n x L) (hg : g.ok n) {p : Pt} {v : Value} (hv : SlRd (Im I) v p.data.length 1 (bytesV p.data)) (hwb : x.waits.length + 8192 ≤ 1954687338000) (hm : ¬ p.may) : Spec Tryz.prog 134 [.pointer (some ⟨s, 0, none⟩), .agg (ptV p v).toArray] I ((s, row 122 (sgV d g)) :: L) (fun v' J L' => v' = .int .i64 (pwrt x n g p).2 ∧ ∃ Ld, L' = (s, row 122 (sgV d g)) :: Ld ∧ IsDisk d n (pwrt x n g p).1 Ld) := by
 obtain ⟨Av, cv, rfl, _, _, _⟩ := id hv
 refine Spec.of Tryz.func134 rfl Tryz.ntmps134 (Nat.le_of_ble_eq_true rfl) (fun F => ?_)
 try simp only [nf]
 dsimp only [argsEnv]
 refine WP.seq ?_; refine WP.region [0, 1] rfl ?_; refine WP.loud rfl rfl ?_; refine Op.box rfl rfl rfl rfl rfl (fun b3 => ?_)
 refine WP.mv rfl rfl ?_; refine WP.nil (WP.next (WP.seq ?_))
 refine WP.region [0, 1, 2, 3, 4, 5, 6] rfl ?_; refine WP.vl rfl (Yld.lda rfl ty_ag_223 rfl rfl) ?_; refine WP.loud rfl rfl ?_; refine Op.cl (seg_Encode_bad hv hm) rfl Tryz.func148 rfl rfl rfl rfl ?_; rintro v J L1 - ⟨rfl, rfl, rfl⟩
 try simp only [nf]
 refine WP.mv rfl rfl ?_; iterate 2 refine WP.vl rfl (Yld.extract rfl rfl rfl) ?_
 iterate 2 refine WP.mv rfl rfl ?_
 refine WP.nil ?_; refine WP.sub [(0, _), (1, _), (3, _), (4, _), (5, _), (6, _)] ?_ ⟨rfl, rfl, rfl, rfl, rfl, rfl, trivial⟩
 refine WP.next (WP.seq (WP.block (WP.seq ?_)))
 refine WP.region [0, 1, 2] rfl ?_; refine WP.mv rfl rfl ?_; refine WP.vl rfl (Yld.neq rfl rfl rfl true (decide_eq_true (by omega))) ?_; refine WP.mv rfl rfl ?_; refine WP.nil ?_; refine WP.sub [(0, _), (1, _), (3, _), (4, _), (5, _), (6, _), (12, _)] ?_ ⟨rfl, rfl, rfl, rfl, rfl, rfl, rfl, trivial⟩
 refine WP.next ?_; refine WP.condT rfl ?_; refine WP.seq ?_; refine WP.region [0, 1] rfl ?_; iterate 2 refine WP.mv rfl rfl ?_
 refine WP.nil ?_; refine WP.sub [(0, _), (1, _), (3, _), (4, _), (5, _), (6, _), (12, _)] ?_ ⟨rfl, rfl, rfl, rfl, rfl, rfl, rfl, trivial⟩
 refine WP.next (WP.ret ?_)
 refine WP.fn .ret (.inr rfl) (res1 rfl rfl) ((s, row 122 (sgV d g)) :: L) (Imm.le_refl _) ?_; have e : pwrt x n g p = (x, 70) := by unfold pwrt; rw [if_neg hm]
 rw [e]; exact ⟨rfl, _, rfl, hd⟩


theorem seg_Write {I : Imm} {s d n : Nat} {g : Sg} {x : Dk} {L : Chunks} (hd : IsDisk d n x L) (hg : g.ok n) {p : Pt} {v : Value} (hv : SlRd (Im I) v p.data.length 1 (bytesV p.data)) (hwb : x.waits.length + 8192 ≤ 1954687338000) : Spec Tryz.prog 134 [.pointer (some ⟨s, 0, none⟩), .agg (ptV p v).toArray] I ((s, row 122 (sgV d g)) :: L) (fun v' J L' => v' = .int .i64 (pwrt x n g p).2 ∧ ∃ Ld, L' = (s, row 122 (sgV d g)) :: Ld ∧ IsDisk d n (pwrt x n g p).1 Ld) := by
 by_cases hm : p.may
 ·exact seg_Write_ok hd hg hv hwb hm
 ·exact seg_Write_bad hd hg hv hwb hm

structure SX where
 i : Nat
 J : Imm
 vo : Value
 l : List (Pt × Value)
 Lo : Chunks
structure SX.ok (I : Imm) (f : Nat → Pt × Int) (p stop : Nat) (t : SX) : Prop where
 le : p + t.i ≤ stop
 hJ : I.le t.J
 ow : Own 223 6 t.vo (pcells t.l) t.l.length t.Lo
 da : ∀ e ∈ t.l, SlRd (Im t.J) e.2 e.1.data.length 1 (bytesV e.1.data)
 ln : t.l.length = t.i
 eq : scanL f (stop - (p + t.i)) (p + t.i) (t.l.map (·.1)) = scanL f (stop - p) p []
theorem put_get {p s : List UInt8} {a m i : Nat} (hs : s.length = m) (hp : a + m ≤ p.length) (hi : i < a ∨ a + m ≤ i) : (p.take a ++ s ++ p.drop (a + m))[i]? = p[i]? := by
 have h1 : (p.take a).length = a := by simp; omega
 rcases hi with hi | hi
 ·rw [List.append_assoc, List.getElem?_append_left (by omega), List.getElem?_take, if_pos hi]
 ·rw [List.getElem?_append_right (by simp [hs]; omega), List.getElem?_drop]
  congr 1
  simp [hs]; omega


structure On (x : Dk) (n : Nat) : Prop where
 ok : x.ok n
 off : x.off = false
 left : x.left = -1
theorem On.new {n : Nat} (h1 : 1 ≤ n) (h2 : n ≤ 8192) : On (Dk.new n) n := ⟨Dk.new_ok h1 h2, rfl, rfl⟩
theorem puts_on : ∀ (k n : Nat) (x : Dk) (a : Nat) (b : List UInt8), On x n → b.length = 64 * k → a + k ≤ n →
  ∃ y, Dk.puts k x a b = (y, 0) ∧ On y n ∧ y.now = x.now.take (a * 64) ++ b ++ x.now.drop (a * 64 + 64 * k) ∧ y.waits.length = x.waits.length + k
 | 0, n, x, a, b, h, hb, _ => by
  obtain rfl : b = [] := List.eq_nil_of_length_eq_zero (by omega)
  exact ⟨x, rfl, h, by simp, rfl⟩
 | k + 1, n, x, a, b, h, hb, ha => by
  have ht : (b.take 64).length = 64 := by rw [List.length_take]; omega
  have h1 : On (x.write1 a (b.take 64)) n := ⟨Dk.write1_ok h.ok ht (by omega), h.off, by show dec x.left = -1; rw [h.left]; rfl⟩
  obtain ⟨y, e1, e2, e3, e4⟩ := puts_on k n (x.write1 a (b.take 64)) (a + 1) (b.drop 64) h1 (by rw [List.length_drop]; omega) (by omega)
  refine ⟨y, ?_, e2, ?_, ?_⟩
  ·rw [Dk.puts, if_neg (by rw [h.left]; decide)]; exact e1
  ·have hn : (x.write1 a (b.take 64)).now = (x.now.take (a * 64) ++ b.take 64) ++ x.now.drop (a * 64 + 64) := rfl
   have hl : (x.now.take (a * 64) ++ b.take 64).length = (a + 1) * 64 := by rw [List.length_append, List.length_take, ht, h.ok.ln]; omega
   rw [e3, hn, List.take_left' hl, ← List.drop_drop, List.drop_left' hl, List.drop_drop, List.append_assoc (x.now.take _), List.take_append_drop]
   congr 2; omega
  ·rw [e4]; show (x.waits ++ [_]).length + k = _; rw [List.length_append]; simp; omega
def jx (s p : Nat) : Nat := p / 8 % s * 8 + p % 8
theorem psec_jx (g : Sg) (p : Nat) : psec g p = 8 + jx g.slots p * 4 := rfl
theorem mod_ne {a b s : Nat} (h1 : a < b) (h2 : b < a + s) : a % s ≠ b % s := fun e => by
 have h := Nat.sub_mod_eq_zero_of_mod_eq e.symm
 rw [Nat.mod_eq_of_lt (by omega)] at h
 omega
theorem jx_ne' {s p q : Nat} (h1 : p < q) (h2 : q < p + 8 * s) : jx s p ≠ jx s q := fun e => by
 have e1 : p % 8 = q % 8 := by unfold jx at e; omega
 have e2 : p / 8 % s = q / 8 % s := by unfold jx at e; omega
 exact mod_ne (a := p / 8) (b := q / 8) (s := s) (by omega) (by omega) e2
def bl (x : Dk) (j : Nat) : List UInt8 := (x.now.drop ((8 + j * 4) * 64)).take 256
theorem On.read {x : Dk} {n j : Nat} (h : On x n) (hj : 8 + j * 4 + 4 ≤ n) : x.read n ((8 + j * 4 : Nat) : Int) 4 = (bl x j, 0) := by
 unfold Dk.read
 rw [if_neg (by simp [h.off]), if_neg (by omega)]
 rfl
theorem pwrt_on {x : Dk} {n : Nat} {g : Sg} {p : Pt} (h : On x n) (hg : g.ok n) (hm : p.may) (hh : phas g p.place) :
  ∃ y, pwrt x n g p = (y, 0) ∧ On y n ∧ y.waits.length = x.waits.length + 4 ∧ ∀ j, bl y j = if j = jx g.slots p.place.toNat then penc p else bl x j := by
 have hl := penc_len hm.len.2
 have hp := psec_lt hg p.place.toNat
 obtain ⟨y, e1, e2, e3, e4⟩ := puts_on 4 n x (psec g p.place.toNat) (penc p) h (by rw [hl]) hp
 refine ⟨y, ?_, e2, e4, fun j => ?_⟩
 ·unfold pwrt
  rw [if_pos hm, if_pos hh]
  unfold Dk.write
  rw [if_neg (by simp [h.off]), if_neg (by omega), if_neg (by omega), hl]
  exact e1
 ·rw [psec_jx] at e3 hp
  have hln := h.ok.ln
  have e5 : (8 + jx g.slots p.place.toNat * 4) * 64 + 64 * 4 = (8 + jx g.slots p.place.toNat * 4) * 64 + 256 := by omega
  rw [e5] at e3
  have ht : (x.now.take ((8 + jx g.slots p.place.toNat * 4) * 64)).length = (8 + jx g.slots p.place.toNat * 4) * 64 := by rw [List.length_take]; omega
  by_cases hj : j = jx g.slots p.place.toNat
  ·rw [if_pos hj]
   unfold bl
   rw [e3, hj, List.append_assoc, List.drop_append, List.drop_of_length_le (by omega), ht, Nat.sub_self, List.drop_zero, List.nil_append, List.take_append_of_le_length (by omega), List.take_of_length_le (by omega)]
  ·rw [if_neg hj]
   unfold bl
   apply List.ext_getElem?
   intro i
   rw [List.getElem?_take, List.getElem?_take]
   split
   ·rw [List.getElem?_drop, List.getElem?_drop, e3, put_get hl (by omega) (by omega)]
   ·rfl
theorem pstand_on {x : Dk} {n : Nat} {g : Sg} (h : On x n) (hg : g.ok n) (p : Nat) : pstand x n g p = match pdec (bl x (jx g.slots p)) with
  | some r => if r.place = p then (r, 0) else (ptZ, 70)
  | none => (ptZ, 70) := by
 unfold pstand
 rw [psec_jx, h.read (by have := psec_lt hg p; rw [psec_jx] at this; omega), if_neg (by simp)] <;> rfl
end Go.Hp
