import Derived.Test.YtcnfcdlapbjgeaaSegH
import Derived.Test.YtcnfcdlapbjgeaaHpWord
set_option linter.unusedVariables false
set_option linter.unusedSimpArgs false
namespace Go.Hp
open Go Go.Proofs

structure Sg where
 slots : Nat
 first : Nat
 stop : Nat
structure Sg.ok (n : Nat) (g : Sg) : Prop where
 s4 : 4 ≤ g.slots
 sn : g.slots * 32 + 8 ≤ n
 fs : g.first ≤ g.stop
 sb : g.stop ≤ 1099511627776
def sgV (d : Nat) (g : Sg) : List Value := [.pointer (some ⟨d, 0, none⟩), .int .i64 (g.slots : Int), .int .i64 (g.first : Int), .int .i64 (g.stop : Int)]
def psec (g : Sg) (p : Nat) : Nat := 8 + (p / 8 % g.slots * 8 + p % 8) * 4
theorem psec_lt {n : Nat} {g : Sg} (h : g.ok n) (p : Nat) : psec g p + 4 ≤ n := by
 have h1 := Nat.mod_lt (p / 8) (show 0 < g.slots by have := h.s4; omega)
 have h2 := h.sn
 unfold psec; omega
def phas (g : Sg) (p : Int) : Prop := (g.first : Int) * 8 ≤ p ∧ p < (g.stop : Int) * 8
instance (g : Sg) (p : Int) : Decidable (phas g p) := inferInstanceAs (Decidable (_ ∧ _))
def pwrt (x : Dk) (n : Nat) (g : Sg) (p : Pt) : Dk × Int := if p.may then (if phas g p.place then x.write n (psec g p.place.toNat : Int) (penc p) else (x, 1)) else (x, 70)
/-- What stands at a place. -/
def pstand (x : Dk) (n : Nat) (g : Sg) (p : Nat) : Pt × Int :=
 if (x.read n (psec g p : Int) 4).2 ≠ 0 then (ptZ, (x.read n (psec g p : Int) 4).2) else match pdec (x.read n (psec g p : Int) 4).1 with
 | some r => if r.place = p then (r, 0) else (ptZ, 70)
 | none => (ptZ, 70)
def pread (x : Dk) (n : Nat) (g : Sg) (p : Nat) : Pt × Int := if phas g p then pstand x n g p else (ptZ, 1)
def scanL (f : Nat → Pt × Int) : Nat → Nat → List Pt → List Pt
 | 0, _, acc => acc
 | k + 1, p, acc => if (f p).2 ≠ 0 ∨ (acc ≠ [] ∧ (f p).1.era < (acc.getLastD ptZ).era) then acc else scanL f k (p + 1) (acc ++ [(f p).1])
theorem read_256 {x : Dk} {n : Nat} {at_ : Int} (h : x.ok n) (h0 : (x.read n at_ 4).2 = 0) : (x.read n at_ 4).1.length = 256 := by
 unfold Dk.read at h0 ⊢
 split at h0
 ·simp at h0
 ·split at h0
  ·simp at h0
  ·rename_i h1 h2
   rw [if_neg h1, if_neg h2]
   have := h.ln
   simp only [List.length_take, List.length_drop]
   omega
theorem disk_ok {d n : Nat} {x : Dk} {L : Chunks} (h : IsDisk d n x L) : x.ok n := by cases h with | mk ok ow => exact ok
theorem seg_Slots {I : Imm} {s d n : Nat} {g : Sg} : Spec Try.prog 45 [.pointer (some ⟨s, 0, none⟩)] I [(s, row 108 (sgV d g))] (fun v J L' => v = .int .i64 (g.slots : Int) ∧ I = J ∧ [(s, row 108 (sgV d g))] = L') := by
 refine Spec.of Try.func45 rfl Try.ntmps45 (Nat.le_of_ble_eq_true rfl) (fun F => ?_)
 try simp only [nf]
 dsimp only [argsEnv]
 refine WP.seq ?_
 refine WP.region [0] rfl ?_
 refine WP.mv rfl rfl ?_
 refine WP.nil ?_
 refine WP.next ?_
 refine WP.seq ?_
 refine WP.region [0, 1, 2, 3, 4] rfl ?_
 refine WP.mv rfl rfl ?_
 refine WP.vl rfl (Yld.nilCheck rfl rfl) ?_
 refine WP.vl rfl (Yld.fieldAddr rfl ty_fd_108_1 rfl) ?_
 refine WP.vl rfl (Yld.ld (v := .int .i64 (g.slots : Int)) rfl ty_sc_3 rfl rfl) ?_
 refine WP.mv rfl rfl ?_
 refine WP.nil ?_
 refine WP.sub [(0, _), (2, _)] ?_ ⟨rfl, rfl, trivial⟩
 refine WP.next ?_
 refine WP.ret ?_
 refine WP.fn .ret (.inr rfl) (res1 rfl rfl) [(s, row 108 (sgV d g))] (Imm.le_refl _) ?_
 exact ⟨rfl, rfl, rfl⟩

theorem seg_First {I : Imm} {s d n : Nat} {g : Sg} : Spec Try.prog 44 [.pointer (some ⟨s, 0, none⟩)] I [(s, row 108 (sgV d g))] (fun v J L' => v = .int .i64 (g.first : Int) ∧ I = J ∧ [(s, row 108 (sgV d g))] = L') := by
 refine Spec.of Try.func44 rfl Try.ntmps44 (Nat.le_of_ble_eq_true rfl) (fun F => ?_)
 try simp only [nf]
 dsimp only [argsEnv]
 refine WP.seq ?_
 refine WP.region [0] rfl ?_
 refine WP.mv rfl rfl ?_
 refine WP.nil ?_
 refine WP.next ?_
 refine WP.seq ?_
 refine WP.region [0, 1, 2, 3, 4] rfl ?_
 refine WP.mv rfl rfl ?_
 refine WP.vl rfl (Yld.nilCheck rfl rfl) ?_
 refine WP.vl rfl (Yld.fieldAddr rfl ty_fd_108_2 rfl) ?_
 refine WP.vl rfl (Yld.ld (v := .int .i64 (g.first : Int)) rfl ty_sc_3 rfl rfl) ?_
 refine WP.mv rfl rfl ?_
 refine WP.nil ?_
 refine WP.sub [(0, _), (2, _)] ?_ ⟨rfl, rfl, trivial⟩
 refine WP.next ?_
 refine WP.ret ?_
 refine WP.fn .ret (.inr rfl) (res1 rfl rfl) [(s, row 108 (sgV d g))] (Imm.le_refl _) ?_
 exact ⟨rfl, rfl, rfl⟩

theorem seg_End {I : Imm} {s d n : Nat} {g : Sg} : Spec Try.prog 23 [.pointer (some ⟨s, 0, none⟩)] I [(s, row 108 (sgV d g))] (fun v J L' => v = .int .i64 (g.stop : Int) ∧ I = J ∧ [(s, row 108 (sgV d g))] = L') := by
 refine Spec.of Try.func23 rfl Try.ntmps23 (Nat.le_of_ble_eq_true rfl) (fun F => ?_)
 try simp only [nf]
 dsimp only [argsEnv]
 refine WP.seq ?_
 refine WP.region [0] rfl ?_
 refine WP.mv rfl rfl ?_
 refine WP.nil ?_
 refine WP.next ?_
 refine WP.seq ?_
 refine WP.region [0, 1, 2, 3, 4] rfl ?_
 refine WP.mv rfl rfl ?_
 refine WP.vl rfl (Yld.nilCheck rfl rfl) ?_
 refine WP.vl rfl (Yld.fieldAddr rfl ty_fd_108_3 rfl) ?_
 refine WP.vl rfl (Yld.ld (v := .int .i64 (g.stop : Int)) rfl ty_sc_3 rfl rfl) ?_
 refine WP.mv rfl rfl ?_
 refine WP.nil ?_
 refine WP.sub [(0, _), (2, _)] ?_ ⟨rfl, rfl, trivial⟩
 refine WP.next ?_
 refine WP.ret ?_
 refine WP.fn .ret (.inr rfl) (res1 rfl rfl) [(s, row 108 (sgV d g))] (Imm.le_refl _) ?_
 exact ⟨rfl, rfl, rfl⟩

theorem seg_Used {I : Imm} {s d n : Nat} {g : Sg} (hg : g.ok n) : Spec Try.prog 66 [.pointer (some ⟨s, 0, none⟩)] I [(s, row 108 (sgV d g))] (fun v J L' => v = .int .i64 ((g.stop : Int) - (g.first : Int)) ∧ I = J ∧ [(s, row 108 (sgV d g))] = L') := by
 refine Spec.of Try.func66 rfl Try.ntmps66 (Nat.le_of_ble_eq_true rfl) (fun F => ?_)
 try simp only [nf]
 dsimp only [argsEnv]
 refine WP.seq ?_
 refine WP.region [0] rfl ?_
 refine WP.mv rfl rfl ?_
 refine WP.nil ?_
 refine WP.next ?_
 refine WP.seq ?_
 refine WQ.startAll Trymixed (by kernel_rfl) _ rfl ?_
 refine WQ.val rfl rfl rfl (Yld.move rfl rfl) ?_
 refine WQ.val rfl rfl rfl (Yld.nilCheck rfl rfl) ?_
 refine WQ.val rfl rfl rfl (Yld.fieldAddr rfl ty_fd_108_3 rfl) ?_
 refine WQ.val rfl rfl rfl (Yld.ld (v := .int .i64 (g.stop : Int)) rfl ty_sc_3 rfl rfl) ?_
 refine WQ.val rfl rfl rfl (Yld.move rfl rfl) ?_
 refine WQ.val rfl rfl rfl (Yld.nilCheck rfl rfl) ?_
 refine WQ.val rfl rfl rfl (Yld.fieldAddr rfl ty_fd_108_2 rfl) ?_
 refine WQ.val rfl rfl rfl (Yld.ld (v := .int .i64 (g.first : Int)) rfl ty_sc_3 rfl rfl) ?_
 refine WQ.val rfl rfl rfl (Yld.sub64 rfl rfl rfl (by have := hg.sb; have := hg.fs; omega)) ?_
 refine WQ.val rfl rfl rfl (Yld.assign rfl rfl) ?_
 refine WQ.nil ?_
 refine WP.sub [(0, _), (2, _)] ?_ ⟨rfl, rfl, trivial⟩
 refine WP.next ?_
 refine WP.ret ?_
 refine WP.fn .ret (.inr rfl) (res1 rfl rfl) [(s, row 108 (sgV d g))] (Imm.le_refl _) ?_
 exact ⟨rfl, rfl, rfl⟩

theorem seg_has {I : Imm} {s d n : Nat} {g : Sg} {p : Int} (hg : g.ok n) : Spec Try.prog 41 [.pointer (some ⟨s, 0, none⟩), .int .i64 p] I [(s, row 108 (sgV d g))] (fun v J L' => v = .bool (decide (phas g p)) ∧ I = J ∧ [(s, row 108 (sgV d g))] = L') := by
 refine Spec.of Try.func41 rfl Try.ntmps41 (Nat.le_of_ble_eq_true rfl) (fun F => ?_)
 try simp only [nf]
 dsimp only [argsEnv]
 refine WP.seq ?_
 refine WP.region [0] rfl ?_
 refine WP.mv rfl rfl ?_
 refine WP.nil ?_
 refine WP.next ?_
 refine WP.seq ?_
 refine WP.region [0, 1, 2, 3, 4, 5, 6, 7, 8, 9, 10, 11, 12, 13, 14, 15, 16] rfl ?_
 iterate 2 refine WP.mv rfl rfl ?_
 refine WP.vl rfl (Yld.nilCheck rfl rfl) ?_
 refine WP.vl rfl (Yld.fieldAddr rfl ty_fd_108_2 rfl) ?_
 refine WP.vl rfl (Yld.ld (v := .int .i64 (g.first : Int)) rfl ty_sc_3 rfl rfl) ?_
 refine WP.vl rfl (Yld.mul64 rfl rfl rfl (by have := hg.sb; have := hg.fs; omega)) ?_
 refine WP.split rfl rfl rfl rfl (Yld.geq rfl rfl rfl) (fun h1 => ?_) (fun h1 => ?_)
 ·refine WP.mv rfl rfl ?_
  refine WP.valG rfl rfl rfl rfl rfl rfl rfl (Yld.move rfl rfl) ?_
  refine WP.valG rfl rfl rfl rfl rfl rfl rfl (Yld.move rfl rfl) ?_
  refine WP.valG rfl rfl rfl rfl rfl rfl rfl (Yld.nilCheck rfl rfl) ?_
  refine WP.valG rfl rfl rfl rfl rfl rfl rfl (Yld.fieldAddr rfl ty_fd_108_3 rfl) ?_
  refine WP.valG rfl rfl rfl rfl rfl rfl rfl (Yld.ld (v := .int .i64 (g.stop : Int)) rfl ty_sc_3 rfl rfl) ?_
  refine WP.valG rfl rfl rfl rfl rfl rfl rfl (Yld.mul64 rfl rfl rfl (by have := hg.sb; omega)) ?_
  refine WP.splitG rfl rfl rfl rfl rfl rfl rfl (Yld.lss rfl rfl rfl) (fun h2 => ?_) (fun h2 => ?_)
  ·refine WP.vl rfl (Yld.pickT rfl rfl rfl) ?_
   refine WP.mv rfl rfl ?_
   refine WP.nil ?_
   refine WP.sub [(0, _), (1, _), (4, _)] ?_ ⟨rfl, rfl, rfl, trivial⟩
   refine WP.next ?_
   refine WP.ret ?_
   refine WP.fn .ret (.inr rfl) (res1 rfl rfl) [(s, row 108 (sgV d g))] (Imm.le_refl _) ?_
   exact ⟨congrArg Value.bool (by unfold phas; exact (decide_eq_true ⟨by omega, by omega⟩).symm), rfl, rfl⟩
  ·refine WP.vl rfl (Yld.pickT rfl rfl rfl) ?_
   refine WP.mv rfl rfl ?_
   refine WP.nil ?_
   refine WP.sub [(0, _), (1, _), (4, _)] ?_ ⟨rfl, rfl, rfl, trivial⟩
   refine WP.next ?_
   refine WP.ret ?_
   refine WP.fn .ret (.inr rfl) (res1 rfl rfl) [(s, row 108 (sgV d g))] (Imm.le_refl _) ?_
   exact ⟨congrArg Value.bool (by unfold phas; exact (decide_eq_false (fun h => by omega)).symm), rfl, rfl⟩
 ·refine WP.mv rfl rfl ?_
  refine WP.passG rfl rfl rfl rfl rfl rfl rfl rfl ?_
  refine WP.passG rfl rfl rfl rfl rfl rfl rfl rfl ?_
  refine WP.passG rfl rfl rfl rfl rfl rfl rfl rfl ?_
  refine WP.passG rfl rfl rfl rfl rfl rfl rfl rfl ?_
  refine WP.passG rfl rfl rfl rfl rfl rfl rfl rfl ?_
  refine WP.passG rfl rfl rfl rfl rfl rfl rfl rfl ?_
  refine WP.passG rfl rfl rfl rfl rfl rfl rfl rfl ?_
  refine WP.vl rfl (Yld.pickF rfl rfl rfl) ?_
  refine WP.mv rfl rfl ?_
  refine WP.nil ?_
  refine WP.sub [(0, _), (1, _), (4, _)] ?_ ⟨rfl, rfl, rfl, trivial⟩
  refine WP.next ?_
  refine WP.ret ?_
  refine WP.fn .ret (.inr rfl) (res1 rfl rfl) [(s, row 108 (sgV d g))] (Imm.le_refl _) ?_
  exact ⟨congrArg Value.bool (by unfold phas; exact (decide_eq_false (fun h => by omega)).symm), rfl, rfl⟩

theorem seg_sector {I : Imm} {s d n : Nat} {g : Sg} {p : Nat} (hg : g.ok n) (hn : n ≤ 8192) (hp : p ≤ 1152921504606846976) : Spec Try.prog 54 [.pointer (some ⟨s, 0, none⟩), .int .i64 (p : Int)] I [(s, row 108 (sgV d g))] (fun v J L' => v = .int .i64 (psec g p : Int) ∧ I = J ∧ [(s, row 108 (sgV d g))] = L') := by
 refine Spec.of Try.func54 rfl Try.ntmps54 (Nat.le_of_ble_eq_true rfl) (fun F => ?_)
 try simp only [nf]
 dsimp only [argsEnv]
 refine WP.seq ?_
 refine WP.region [0] rfl ?_
 refine WP.mv rfl rfl ?_
 refine WP.nil ?_
 refine WP.next ?_
 refine WP.seq ?_
 refine WP.region [0, 1, 2, 3, 4, 5, 6, 7] rfl ?_
 refine WP.mv rfl rfl ?_
 refine WP.vl rfl (Yld.quo64 rfl rfl rfl (by omega)) ?_
 refine WP.mv rfl rfl ?_
 refine WP.vl rfl (Yld.nilCheck rfl rfl) ?_
 refine WP.vl rfl (Yld.fieldAddr rfl ty_fd_108_1 rfl) ?_
 refine WP.vl rfl (Yld.ld (v := .int .i64 (g.slots : Int)) rfl ty_sc_3 rfl rfl) ?_
 refine WP.vl rfl (Yld.rem64 rfl rfl rfl ⟨by omega, by have := hg.s4; omega⟩) ?_
 rw [show ((p : Int) / 8 % (g.slots : Int)) = ((p / 8 % g.slots : Nat) : Int) from rfl]
 have hml := Nat.mod_lt (p / 8) (show 0 < g.slots by have := hg.s4; omega)
 have hsl : g.slots ≤ 256 := by have := hg.sn; omega
 refine WP.mv rfl rfl ?_
 refine WP.nil ?_
 refine WP.sub [(0, _), (1, _), (4, _), (5, _)] ?_ ⟨rfl, rfl, rfl, rfl, trivial⟩
 refine WP.next ?_
 refine WP.seq ?_
 refine WP.region [0, 1, 2, 3, 4, 5, 6, 7] rfl ?_
 refine WP.mv rfl rfl ?_
 refine WP.vl rfl (Yld.mul64 rfl rfl rfl (by omega)) ?_
 refine WP.mv rfl rfl ?_
 refine WP.vl rfl (Yld.rem64 rfl rfl rfl (by omega)) ?_
 refine WP.vl rfl (Yld.add64 rfl rfl rfl (by omega)) ?_
 refine WP.vl rfl (Yld.mul64 rfl rfl rfl (by omega)) ?_
 refine WP.vl rfl (Yld.add64 rfl rfl rfl (by omega)) ?_
 refine WP.mv rfl rfl ?_
 refine WP.nil ?_
 refine WP.sub [(0, _), (1, _), (4, _), (5, _)] ?_ ⟨rfl, rfl, rfl, rfl, trivial⟩
 refine WP.next ?_
 refine WP.ret ?_
 refine WP.fn .ret (.inr rfl) (res1 rfl rfl) [(s, row 108 (sgV d g))] (Imm.le_refl _) ?_
 exact ⟨congrArg (fun z : Int => Value.int .i64 z) (by unfold psec; omega), rfl, rfl⟩

theorem seg_New_ok {I : Imm} {d n f e : Nat} {x : Dk} {L : Chunks} (hd : IsDisk d n x L) (hs : 136 ≤ n) (h1 : f ≤ e) (h2 : e ≤ 68719476736) (h3 : e - f ≤ (n - 8) / 32) : Spec Try.prog 22 [.pointer (some ⟨d, 0, none⟩), .int .i64 (f : Int), .int .i64 (e : Int)] I L (fun v J L' => I = J ∧ ∃ s, v = .tuple #[.pointer (some ⟨s, 0, none⟩), .int .i64 0] ∧ L' = (s, row 108 (sgV d ⟨(n - 8) / 32, f, e⟩)) :: L) := by
 refine Spec.of Try.func22 rfl Try.ntmps22 (Nat.le_of_ble_eq_true rfl) (fun F => ?_)
 try simp only [nf]
 dsimp only [argsEnv]
 refine WP.seq ?_
 refine WP.region [0, 1] rfl ?_
 iterate 2 refine WP.mv rfl rfl ?_
 refine WP.nil ?_
 refine WP.next ?_
 refine WP.seq ?_
 refine WP.region [0, 1, 2, 3, 4, 5] rfl ?_
 refine WP.mv rfl rfl ?_
 refine WP.loud rfl rfl ?_
 refine Op.cl (disk_Sectors hd) rfl Try.func43 rfl rfl rfl rfl ?_
 rintro v J L - ⟨rfl, rfl, rfl⟩
 try simp only [nf]
 refine WP.vl rfl (Yld.sub64 rfl rfl rfl (by have := (disk_ok hd).n2; omega)) ?_
 refine WP.vl rfl (Yld.max2 rfl rfl rfl ((n - 8 : Nat) : Int) (by split <;> omega)) ?_
 refine WP.vl rfl (Yld.quo64 rfl rfl rfl (by have := (disk_ok hd).n2; omega)) ?_
 rw [show ((n - 8 : Nat) : Int) / 32 = (((n - 8) / 32 : Nat) : Int) by omega]
 refine WP.mv rfl rfl ?_
 refine WP.nil ?_
 refine WP.sub [(0, _), (1, _), (2, _), (6, _), (7, _), (8, _)] ?_ ⟨rfl, rfl, rfl, rfl, rfl, rfl, trivial⟩
 refine WP.next ?_
 refine WP.seq ?_
 refine WP.seq ?_
 refine WP.region [0, 1, 2, 3, 4, 5, 6, 7, 8, 9, 10, 11, 12, 13, 14, 15, 16, 17, 18, 19, 20, 21] rfl ?_
 refine WP.mv rfl rfl ?_
 refine WP.vl rfl (Yld.lss rfl rfl rfl false (decide_eq_false (by omega))) ?_
 refine WP.mv rfl rfl ?_
 refine WP.valG rfl rfl rfl rfl rfl rfl rfl (Yld.move rfl rfl) ?_
 refine WP.valG rfl rfl rfl rfl rfl rfl rfl (Yld.lss rfl rfl rfl false (decide_eq_false (by omega))) ?_
 refine WP.vl rfl (Yld.pickF rfl rfl rfl) ?_
 refine WP.mv rfl rfl ?_
 refine WP.valG rfl rfl rfl rfl rfl rfl rfl (Yld.move rfl rfl) ?_
 refine WP.valG rfl rfl rfl rfl rfl rfl rfl (Yld.move rfl rfl) ?_
 refine WP.valG rfl rfl rfl rfl rfl rfl rfl (Yld.lss rfl rfl rfl false (decide_eq_false (by omega))) ?_
 refine WP.vl rfl (Yld.pickF rfl rfl rfl) ?_
 refine WP.mv rfl rfl ?_
 refine WP.valG rfl rfl rfl rfl rfl rfl rfl (Yld.move rfl rfl) ?_
 refine WP.valG rfl rfl rfl rfl rfl rfl rfl (Yld.gtr rfl rfl rfl false (decide_eq_false (by omega))) ?_
 refine WP.vl rfl (Yld.pickF rfl rfl rfl) ?_
 refine WP.mv rfl rfl ?_
 refine WP.valG rfl rfl rfl rfl rfl rfl rfl (Yld.move rfl rfl) ?_
 refine WP.valG rfl rfl rfl rfl rfl rfl rfl (Yld.move rfl rfl) ?_
 refine WP.valG rfl rfl rfl rfl rfl rfl rfl (Yld.sub64 rfl rfl rfl (by omega)) ?_
 refine WP.valG rfl rfl rfl rfl rfl rfl rfl (Yld.move rfl rfl) ?_
 refine WP.valG rfl rfl rfl rfl rfl rfl rfl (Yld.gtr rfl rfl rfl false (decide_eq_false (by omega))) ?_
 refine WP.vl rfl (Yld.pickF rfl rfl rfl) ?_
 refine WP.nil ?_
 refine WP.sub [(0, _), (1, _), (2, _), (6, _), (7, _), (8, _), (35, _)] ?_ ⟨rfl, rfl, rfl, rfl, rfl, rfl, rfl, trivial⟩
 refine WP.next ?_
 refine WP.condF rfl ?_
 refine WP.skip ?_
 refine WP.next ?_
 refine WP.seq ?_
 refine WP.region [0, 1, 2, 3, 4, 5, 6, 7] rfl ?_
 iterate 4 refine WP.mv rfl rfl ?_
 refine WP.vl rfl (Yld.buildS (pl := [(0, 0, 1), (1, 1, 1), (2, 2, 1), (3, 3, 1)]) rfl ty_zr_108 ty_zd_108 (by kernel_rfl) rfl (vs := [_, _, _, _]) rfl (segs := [(0, [_]), (1, [_]), (2, [_]), (3, [_])]) rfl rfl (.one .zero (.one (.succ .zero) (.one (.succ (.succ .zero)) (.one (.succ (.succ (.succ .zero))) .nil))))) ?_
 refine WP.loud rfl rfl ?_
 refine Op.box rfl rfl rfl rfl rfl (fun s => ?_)
 iterate 2 refine WP.mv rfl rfl ?_
 refine WP.nil ?_
 refine WP.sub [(0, _), (1, _), (2, _), (6, _), (7, _), (8, _), (35, _)] ?_ ⟨rfl, rfl, rfl, rfl, rfl, rfl, rfl, trivial⟩
 refine WP.next ?_
 refine WP.ret ?_
 refine WP.fn .ret (.inr rfl) (res2 rfl rfl rfl) ((s, row 108 (sgV d ⟨(n - 8) / 32, f, e⟩)) :: L) (Imm.le_refl _) ?_
 exact ⟨rfl, s, rfl, rfl⟩

theorem seg_Grow {I : Imm} {s d n : Nat} {g : Sg} (hg : g.ok n) : Spec Try.prog 59 [.pointer (some ⟨s, 0, none⟩)] I [(s, row 108 (sgV d g))] (fun v J L' => I = J ∧ ((g.stop - g.first = g.slots ∧ v = .int .i64 3 ∧ L' = [(s, row 108 (sgV d g))]) ∨ (¬ g.stop - g.first = g.slots ∧ v = .int .i64 0 ∧ L' = [(s, row 108 (sgV d ⟨g.slots, g.first, g.stop + 1⟩))]))) := by
 refine Spec.of Try.func59 rfl Try.ntmps59 (Nat.le_of_ble_eq_true rfl) (fun F => ?_)
 try simp only [nf]
 dsimp only [argsEnv]
 refine WP.seq ?_
 refine WP.region [0] rfl ?_
 refine WP.mv rfl rfl ?_
 refine WP.nil ?_
 refine WP.next ?_
 refine WP.seq ?_
 refine WP.seq ?_
 refine WQ.startAll Trymixed (by kernel_rfl) _ rfl ?_
 refine WQ.val rfl rfl rfl (Yld.move rfl rfl) ?_
 refine WQ.call (seg_Used hg) (by rintro v' J L1 ⟨rfl, rfl, rfl⟩; exact ⟨rfl, rfl, rfl⟩) rfl Try.func66 rfl rfl rfl rfl rfl (by repeat (first | exact Take.nil | with_reducible apply Take.cons | apply Take.app | exact Rm.chunk | exact Rm.here | exact Rm.nil0 | apply Rm.skip | apply Rm.skipS | (focus (apply Take.all; (repeat (first | exact Rm.chunk | exact Rm.here | exact Rm.nil0 | apply Rm.skip | apply Rm.skipS)); done)) | apply Take.cons)) ?_
 refine WQ.val rfl rfl rfl (Yld.move rfl rfl) ?_
 refine WQ.val rfl rfl rfl (Yld.nilCheck rfl rfl) ?_
 refine WQ.val rfl rfl rfl (Yld.fieldAddr rfl ty_fd_108_1 rfl) ?_
 refine WQ.val rfl rfl rfl (Yld.ld (v := .int .i64 (g.slots : Int)) rfl ty_sc_3 rfl rfl) ?_
 refine WQ.split rfl rfl rfl (Yld.eql rfl rfl rfl) (fun hf => ?_) (fun hf => ?_)
 ·refine WQ.nil ?_
  refine WP.sub [(0, _), (2, _), (9, _)] ?_ ⟨rfl, rfl, rfl, trivial⟩
  refine WP.next ?_
  refine WP.condT rfl ?_
  refine WP.seq ?_
  refine WP.region [0] rfl ?_
  refine WP.mv rfl rfl ?_
  refine WP.nil ?_
  refine WP.next ?_
  refine WP.ret ?_
  refine WP.fn .ret (.inr rfl) (res1 rfl rfl) [(s, row 108 (sgV d g))] (Imm.le_refl _) ?_
  exact ⟨rfl, .inl ⟨by have := hg.fs; omega, rfl, rfl⟩⟩
 ·refine WQ.nil ?_
  refine WP.sub [(0, _), (2, _), (9, _)] ?_ ⟨rfl, rfl, rfl, trivial⟩
  refine WP.next ?_
  refine WP.condF rfl ?_
  refine WP.skip ?_
  refine WP.next ?_
  refine WP.seq ?_
  refine WP.region [0, 1, 2, 3, 4, 5, 6, 7] rfl ?_
  refine WP.mv rfl rfl ?_
  refine WP.vl rfl (Yld.nilCheck rfl rfl) ?_
  refine WP.vl rfl (Yld.fieldAddr rfl ty_fd_108_3 rfl) ?_
  refine WP.vl rfl (Yld.ld (v := .int .i64 (g.stop : Int)) rfl ty_sc_3 rfl rfl) ?_
  refine WP.vl rfl (Yld.add64 rfl rfl rfl (by have := hg.sb; omega)) ?_
  refine WP.vl rfl (Yld.nilCheck rfl rfl) ?_
  refine WP.vl rfl (Yld.fieldAddr rfl ty_fd_108_3 rfl) ?_
  refine WP.loud rfl rfl ?_
  refine Op.s1 rfl rfl ty_sz_3 rfl rfl rfl ?_
  refine WP.nil ?_
  refine WP.sub [(0, _), (2, _), (9, _)] ?_ ⟨rfl, rfl, rfl, trivial⟩
  refine WP.next ?_
  refine WP.seq ?_
  refine WP.region [0] rfl ?_
  refine WP.mv rfl rfl ?_
  refine WP.nil ?_
  refine WP.next ?_
  refine WP.ret ?_
  refine WP.fn .ret (.inr rfl) (res1 rfl rfl) [(s, row 108 (sgV d ⟨g.slots, g.first, g.stop + 1⟩))] (Imm.le_refl _) ?_
  exact ⟨rfl, .inr ⟨by have := hg.fs; omega, rfl, rfl⟩⟩


end Go.Hp
