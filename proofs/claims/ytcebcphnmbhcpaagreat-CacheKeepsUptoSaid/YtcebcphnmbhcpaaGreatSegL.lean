import Derived.Test.YtcebcphnmbhcpaaGreatSegG
import Derived.Test.YtcebcphnmbhcpaaGreatHpWord
set_option linter.unusedVariables false
set_option linter.unusedSimpArgs false
namespace Go.Hp
open Go Go.Proofs

structure pgood (f : Pt) (n i : Nat) (p : Pt) : Prop where
 may : p.may
 index : p.index = i
 parts : p.parts = n
 no : p.no = f.no
 era : p.era = f.era
 place : p.place = f.place + i
instance (f : Pt) (n i : Nat) (p : Pt) : Decidable (pgood f n i p) := decidable_of_iff (p.may ∧ p.index = i ∧ p.parts = n ∧ p.no = f.no ∧ p.era = f.era ∧ p.place = f.place + i) ⟨fun h => ⟨h.1, h.2.1, h.2.2.1, h.2.2.2.1, h.2.2.2.2.1, h.2.2.2.2.2⟩, fun h => ⟨h.may, h.index, h.parts, h.no, h.era, h.place⟩⟩
theorem ptV_one {p : Pt} {v : Value} (h : ∃ A n c, v = .slice A n c) : (ptV p v).all (·.oneCell') = true := by obtain ⟨_, _, _, rfl⟩ := h; rfl
structure Sg where
 slots : Nat
 first : Nat
 stop : Nat
structure Sg.ok (n : Nat) (g : Sg) : Prop where
 s4 : 4 ≤ g.slots
 sn : g.slots * 32 + 8 ≤ n
 fs : g.first ≤ g.stop
 sb : g.stop ≤ 1099511627776
def sgV (d : Nat) (g : Sg) : List Value := [.pointer (some ⟨d, 0, none⟩), .int .i64 (g.slots : Int), .int .i64 (g.first : Int), .int .i64 (g.stop : Int)]
def phas (g : Sg) (p : Int) : Prop := (g.first : Int) * 8 ≤ p ∧ p < (g.stop : Int) * 8
instance (g : Sg) (p : Int) : Decidable (phas g p) := inferInstanceAs (Decidable (_ ∧ _))
def scanL (f : Nat → Pt × Int) : Nat → Nat → List Pt → List Pt
 | 0, _, acc => acc
 | k + 1, p, acc => if (f p).2 ≠ 0 ∨ (acc ≠ [] ∧ (f p).1.era < (acc.getLastD ptZ).era) then acc else scanL f k (p + 1) (acc ++ [(f p).1])
theorem disk_ok {d n : Nat} {x : Dk} {L : Chunks} (h : IsDisk d n x L) : x.ok n := by cases h with | mk ok ow => exact ok
theorem seg_Slots {I : Imm} {s d n : Nat} {g : Sg} : Spec Tryz.prog 51 [.pointer (some ⟨s, 0, none⟩)] I [(s, row 130 (sgV d g))] (fun v J L' => v = .int .i64 (g.slots : Int) ∧ I = J ∧ [(s, row 130 (sgV d g))] = L') := by
 refine Spec.of Tryz.func51 rfl Tryz.ntmps51 (Nat.le_of_ble_eq_true rfl) (fun F => ?_)
 try simp only [nf]
 dsimp only [argsEnv]
 refine WP.seq ?_; refine WP.region [0] rfl ?_; refine WP.mv rfl rfl ?_; refine WP.nil (WP.next (WP.seq ?_))
 refine WP.region [0, 1, 2, 3, 4] rfl ?_; refine WP.mv rfl rfl ?_; refine WP.vl rfl (Yld.nilCheck rfl rfl) ?_; refine WP.vl rfl (Yld.fieldAddr rfl ty_fd_130_1 rfl) ?_; refine WP.vl rfl (Yld.ld (v := .int .i64 (g.slots : Int)) rfl ty_sc_3 rfl rfl) ?_; refine WP.mv rfl rfl ?_; refine WP.nil ?_; refine WP.sub [(0, _), (2, _)] ?_ ⟨rfl, rfl, trivial⟩
 refine WP.next (WP.ret ?_)
 refine WP.fn .ret (.inr rfl) (res1 rfl rfl) [(s, row 130 (sgV d g))] (Imm.le_refl _) ?_; exact ⟨rfl, rfl, rfl⟩

theorem seg_First {I : Imm} {s d n : Nat} {g : Sg} : Spec Tryz.prog 50 [.pointer (some ⟨s, 0, none⟩)] I [(s, row 130 (sgV d g))] (fun v J L' => v = .int .i64 (g.first : Int) ∧ I = J ∧ [(s, row 130 (sgV d g))] = L') := by
 refine Spec.of Tryz.func50 rfl Tryz.ntmps50 (Nat.le_of_ble_eq_true rfl) (fun F => ?_)
 try simp only [nf]
 dsimp only [argsEnv]
 refine WP.seq ?_; refine WP.region [0] rfl ?_; refine WP.mv rfl rfl ?_; refine WP.nil (WP.next (WP.seq ?_))
 refine WP.region [0, 1, 2, 3, 4] rfl ?_; refine WP.mv rfl rfl ?_; refine WP.vl rfl (Yld.nilCheck rfl rfl) ?_; refine WP.vl rfl (Yld.fieldAddr rfl ty_fd_130_2 rfl) ?_; refine WP.vl rfl (Yld.ld (v := .int .i64 (g.first : Int)) rfl ty_sc_3 rfl rfl) ?_; refine WP.mv rfl rfl ?_; refine WP.nil ?_; refine WP.sub [(0, _), (2, _)] ?_ ⟨rfl, rfl, trivial⟩
 refine WP.next (WP.ret ?_)
 refine WP.fn .ret (.inr rfl) (res1 rfl rfl) [(s, row 130 (sgV d g))] (Imm.le_refl _) ?_; exact ⟨rfl, rfl, rfl⟩

theorem seg_New_ok {I : Imm} {d n f e : Nat} {x : Dk} {L : Chunks} (hd : IsDisk d n x L) (hs : 136 ≤ n) (h1 : f ≤ e) (h2 : e ≤ 68719476736) (h3 : e - f ≤ (n - 8) / 32) : Spec Tryz.prog 26 [.pointer (some ⟨d, 0, none⟩), .int .i64 (f : Int), .int .i64 (e : Int)] I L (fun v J L' => I = J ∧ ∃ s, v = .tuple #[.pointer (some ⟨s, 0, none⟩), .int .i64 0] ∧ L' = (s, row 130 (sgV d ⟨(n - 8) / 32, f, e⟩)) :: L) := by
 refine Spec.of Tryz.func26 rfl Tryz.ntmps26 (Nat.le_of_ble_eq_true rfl) (fun F => ?_)
 try simp only [nf]
 dsimp only [argsEnv]
 refine WP.seq ?_; refine WP.region [0, 1] rfl ?_; iterate 2 refine WP.mv rfl rfl ?_
 refine WP.nil (WP.next (WP.seq ?_))
 refine WP.region [0, 1, 2, 3, 4, 5] rfl ?_; refine WP.mv rfl rfl ?_; refine WP.loud rfl rfl ?_; refine Op.cl (disk_Sectors hd) rfl Tryz.func48 rfl rfl rfl rfl ?_; rintro v J L - ⟨rfl, rfl, rfl⟩
 try simp only [nf]
 refine WP.vl rfl (Yld.sub64 rfl rfl rfl (by have := (disk_ok hd).n2; omega)) ?_; refine WP.vl rfl (Yld.max2 rfl rfl rfl ((n - 8 : Nat) : Int) (by split <;> omega)) ?_; refine WP.vl rfl (Yld.quo64 rfl rfl rfl (by have := (disk_ok hd).n2; omega)) ?_; rw [show ((n - 8 : Nat) : Int) / 32 = (((n - 8) / 32 : Nat) : Int) by omega]
 refine WP.mv rfl rfl ?_; refine WP.nil ?_; refine WP.sub [(0, _), (1, _), (2, _), (6, _), (7, _), (8, _)] ?_ ⟨rfl, rfl, rfl, rfl, rfl, rfl, trivial⟩
 refine WP.next (WP.seq (WP.seq ?_))
 refine WP.region [0, 1, 2, 3, 4, 5, 6, 7, 8, 9, 10, 11, 12, 13, 14, 15, 16, 17, 18, 19, 20, 21] rfl ?_; refine WP.mv rfl rfl ?_; refine WP.vl rfl (Yld.lss rfl rfl rfl false (decide_eq_false (by omega))) ?_; refine WP.mv rfl rfl ?_; refine WP.valG rfl rfl rfl rfl rfl rfl rfl (Yld.move rfl rfl) ?_; refine WP.valG rfl rfl rfl rfl rfl rfl rfl (Yld.lss rfl rfl rfl false (decide_eq_false (by omega))) ?_; refine WP.vl rfl (Yld.pickF rfl rfl rfl) ?_; refine WP.mv rfl rfl ?_; iterate 2 refine WP.valG rfl rfl rfl rfl rfl rfl rfl (Yld.move rfl rfl) ?_
 refine WP.valG rfl rfl rfl rfl rfl rfl rfl (Yld.lss rfl rfl rfl false (decide_eq_false (by omega))) ?_; refine WP.vl rfl (Yld.pickF rfl rfl rfl) ?_; refine WP.mv rfl rfl ?_; refine WP.valG rfl rfl rfl rfl rfl rfl rfl (Yld.move rfl rfl) ?_; refine WP.valG rfl rfl rfl rfl rfl rfl rfl (Yld.gtr rfl rfl rfl false (decide_eq_false (by omega))) ?_; refine WP.vl rfl (Yld.pickF rfl rfl rfl) ?_; refine WP.mv rfl rfl ?_; iterate 2 refine WP.valG rfl rfl rfl rfl rfl rfl rfl (Yld.move rfl rfl) ?_
 refine WP.valG rfl rfl rfl rfl rfl rfl rfl (Yld.sub64 rfl rfl rfl (by omega)) ?_; refine WP.valG rfl rfl rfl rfl rfl rfl rfl (Yld.move rfl rfl) ?_; refine WP.valG rfl rfl rfl rfl rfl rfl rfl (Yld.gtr rfl rfl rfl false (decide_eq_false (by omega))) ?_; refine WP.vl rfl (Yld.pickF rfl rfl rfl) ?_; refine WP.nil ?_; refine WP.sub [(0, _), (1, _), (2, _), (6, _), (7, _), (8, _), (35, _)] ?_ ⟨rfl, rfl, rfl, rfl, rfl, rfl, rfl, trivial⟩
 refine WP.next ?_; refine WP.condF rfl ?_; refine WP.skip (WP.next (WP.seq ?_))
 refine WP.region [0, 1, 2, 3, 4, 5, 6, 7] rfl ?_; iterate 4 refine WP.mv rfl rfl ?_
 refine WP.vl rfl (Yld.buildS (pl := [(0, 0, 1), (1, 1, 1), (2, 2, 1), (3, 3, 1)]) rfl ty_zr_130 ty_zd_130 zK rfl (vs := [_, _, _, _]) rfl (segs := [(0, [_]), (1, [_]), (2, [_]), (3, [_])]) rfl rfl (.one .zero (.one (.succ .zero) (.one (.succ (.succ .zero)) (.one (.succ (.succ (.succ .zero))) .nil))))) ?_; refine WP.loud rfl rfl ?_; refine Op.box rfl rfl rfl rfl rfl (fun s => ?_)
 iterate 2 refine WP.mv rfl rfl ?_
 refine WP.nil ?_; refine WP.sub [(0, _), (1, _), (2, _), (6, _), (7, _), (8, _), (35, _)] ?_ ⟨rfl, rfl, rfl, rfl, rfl, rfl, rfl, trivial⟩
 refine WP.next (WP.ret ?_)
 refine WP.fn .ret (.inr rfl) (res2 rfl rfl rfl) ((s, row 130 (sgV d ⟨(n - 8) / 32, f, e⟩)) :: L) (Imm.le_refl _) ?_; exact ⟨rfl, s, rfl, rfl⟩


structure SX where
 i : Nat
 J : Imm
 vo : Value
 l : List (Pt × Value)
 Lo : Chunks
structure SX.ok (I : Imm) (f : Nat → Pt × Int) (p stop : Nat) (t : SX) : Prop where
 le : p + t.i ≤ stop
 hJ : I.le t.J
 ow : Own 205 6 t.vo (pcells t.l) t.l.length t.Lo
 da : ∀ e ∈ t.l, SlRd (Im t.J) e.2 e.1.data.length 1 (bytesV e.1.data)
 ln : t.l.length = t.i
 eq : scanL f (stop - (p + t.i)) (p + t.i) (t.l.map (·.1)) = scanL f (stop - p) p []
structure On (x : Dk) (n : Nat) : Prop where
 ok : x.ok n
 off : x.off = false
 left : x.left = -1
theorem On.new {n : Nat} (h1 : 1 ≤ n) (h2 : n ≤ 8192) : On (Dk.new n) n := ⟨Dk.new_ok h1 h2, rfl, rfl⟩
def bl (x : Dk) (j : Nat) : List UInt8 := (x.now.drop ((8 + j * 4) * 64)).take 256
theorem On.read {x : Dk} {n j : Nat} (h : On x n) (hj : 8 + j * 4 + 4 ≤ n) : x.read n ((8 + j * 4 : Nat) : Int) 4 = (bl x j, 0) := by
 unfold Dk.read
 rw [if_neg (by simp [h.off]), if_neg (by omega)]
 rfl
end Go.Hp
