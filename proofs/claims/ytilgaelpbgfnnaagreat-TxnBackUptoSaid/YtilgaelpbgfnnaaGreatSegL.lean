import Derived.Test.YtilgaelpbgfnnaaGreatSegG
import Derived.Test.YtilgaelpbgfnnaaGreatHpWord
set_option linter.unusedVariables false
set_option linter.unusedSimpArgs false
namespace Go.Hp
open Go Go.Proofs

structure pgood (f : Pt) (n i : Nat) (p : Pt) : Prop where
 may : p.may
 index : p.index = i
 parts : p.parts = n
 no : p.no = f.no
 era : p.era = f.era
 place : p.place = f.place + i
instance (f : Pt) (n i : Nat) (p : Pt) : Decidable (pgood f n i p) := decidable_of_iff (p.may ∧ p.index = i ∧ p.parts = n ∧ p.no = f.no ∧ p.era = f.era ∧ p.place = f.place + i) ⟨fun h => ⟨h.1, h.2.1, h.2.2.1, h.2.2.2.1, h.2.2.2.2.1, h.2.2.2.2.2⟩, fun h => ⟨h.may, h.index, h.parts, h.no, h.era, h.place⟩⟩
def pjoin (l : List Pt) : List UInt8 × Int := if l ≠ [] ∧ ∀ i, i < l.length → pgood (l.headD ptZ) l.length i (l.getD i ptZ) then (l.flatMap (·.data), 0) else ([], 71)
theorem ptV_one {p : Pt} {v : Value} (h : ∃ A n c, v = .slice A n c) : (ptV p v).all (·.oneCell') = true := by obtain ⟨_, _, _, rfl⟩ := h; rfl
theorem fst_getD {l : List (Pt × Value)} {i : Nat} (h : i < l.length) : (l.map (·.1)).getD i ptZ = l[i].1 := by simp [h]
theorem fst_head {l : List (Pt × Value)} (h : 0 < l.length) : (l.map (·.1)).headD ptZ = l[0].1 := by cases l with | nil => simp at h | cons a l => rfl
theorem pjoin_bad {l : List (Pt × Value)} {i : Nat} (hi : i < l.length) (h : ¬ pgood (l[0]'(by omega)).1 l.length i l[i].1) : pjoin (l.map (·.1)) = ([], 71) := if_neg (fun g => h (by
 have := g.2 i (by simpa using hi)
 rw [fst_getD hi, fst_head (by omega), List.length_map] at this; exact this))
theorem pjoin_good {l : List (Pt × Value)} (h0 : 0 < l.length) (h : ∀ i (hi : i < l.length), pgood l[0].1 l.length i l[i].1) : pjoin (l.map (·.1)) = (l.flatMap (·.1.data), 0) := by
 have e : (l.map (·.1)).flatMap (·.data) = l.flatMap (·.1.data) := by rw [List.flatMap_map]
 rw [← e]
 refine if_pos ⟨fun e => ?_, fun i hi => ?_⟩
 ·have := congrArg List.length e; simp at this; subst this; simp at h0
 ·rw [List.length_map] at hi ⊢
  rw [fst_getD hi, fst_head h0]; exact h i hi
theorem jd_le {l : List (Pt × Value)} : ∀ (i : Nat), (∀ j (hj : j < i) (hjl : j < l.length), l[j].1.data.length ≤ 198) → i ≤ l.length → ((l.take i).flatMap (·.1.data)).length ≤ 198 * i
 | 0, _, _ => by simp
 | i + 1, h, hl => by
  rw [List.take_succ_eq_append_getElem (by omega), List.flatMap_append, List.length_append]
  have h1 := jd_le i (fun j hj hjl => h j (by omega) hjl) (by omega)
  have h2 := h i (by omega) (by omega)
  simp only [List.flatMap_cons, List.flatMap_nil, List.append_nil]
  omega

structure Sg where
 slots : Nat
 first : Nat
 stop : Nat
structure Sg.ok (n : Nat) (g : Sg) : Prop where
 s4 : 4 ≤ g.slots
 sn : g.slots * 32 + 8 ≤ n
 fs : g.first ≤ g.stop
 sb : g.stop ≤ 1099511627776
def sgV (d : Nat) (g : Sg) : List Value := [.pointer (some ⟨d, 0, none⟩), .int .i64 (g.slots : Int), .int .i64 (g.first : Int), .int .i64 (g.stop : Int)]
def psec (g : Sg) (p : Nat) : Nat := 8 + (p / 8 % g.slots * 8 + p % 8) * 4
theorem psec_lt {n : Nat} {g : Sg} (h : g.ok n) (p : Nat) : psec g p + 4 ≤ n := by
 have h1 := Nat.mod_lt (p / 8) (show 0 < g.slots by have := h.s4; omega)
 have h2 := h.sn
 unfold psec; omega
def phas (g : Sg) (p : Int) : Prop := (g.first : Int) * 8 ≤ p ∧ p < (g.stop : Int) * 8
instance (g : Sg) (p : Int) : Decidable (phas g p) := inferInstanceAs (Decidable (_ ∧ _))
def pwrt (x : Dk) (n : Nat) (g : Sg) (p : Pt) : Dk × Int := if p.may then (if phas g p.place then x.write n (psec g p.place.toNat : Int) (penc p) else (x, 1)) else (x, 70)
/-- What stands at a place. -/
def pstand (x : Dk) (n : Nat) (g : Sg) (p : Nat) : Pt × Int :=
 if (x.read n (psec g p : Int) 4).2 ≠ 0 then (ptZ, (x.read n (psec g p : Int) 4).2) else match pdec (x.read n (psec g p : Int) 4).1 with
 | some r => if r.place = p then (r, 0) else (ptZ, 70)
 | none => (ptZ, 70)
def pread (x : Dk) (n : Nat) (g : Sg) (p : Nat) : Pt × Int := if phas g p then pstand x n g p else (ptZ, 1)
def scanL (f : Nat → Pt × Int) : Nat → Nat → List Pt → List Pt
 | 0, _, acc => acc
 | k + 1, p, acc => if (f p).2 ≠ 0 ∨ (acc ≠ [] ∧ (f p).1.era < (acc.getLastD ptZ).era) then acc else scanL f k (p + 1) (acc ++ [(f p).1])
theorem read_256 {x : Dk} {n : Nat} {at_ : Int} (h : x.ok n) (h0 : (x.read n at_ 4).2 = 0) : (x.read n at_ 4).1.length = 256 := by
 unfold Dk.read at h0 ⊢
 split at h0
 ·simp at h0
 ·split at h0
  ·simp at h0
  ·rename_i h1 h2
   rw [if_neg h1, if_neg h2]
   have := h.ln
   simp only [List.length_take, List.length_drop]
   omega
theorem disk_ok {d n : Nat} {x : Dk} {L : Chunks} (h : IsDisk d n x L) : x.ok n := by cases h with | mk ok ow => exact ok
theorem seg_Slots {I : Imm} {s d n : Nat} {g : Sg} : Spec Tryz.prog 101 [.pointer (some ⟨s, 0, none⟩)] I [(s, row 180 (sgV d g))] (fun v J L' => v = .int .i64 (g.slots : Int) ∧ I = J ∧ [(s, row 180 (sgV d g))] = L') := by
 refine Spec.of Tryz.func101 rfl Tryz.ntmps101 (Nat.le_of_ble_eq_true rfl) (fun F => ?_)
 try simp only [nf]
 dsimp only [argsEnv]
 refine WP.seq ?_
 refine WP.region [0] rfl ?_
 refine WP.mv rfl rfl ?_
 refine WP.nil ?_
 refine WP.next ?_
 refine WP.seq ?_
 refine WP.region [0, 1, 2, 3, 4] rfl ?_
 refine WP.mv rfl rfl ?_
 refine WP.vl rfl (Yld.nilCheck rfl rfl) ?_
 refine WP.vl rfl (Yld.fieldAddr rfl ty_fd_180_1 rfl) ?_
 refine WP.vl rfl (Yld.ld (v := .int .i64 (g.slots : Int)) rfl ty_sc_3 rfl rfl) ?_
 refine WP.mv rfl rfl ?_
 refine WP.nil ?_
 refine WP.sub [(0, _), (2, _)] ?_ ⟨rfl, rfl, trivial⟩
 refine WP.next ?_
 refine WP.ret ?_
 refine WP.fn .ret (.inr rfl) (res1 rfl rfl) [(s, row 180 (sgV d g))] (Imm.le_refl _) ?_
 exact ⟨rfl, rfl, rfl⟩

theorem seg_First {I : Imm} {s d n : Nat} {g : Sg} : Spec Tryz.prog 96 [.pointer (some ⟨s, 0, none⟩)] I [(s, row 180 (sgV d g))] (fun v J L' => v = .int .i64 (g.first : Int) ∧ I = J ∧ [(s, row 180 (sgV d g))] = L') := by
 refine Spec.of Tryz.func96 rfl Tryz.ntmps96 (Nat.le_of_ble_eq_true rfl) (fun F => ?_)
 try simp only [nf]
 dsimp only [argsEnv]
 refine WP.seq ?_
 refine WP.region [0] rfl ?_
 refine WP.mv rfl rfl ?_
 refine WP.nil ?_
 refine WP.next ?_
 refine WP.seq ?_
 refine WP.region [0, 1, 2, 3, 4] rfl ?_
 refine WP.mv rfl rfl ?_
 refine WP.vl rfl (Yld.nilCheck rfl rfl) ?_
 refine WP.vl rfl (Yld.fieldAddr rfl ty_fd_180_2 rfl) ?_
 refine WP.vl rfl (Yld.ld (v := .int .i64 (g.first : Int)) rfl ty_sc_3 rfl rfl) ?_
 refine WP.mv rfl rfl ?_
 refine WP.nil ?_
 refine WP.sub [(0, _), (2, _)] ?_ ⟨rfl, rfl, trivial⟩
 refine WP.next ?_
 refine WP.ret ?_
 refine WP.fn .ret (.inr rfl) (res1 rfl rfl) [(s, row 180 (sgV d g))] (Imm.le_refl _) ?_
 exact ⟨rfl, rfl, rfl⟩

theorem seg_End {I : Imm} {s d n : Nat} {g : Sg} : Spec Tryz.prog 97 [.pointer (some ⟨s, 0, none⟩)] I [(s, row 180 (sgV d g))] (fun v J L' => v = .int .i64 (g.stop : Int) ∧ I = J ∧ [(s, row 180 (sgV d g))] = L') := by
 refine Spec.of Tryz.func97 rfl Tryz.ntmps97 (Nat.le_of_ble_eq_true rfl) (fun F => ?_)
 try simp only [nf]
 dsimp only [argsEnv]
 refine WP.seq ?_
 refine WP.region [0] rfl ?_
 refine WP.mv rfl rfl ?_
 refine WP.nil ?_
 refine WP.next ?_
 refine WP.seq ?_
 refine WP.region [0, 1, 2, 3, 4] rfl ?_
 refine WP.mv rfl rfl ?_
 refine WP.vl rfl (Yld.nilCheck rfl rfl) ?_
 refine WP.vl rfl (Yld.fieldAddr rfl ty_fd_180_3 rfl) ?_
 refine WP.vl rfl (Yld.ld (v := .int .i64 (g.stop : Int)) rfl ty_sc_3 rfl rfl) ?_
 refine WP.mv rfl rfl ?_
 refine WP.nil ?_
 refine WP.sub [(0, _), (2, _)] ?_ ⟨rfl, rfl, trivial⟩
 refine WP.next ?_
 refine WP.ret ?_
 refine WP.fn .ret (.inr rfl) (res1 rfl rfl) [(s, row 180 (sgV d g))] (Imm.le_refl _) ?_
 exact ⟨rfl, rfl, rfl⟩

theorem seg_New_ok {I : Imm} {d n f e : Nat} {x : Dk} {L : Chunks} (hd : IsDisk d n x L) (hs : 136 ≤ n) (h1 : f ≤ e) (h2 : e ≤ 68719476736) (h3 : e - f ≤ (n - 8) / 32) : Spec Tryz.prog 42 [.pointer (some ⟨d, 0, none⟩), .int .i64 (f : Int), .int .i64 (e : Int)] I L (fun v J L' => I = J ∧ ∃ s, v = .tuple #[.pointer (some ⟨s, 0, none⟩), .int .i64 0] ∧ L' = (s, row 180 (sgV d ⟨(n - 8) / 32, f, e⟩)) :: L) := by
 refine Spec.of Tryz.func42 rfl Tryz.ntmps42 (Nat.le_of_ble_eq_true rfl) (fun F => ?_)
 try simp only [nf]
 dsimp only [argsEnv]
 refine WP.seq ?_
 refine WP.region [0, 1] rfl ?_
 iterate 2 refine WP.mv rfl rfl ?_
 refine WP.nil ?_
 refine WP.next ?_
 refine WP.seq ?_
 refine WP.region [0, 1, 2, 3, 4, 5] rfl ?_
 refine WP.mv rfl rfl ?_
 refine WP.loud rfl rfl ?_
 refine Op.cl (disk_Sectors hd) rfl Tryz.func99 rfl rfl rfl rfl ?_
 rintro v J L - ⟨rfl, rfl, rfl⟩
 try simp only [nf]
 refine WP.vl rfl (Yld.sub64 rfl rfl rfl (by have := (disk_ok hd).n2; omega)) ?_
 refine WP.vl rfl (Yld.max2 rfl rfl rfl ((n - 8 : Nat) : Int) (by split <;> omega)) ?_
 refine WP.vl rfl (Yld.quo64 rfl rfl rfl (by have := (disk_ok hd).n2; omega)) ?_
 rw [show ((n - 8 : Nat) : Int) / 32 = (((n - 8) / 32 : Nat) : Int) by omega]
 refine WP.mv rfl rfl ?_
 refine WP.nil ?_
 refine WP.sub [(0, _), (1, _), (2, _), (6, _), (7, _), (8, _)] ?_ ⟨rfl, rfl, rfl, rfl, rfl, rfl, trivial⟩
 refine WP.next ?_
 refine WP.seq ?_
 refine WP.seq ?_
 refine WP.region [0, 1, 2, 3, 4, 5, 6, 7, 8, 9, 10, 11, 12, 13, 14, 15, 16, 17, 18, 19, 20, 21] rfl ?_
 refine WP.mv rfl rfl ?_
 refine WP.vl rfl (Yld.lss rfl rfl rfl false (decide_eq_false (by omega))) ?_
 refine WP.mv rfl rfl ?_
 refine WP.valG rfl rfl rfl rfl rfl rfl rfl (Yld.move rfl rfl) ?_
 refine WP.valG rfl rfl rfl rfl rfl rfl rfl (Yld.lss rfl rfl rfl false (decide_eq_false (by omega))) ?_
 refine WP.vl rfl (Yld.pickF rfl rfl rfl) ?_
 refine WP.mv rfl rfl ?_
 refine WP.valG rfl rfl rfl rfl rfl rfl rfl (Yld.move rfl rfl) ?_
 refine WP.valG rfl rfl rfl rfl rfl rfl rfl (Yld.move rfl rfl) ?_
 refine WP.valG rfl rfl rfl rfl rfl rfl rfl (Yld.lss rfl rfl rfl false (decide_eq_false (by omega))) ?_
 refine WP.vl rfl (Yld.pickF rfl rfl rfl) ?_
 refine WP.mv rfl rfl ?_
 refine WP.valG rfl rfl rfl rfl rfl rfl rfl (Yld.move rfl rfl) ?_
 refine WP.valG rfl rfl rfl rfl rfl rfl rfl (Yld.gtr rfl rfl rfl false (decide_eq_false (by omega))) ?_
 refine WP.vl rfl (Yld.pickF rfl rfl rfl) ?_
 refine WP.mv rfl rfl ?_
 refine WP.valG rfl rfl rfl rfl rfl rfl rfl (Yld.move rfl rfl) ?_
 refine WP.valG rfl rfl rfl rfl rfl rfl rfl (Yld.move rfl rfl) ?_
 refine WP.valG rfl rfl rfl rfl rfl rfl rfl (Yld.sub64 rfl rfl rfl (by omega)) ?_
 refine WP.valG rfl rfl rfl rfl rfl rfl rfl (Yld.move rfl rfl) ?_
 refine WP.valG rfl rfl rfl rfl rfl rfl rfl (Yld.gtr rfl rfl rfl false (decide_eq_false (by omega))) ?_
 refine WP.vl rfl (Yld.pickF rfl rfl rfl) ?_
 refine WP.nil ?_
 refine WP.sub [(0, _), (1, _), (2, _), (6, _), (7, _), (8, _), (35, _)] ?_ ⟨rfl, rfl, rfl, rfl, rfl, rfl, rfl, trivial⟩
 refine WP.next ?_
 refine WP.condF rfl ?_
 refine WP.skip ?_
 refine WP.next ?_
 refine WP.seq ?_
 refine WP.region [0, 1, 2, 3, 4, 5, 6, 7] rfl ?_
 iterate 4 refine WP.mv rfl rfl ?_
 refine WP.vl rfl (Yld.buildS (pl := [(0, 0, 1), (1, 1, 1), (2, 2, 1), (3, 3, 1)]) rfl ty_zr_180 ty_zd_180 (by kernel_rfl) rfl (vs := [_, _, _, _]) rfl (segs := [(0, [_]), (1, [_]), (2, [_]), (3, [_])]) rfl rfl (.one .zero (.one (.succ .zero) (.one (.succ (.succ .zero)) (.one (.succ (.succ (.succ .zero))) .nil))))) ?_
 refine WP.loud rfl rfl ?_
 refine Op.box rfl rfl rfl rfl rfl (fun s => ?_)
 iterate 2 refine WP.mv rfl rfl ?_
 refine WP.nil ?_
 refine WP.sub [(0, _), (1, _), (2, _), (6, _), (7, _), (8, _), (35, _)] ?_ ⟨rfl, rfl, rfl, rfl, rfl, rfl, rfl, trivial⟩
 refine WP.next ?_
 refine WP.ret ?_
 refine WP.fn .ret (.inr rfl) (res2 rfl rfl rfl) ((s, row 180 (sgV d ⟨(n - 8) / 32, f, e⟩)) :: L) (Imm.le_refl _) ?_
 exact ⟨rfl, s, rfl, rfl⟩


structure SX where
 i : Nat
 J : Imm
 vo : Value
 l : List (Pt × Value)
 Lo : Chunks
structure SX.ok (I : Imm) (f : Nat → Pt × Int) (p stop : Nat) (t : SX) : Prop where
 le : p + t.i ≤ stop
 hJ : I.le t.J
 ow : Own 247 6 t.vo (pcells t.l) t.l.length t.Lo
 da : ∀ e ∈ t.l, SlRd (Im t.J) e.2 e.1.data.length 1 (bytesV e.1.data)
 ln : t.l.length = t.i
 eq : scanL f (stop - (p + t.i)) (p + t.i) (t.l.map (·.1)) = scanL f (stop - p) p []
theorem lastD_snoc (l : List Pt) (a : Pt) : (l ++ [a]).getLastD ptZ = a := by rw [List.getLastD_eq_getLast?, List.getLast?_concat]; rfl
theorem last_at : ∀ {l : List (Pt × Value)} (h : 0 < l.length), (l.map (·.1)).getLastD ptZ = (l[l.length - 1]'(by omega)).1 := fun {l} h => by
 have e : l = l.take (l.length - 1) ++ [l[l.length - 1]'(by omega)] := by
  conv => lhs; rw [← List.take_length (l := l), show l.length = (l.length - 1) + 1 by omega]
  rw [List.take_succ_eq_append_getElem (by omega)]
 have e2 : l.map (·.1) = (l.take (l.length - 1)).map (·.1) ++ [(l[l.length - 1]'(by omega)).1] := by
  conv => lhs; rw [e]
  rw [List.map_append]; rfl
 rw [e2, lastD_snoc]

theorem put_get {p s : List UInt8} {a m i : Nat} (hs : s.length = m) (hp : a + m ≤ p.length) (hi : i < a ∨ a + m ≤ i) : (p.take a ++ s ++ p.drop (a + m))[i]? = p[i]? := by
 have h1 : (p.take a).length = a := by simp; omega
 rcases hi with hi | hi
 ·rw [List.append_assoc, List.getElem?_append_left (by omega), List.getElem?_take, if_pos hi]
 ·rw [List.getElem?_append_right (by simp [hs]; omega), List.getElem?_drop]
  congr 1
  simp [hs]; omega


structure On (x : Dk) (n : Nat) : Prop where
 ok : x.ok n
 off : x.off = false
 left : x.left = -1
theorem On.new {n : Nat} (h1 : 1 ≤ n) (h2 : n ≤ 8192) : On (Dk.new n) n := ⟨Dk.new_ok h1 h2, rfl, rfl⟩
theorem puts_on : ∀ (k n : Nat) (x : Dk) (a : Nat) (b : List UInt8), On x n → b.length = 64 * k → a + k ≤ n →
  ∃ y, Dk.puts k x a b = (y, 0) ∧ On y n ∧ y.now = x.now.take (a * 64) ++ b ++ x.now.drop (a * 64 + 64 * k) ∧ y.waits.length = x.waits.length + k
 | 0, n, x, a, b, h, hb, _ => by
  obtain rfl : b = [] := List.eq_nil_of_length_eq_zero (by omega)
  exact ⟨x, rfl, h, by simp, rfl⟩
 | k + 1, n, x, a, b, h, hb, ha => by
  have ht : (b.take 64).length = 64 := by rw [List.length_take]; omega
  have h1 : On (x.write1 a (b.take 64)) n := ⟨Dk.write1_ok h.ok ht (by omega), h.off, by show dec x.left = -1; rw [h.left]; rfl⟩
  obtain ⟨y, e1, e2, e3, e4⟩ := puts_on k n (x.write1 a (b.take 64)) (a + 1) (b.drop 64) h1 (by rw [List.length_drop]; omega) (by omega)
  refine ⟨y, ?_, e2, ?_, ?_⟩
  ·rw [Dk.puts, if_neg (by rw [h.left]; decide)]; exact e1
  ·have hn : (x.write1 a (b.take 64)).now = (x.now.take (a * 64) ++ b.take 64) ++ x.now.drop (a * 64 + 64) := rfl
   have hl : (x.now.take (a * 64) ++ b.take 64).length = (a + 1) * 64 := by rw [List.length_append, List.length_take, ht, h.ok.ln]; omega
   rw [e3, hn, List.take_left' hl, ← List.drop_drop, List.drop_left' hl, List.drop_drop, List.append_assoc (x.now.take _), List.take_append_drop]
   congr 2; omega
  ·rw [e4]; show (x.waits ++ [_]).length + k = _; rw [List.length_append]; simp; omega
def jx (s p : Nat) : Nat := p / 8 % s * 8 + p % 8
theorem psec_jx (g : Sg) (p : Nat) : psec g p = 8 + jx g.slots p * 4 := rfl
theorem jx_lt {s : Nat} (hs : 0 < s) (p : Nat) : jx s p < 8 * s := by have := Nat.mod_lt (p / 8) hs; unfold jx; omega
theorem mod_ne {a b s : Nat} (h1 : a < b) (h2 : b < a + s) : a % s ≠ b % s := fun e => by
 have h := Nat.sub_mod_eq_zero_of_mod_eq e.symm
 rw [Nat.mod_eq_of_lt (by omega)] at h
 omega
theorem jx_ne' {s p q : Nat} (h1 : p < q) (h2 : q < p + 8 * s) : jx s p ≠ jx s q := fun e => by
 have e1 : p % 8 = q % 8 := by unfold jx at e; omega
 have e2 : p / 8 % s = q / 8 % s := by unfold jx at e; omega
 exact mod_ne (a := p / 8) (b := q / 8) (s := s) (by omega) (by omega) e2
def bl (x : Dk) (j : Nat) : List UInt8 := (x.now.drop ((8 + j * 4) * 64)).take 256
theorem On.read {x : Dk} {n j : Nat} (h : On x n) (hj : 8 + j * 4 + 4 ≤ n) : x.read n ((8 + j * 4 : Nat) : Int) 4 = (bl x j, 0) := by
 unfold Dk.read
 rw [if_neg (by simp [h.off]), if_neg (by omega)]
 rfl
theorem pwrt_on {x : Dk} {n : Nat} {g : Sg} {p : Pt} (h : On x n) (hg : g.ok n) (hm : p.may) (hh : phas g p.place) :
  ∃ y, pwrt x n g p = (y, 0) ∧ On y n ∧ y.waits.length = x.waits.length + 4 ∧ ∀ j, bl y j = if j = jx g.slots p.place.toNat then penc p else bl x j := by
 have hl := penc_len hm.len.2
 have hp := psec_lt hg p.place.toNat
 obtain ⟨y, e1, e2, e3, e4⟩ := puts_on 4 n x (psec g p.place.toNat) (penc p) h (by rw [hl]) hp
 refine ⟨y, ?_, e2, e4, fun j => ?_⟩
 ·unfold pwrt
  rw [if_pos hm, if_pos hh]
  unfold Dk.write
  rw [if_neg (by simp [h.off]), if_neg (by omega), if_neg (by omega), hl]
  exact e1
 ·rw [psec_jx] at e3 hp
  have hln := h.ok.ln
  have e5 : (8 + jx g.slots p.place.toNat * 4) * 64 + 64 * 4 = (8 + jx g.slots p.place.toNat * 4) * 64 + 256 := by omega
  rw [e5] at e3
  have ht : (x.now.take ((8 + jx g.slots p.place.toNat * 4) * 64)).length = (8 + jx g.slots p.place.toNat * 4) * 64 := by rw [List.length_take]; omega
  by_cases hj : j = jx g.slots p.place.toNat
  ·rw [if_pos hj]
   unfold bl
   rw [e3, hj, List.append_assoc, List.drop_append, List.drop_of_length_le (by omega), ht, Nat.sub_self, List.drop_zero, List.nil_append, List.take_append_of_le_length (by omega), List.take_of_length_le (by omega)]
  ·rw [if_neg hj]
   unfold bl
   apply List.ext_getElem?
   intro i
   rw [List.getElem?_take, List.getElem?_take]
   split
   ·rw [List.getElem?_drop, List.getElem?_drop, e3, put_get hl (by omega) (by omega)]
   ·rfl
theorem bl_new {n j : Nat} (h : 8 + j * 4 + 4 ≤ n) : bl (Dk.new n) j = List.replicate 256 0 := by
 unfold bl Dk.new
 rw [List.drop_replicate, List.take_replicate]; congr 1; omega
theorem pdec_zero : pdec (List.replicate 256 0) = none := by
 cases h : pdec (List.replicate 256 0) with
 | none => rfl
 | some p =>
  obtain ⟨hm, he, _⟩ := pdec_is h
  have h2 : (penc p)[0]? = some 80 := by
   have e : penc p = (80 :: 66 :: ((leB p.parts.toNat 1 ++ (leB p.index.toNat 1 ++ (leB p.data.length 2 ++ (leB p.no.toNat 6 ++ (leB p.place.toNat 6 ++ leB p.era.toNat 4)))) ++ (p.data ++ List.replicate (198 - p.data.length) 0) ++ leB (crcOf (pin p)).toNat 4).take 54 ++ ptag p)) ++ ((cut (pfull p) 56 112 ++ ptag p) ++ ((cut (pfull p) 112 168 ++ ptag p) ++ (cut (pfull p) 168 224 ++ ptag p))) := by
    unfold penc; rw [penc_four]; rfl
   rw [e]; rfl
  rw [he] at h2
  exact absurd h2 (by decide)
theorem pstand_on {x : Dk} {n : Nat} {g : Sg} (h : On x n) (hg : g.ok n) (p : Nat) : pstand x n g p = match pdec (bl x (jx g.slots p)) with
  | some r => if r.place = p then (r, 0) else (ptZ, 70)
  | none => (ptZ, 70) := by
 unfold pstand
 rw [psec_jx, h.read (by have := psec_lt hg p; rw [psec_jx] at this; omega), if_neg (by simp)] <;> rfl
theorem scanL_run {f : Nat → Pt × Int} {e : Int} : ∀ (ps : List Pt) (k p : Nat) (acc : List Pt), (∀ a ∈ acc, a.era = e) → (∀ i (hi : i < ps.length), f (p + i) = (ps[i], 0) ∧ ps[i].era = e) → scanL f (ps.length + k) p acc = scanL f k (p + ps.length) (acc ++ ps)
 | [], k, p, acc, _, _ => by simp
 | a :: ps, k, p, acc, ha, hf => by
  have h0 := hf 0 (by simp)
  simp only [Nat.add_zero, List.getElem_cons_zero] at h0
  rw [show (a :: ps).length + k = (ps.length + k) + 1 by simp; omega, scanL, h0.1, if_neg, scanL_run ps k (p + 1) (acc ++ [a])]
  ·rw [show p + 1 + ps.length = p + (a :: ps).length by simp; omega, List.append_assoc]; rfl
  ·intro b hb
   rcases List.mem_append.1 hb with hb | hb
   ·exact ha b hb
   ·rw [List.mem_singleton.1 hb]; exact h0.2
  ·intro i hi
   have := hf (i + 1) (by simp; omega)
   rw [show p + (i + 1) = p + 1 + i by omega] at this
   simpa using this
  ·rintro (h | ⟨h1, h2⟩)
   ·exact h rfl
   ·have h3 : (acc.getLastD ptZ).era = e := by
     obtain ⟨c, hc⟩ : ∃ c, acc.getLast? = some c := by cases hx : acc.getLast? with | none => exact absurd (List.getLast?_eq_none_iff.1 hx) h1 | some c => exact ⟨c, rfl⟩
     rw [List.getLastD_eq_getLast?, hc]
     exact ha c (List.mem_of_getLast? hc)
    have h4 := h0.2
    simp only at h2
    omega
theorem scanL_ext {f : Nat → Pt × Int} : ∀ (k p : Nat) (acc : List Pt), ∃ r, scanL f k p acc = acc ++ r
 | 0, _, acc => ⟨[], by simp [scanL]⟩
 | k + 1, p, acc => by
  rw [scanL]
  split
  ·exact ⟨[], by simp⟩
  ·obtain ⟨r, hr⟩ := scanL_ext k (p + 1) (acc ++ [(f p).1])
   exact ⟨[(f p).1] ++ r, by rw [hr, List.append_assoc]⟩
def psame (a b : Pt) : Bool := decide (a.place = b.place ∧ a.no = b.no ∧ a.index = b.index ∧ a.era = b.era ∧ a.parts = b.parts ∧ a.data = b.data)
theorem psame_self (a : Pt) : psame a a = true := decide_eq_true ⟨rfl, rfl, rfl, rfl, rfl, rfl⟩

end Go.Hp
