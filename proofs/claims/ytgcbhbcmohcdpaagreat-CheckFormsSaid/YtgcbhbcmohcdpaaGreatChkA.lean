import Derived.Test.YtgcbhbcmohcdpaaGreatRfB
import Derived.Test.YtgcbhbcmohcdpaaGreatTabH
import Derived.Test.YtgcbhbcmohcdpaaGreatHpFlat
set_option linter.unusedVariables false
set_option linter.unusedSimpArgs false
namespace Go.Hp
open Go Go.Proofs

/-- A page of a checkpoint. -/
structure Mp where
 page : Int
 place : Int
 no : Int
 low : Int
structure Ck where
 fr : Int
 pl : Int
 root : Int
 nx : Int
 ps : List Mp
def mpV (p : Mp) : List Value := [.int .i64 p.page, .int .i64 p.place, .int .i64 p.no, .int .i64 p.low]
theorem mpV_len (p : Mp) : (mpV p).length = 4 := rfl
def kV (c : Ck) (v : Value) : List Value := [.int .i64 c.fr, .int .i64 c.pl, .int .i64 c.root, .int .i64 c.nx, v]
def Mp.ok (nx last : Int) (p : Mp) : Prop := (last + 1 ≤ p.page ∧ p.page ≤ nx - 1) ∧ (1 ≤ p.place ∧ p.place ≤ 1099511627776) ∧ (1 ≤ p.no ∧ p.no ≤ 1099511627776) ∧ (1 ≤ p.low ∧ p.low ≤ p.place)
instance (nx last : Int) (p : Mp) : Decidable (p.ok nx last) := inferInstanceAs (Decidable (_ ∧ _))
def lastP (l : List Mp) (i : Nat) : Int := if h : 0 < i ∧ i - 1 < l.length then (l[i - 1]'h.2).page else 0
/-- The head of a checkpoint may be. -/
def Ck.hd (c : Ck) : Prop := (1 ≤ c.fr ∧ c.fr ≤ 1099511627776) ∧ (0 ≤ c.pl ∧ c.pl ≤ 1099511627776) ∧ (0 ≤ c.root ∧ c.root ≤ 512) ∧ (1 ≤ c.nx ∧ c.nx ≤ 513)
def Ck.may (c : Ck) : Prop := c.hd ∧ ∀ i (h : i < c.ps.length), (c.ps[i]).ok c.nx (lastP c.ps i)
theorem lastP_0 (l : List Mp) : lastP l 0 = 0 := dif_neg (fun h => absurd h.1 (Nat.lt_irrefl _))
theorem lastP_succ {l : List Mp} {i : Nat} (h : i < l.length) : lastP l (i + 1) = l[i].page := dif_pos ⟨Nat.succ_pos _, h⟩
theorem Ck.pos {c : Ck} (h : c.may) : ∀ i, i ≤ c.ps.length → (i : Int) ≤ lastP c.ps i
 | 0, _ => by rw [lastP_0]; exact Int.le_refl _
 | i + 1, hi => by
  have h1 := Ck.pos h i (by omega)
  have h2 := (h.2 i (by omega)).1.1
  rw [lastP_succ (by omega)]; omega
theorem Ck.len {c : Ck} (h : c.may) : c.ps.length ≤ 512 := by
 rcases Nat.eq_zero_or_pos c.ps.length with h0 | h0
 ·omega
 ·have h1 := Ck.pos h c.ps.length (Nat.le_refl _)
  obtain ⟨k, hk⟩ : ∃ k, c.ps.length = k + 1 := ⟨c.ps.length - 1, by omega⟩
  rw [hk, lastP_succ (by omega)] at h1
  have h2 := (h.2 k (by omega)).1.2
  have h3 := h.1.2.2.2.2
  omega
theorem Ck.el {c : Ck} (h : c.may) : ∀ p ∈ c.ps, (0 ≤ p.page ∧ p.page ≤ 512) ∧ (0 ≤ p.place ∧ p.place ≤ 1099511627776) ∧ (0 ≤ p.no ∧ p.no ≤ 1099511627776) ∧ (0 ≤ p.low ∧ p.low ≤ 1099511627776) := fun p hp => by
 obtain ⟨i, hi, rfl⟩ := List.getElem_of_mem hp
 obtain ⟨⟨h1, h2⟩, ⟨h3, h4⟩, ⟨h5, h6⟩, h7, h8⟩ := h.2 i hi
 have h9 := Ck.pos h i (by omega)
 have h0 := h.1.2.2.2.2
 exact ⟨⟨by omega, by omega⟩, ⟨by omega, h4⟩, ⟨by omega, h6⟩, by omega, by omega⟩
def mpB (p : Mp) : List UInt8 := numB p.page.toNat ++ (numB p.place.toNat ++ (numB p.no.toNat ++ numB p.low.toNat))
def ckH (c : Ck) : List UInt8 := numB c.fr.toNat ++ (numB c.pl.toNat ++ (numB c.root.toNat ++ (numB c.nx.toNat ++ numB c.ps.length)))
def ckB (c : Ck) : List UInt8 := ckH c ++ c.ps.flatMap mpB
theorem mpB_le {p : Mp} (h : (0 ≤ p.page ∧ p.page ≤ 512) ∧ (0 ≤ p.place ∧ p.place ≤ 1099511627776) ∧ (0 ≤ p.no ∧ p.no ≤ 1099511627776) ∧ (0 ≤ p.low ∧ p.low ≤ 1099511627776)) : (mpB p).length ≤ 40 := by
 have h1 := numB_10 (n := p.page.toNat) (by omega)
 have h2 := numB_10 (n := p.place.toNat) (by omega)
 have h3 := numB_10 (n := p.no.toNat) (by omega)
 have h4 := numB_10 (n := p.low.toNat) (by omega)
 unfold mpB
 simp only [List.length_append]; omega
theorem mpBs_le : ∀ {l : List Mp}, (∀ p ∈ l, (0 ≤ p.page ∧ p.page ≤ 512) ∧ (0 ≤ p.place ∧ p.place ≤ 1099511627776) ∧ (0 ≤ p.no ∧ p.no ≤ 1099511627776) ∧ (0 ≤ p.low ∧ p.low ≤ 1099511627776)) → (l.flatMap mpB).length ≤ l.length * 40
 | [], _ => Nat.le_refl _
 | p :: l, h => by
  have h1 := mpB_le (h p List.mem_cons_self)
  have h2 := mpBs_le (l := l) fun q hq => h q (List.mem_cons_of_mem _ hq)
  rw [List.flatMap_cons, List.length_append, List.length_cons, Nat.succ_mul]; omega
theorem ckH_le {c : Ck} (h : c.may) : (ckH c).length ≤ 50 := by
 have h0 := h.1
 obtain ⟨⟨a1, a2⟩, ⟨a3, a4⟩, ⟨a5, a6⟩, a7, a8⟩ := h0
 have hl := Ck.len h
 have h1 := numB_10 (n := c.fr.toNat) (by omega)
 have h2 := numB_10 (n := c.pl.toNat) (by omega)
 have h3 := numB_10 (n := c.root.toNat) (by omega)
 have h4 := numB_10 (n := c.nx.toNat) (by omega)
 have h5 := numB_10 (n := c.ps.length) (by omega)
 unfold ckH
 simp only [List.length_append]; omega
/-- What is read of a page. -/
def rMp (s : Rs) : Mp × Rs :=
 (⟨(rNum 512 s).1, (rNum 1099511627776 (rNum 512 s).2).1, (rNum 1099511627776 (rNum 1099511627776 (rNum 512 s).2).2).1, (rNum 1099511627776 (rNum 1099511627776 (rNum 1099511627776 (rNum 512 s).2).2).2).1⟩, (rNum 1099511627776 (rNum 1099511627776 (rNum 1099511627776 (rNum 512 s).2).2).2).2)
def rMps : Nat → Rs → List Mp × Rs
 | 0, s => ([], s)
 | n + 1, s => ((rMp s).1 :: (rMps n (rMp s).2).1, (rMps n (rMp s).2).2)
def rH1 (b : List UInt8) : Nat × Rs := rNum 1099511627776 ⟨b, 0⟩
def rH2 (b : List UInt8) : Nat × Rs := rNum 1099511627776 (rH1 b).2
def rH3 (b : List UInt8) : Nat × Rs := rNum 512 (rH2 b).2
def rH4 (b : List UInt8) : Nat × Rs := rNum 513 (rH3 b).2
def rH5 (b : List UInt8) : Nat × Rs := rNum 512 (rH4 b).2
def rCk (b : List UInt8) : Ck × Rs := (⟨(rH1 b).1, (rH2 b).1, (rH3 b).1, (rH4 b).1, (rMps (rH5 b).1 (rH5 b).2).1⟩, (rMps (rH5 b).1 (rH5 b).2).2)
def okK (b : List UInt8) : Prop := (rCk b).2.done = 0 ∧ b.length ≤ 12671 ∧ (rCk b).1.may
theorem rNum_e {most : Nat} {s : Rs} (h : s.e ≠ 0) : rNum most s = (0, s) := if_neg h
theorem rMp_e {s : Rs} (h : s.e ≠ 0) : (rMp s).2 = s := by
 unfold rMp
 simp only [rNum_e h]
theorem rMps_e : ∀ {n : Nat} {s : Rs}, s.e ≠ 0 → (rMps n s).2 = s
 | 0, _, _ => rfl
 | n + 1, s, h => by
  show (rMps n (rMp s).2).2 = s
  rw [rMp_e h, rMps_e h]
theorem rMp_lay {p : Mp} {rest : List UInt8} (h : (0 ≤ p.page ∧ p.page ≤ 512) ∧ (0 ≤ p.place ∧ p.place ≤ 1099511627776) ∧ (0 ≤ p.no ∧ p.no ≤ 1099511627776) ∧ (0 ≤ p.low ∧ p.low ≤ 1099511627776)) : rMp ⟨mpB p ++ rest, 0⟩ = (p, ⟨rest, 0⟩) := by
 have e : mpB p ++ rest = numB p.page.toNat ++ (numB p.place.toNat ++ (numB p.no.toNat ++ (numB p.low.toNat ++ rest))) := by unfold mpB; simp only [List.append_assoc]
 unfold rMp
 rw [e, rNum_lay (by omega) (by omega)]
 simp only [rNum_lay (show p.place.toNat ≤ 1099511627776 by omega) (by omega), rNum_lay (show p.no.toNat ≤ 1099511627776 by omega) (by omega), rNum_lay (show p.low.toNat ≤ 1099511627776 by omega) (by omega)]
 rw [Int.toNat_of_nonneg h.1.1, Int.toNat_of_nonneg h.2.1.1, Int.toNat_of_nonneg h.2.2.1.1, Int.toNat_of_nonneg h.2.2.2.1]
theorem rMps_lay {rest : List UInt8} : ∀ {l : List Mp}, (∀ p ∈ l, (0 ≤ p.page ∧ p.page ≤ 512) ∧ (0 ≤ p.place ∧ p.place ≤ 1099511627776) ∧ (0 ≤ p.no ∧ p.no ≤ 1099511627776) ∧ (0 ≤ p.low ∧ p.low ≤ 1099511627776)) → rMps l.length ⟨l.flatMap mpB ++ rest, 0⟩ = (l, ⟨rest, 0⟩)
 | [], _ => rfl
 | p :: l, h => by
  have h1 := rMp_lay (rest := l.flatMap mpB ++ rest) (h p List.mem_cons_self)
  have h2 := rMps_lay (l := l) (rest := rest) fun q hq => h q (List.mem_cons_of_mem _ hq)
  have e : (p :: l).flatMap mpB ++ rest = mpB p ++ (l.flatMap mpB ++ rest) := by rw [List.flatMap_cons, List.append_assoc]
  rw [e]
  show ((rMp _).1 :: (rMps l.length (rMp _).2).1, (rMps l.length (rMp _).2).2) = _
  rw [h1]
  show (p :: (rMps l.length ⟨l.flatMap mpB ++ rest, 0⟩).1, (rMps l.length ⟨l.flatMap mpB ++ rest, 0⟩).2) = _
  rw [h2]
theorem rCk_lay {c : Ck} (h : c.may) : rCk (ckB c) = (c, ⟨[], 0⟩) := by
 obtain ⟨⟨a1, a2⟩, ⟨a3, a4⟩, ⟨a5, a6⟩, a7, a8⟩ := h.1
 have hl := Ck.len h
 have e : ckB c = numB c.fr.toNat ++ (numB c.pl.toNat ++ (numB c.root.toNat ++ (numB c.nx.toNat ++ (numB c.ps.length ++ (c.ps.flatMap mpB ++ []))))) := by unfold ckB ckH; simp only [List.append_assoc, List.append_nil]
 have e1 : rH1 (ckB c) = (c.fr.toNat, ⟨numB c.pl.toNat ++ (numB c.root.toNat ++ (numB c.nx.toNat ++ (numB c.ps.length ++ (c.ps.flatMap mpB ++ [])))), 0⟩) := by unfold rH1; rw [e, rNum_lay (by omega) (by omega)]
 have e2 : rH2 (ckB c) = (c.pl.toNat, ⟨numB c.root.toNat ++ (numB c.nx.toNat ++ (numB c.ps.length ++ (c.ps.flatMap mpB ++ []))), 0⟩) := by unfold rH2; rw [e1, rNum_lay (by omega) (by omega)]
 have e3 : rH3 (ckB c) = (c.root.toNat, ⟨numB c.nx.toNat ++ (numB c.ps.length ++ (c.ps.flatMap mpB ++ [])), 0⟩) := by unfold rH3; rw [e2, rNum_lay (by omega) (by omega)]
 have e4 : rH4 (ckB c) = (c.nx.toNat, ⟨numB c.ps.length ++ (c.ps.flatMap mpB ++ []), 0⟩) := by unfold rH4; rw [e3, rNum_lay (by omega) (by omega)]
 have e5 : rH5 (ckB c) = (c.ps.length, ⟨c.ps.flatMap mpB ++ [], 0⟩) := by unfold rH5; rw [e4, rNum_lay (by omega) (by omega)]
 unfold rCk
 rw [e1, e2, e3, e4, e5]
 simp only [rMps_lay (Ck.el h)]
 rw [Int.toNat_of_nonneg (by omega), Int.toNat_of_nonneg (by omega), Int.toNat_of_nonneg (by omega), Int.toNat_of_nonneg (by omega)]
theorem okK_lay {c : Ck} (h : c.may) (hl : (ckB c).length ≤ 12671) : okK (ckB c) ∧ (rCk (ckB c)).1 = c := by
 unfold okK
 rw [rCk_lay h]
 exact ⟨⟨rfl, hl, h⟩, rfl⟩

theorem mps_at {V : Nat → Obj → Prop} {A : Option Addr} {c : Nat} {l : List Mp} (h : SlRd V (.slice A l.length c) l.length 4 (l.flatMap mpV)) {i : Nat} (hi : i < l.length) : ∃ b k T fr arr, A = some ⟨b, k, none⟩ ∧ V b (.cells arr T fr) ∧ ((arr.toList.drop (k + i * 4)).take 4) = mpV l[i] := by
 obtain ⟨b, k, T, fr, arr, e, hb, hseg, _⟩ := h.elem hi
 refine ⟨b, k, T, fr, arr, e, hb, ?_⟩
 rw [hseg]
 have hf := flat_seg (f := mpV) mpV_len hi []
 rw [List.append_nil, Nat.zero_add] at hf
 exact hf
theorem lastP_b {nx : Int} {l : List Mp} (hn : nx ≤ 513) : ∀ {i : Nat}, i ≤ l.length → (∀ k (h : k < l.length), k < i → (l[k]).ok nx (lastP l k)) → (i : Int) ≤ lastP l i ∧ lastP l i ≤ 512
 | 0, _, _ => by rw [lastP_0]; decide
 | i + 1, hi, h => by
  have h1 := lastP_b hn (i := i) (by omega) fun k hk hki => h k hk (by omega)
  have h2 := (h i (by omega) (by omega)).1
  rw [lastP_succ (by omega)]; omega
theorem chk_in {I : Imm} {a lo hi : Int} : Spec Tryz.prog 31 [.int .i64 a, .int .i64 lo, .int .i64 hi] I [] (fun v J L => v = .bool (decide (lo ≤ a ∧ a ≤ hi)) ∧ I = J ∧ L = []) := by
 refine Spec.of Tryz.func31 rfl Tryz.ntmps31 (Nat.le_of_ble_eq_true rfl) (fun F => ?_)
 try simp only [nf]
 dsimp only [argsEnv]
 refine WP.seq ?_; refine WP.region [0] rfl ?_; refine WP.mv rfl rfl ?_; refine WP.nil (WP.next (WP.seq ?_))
 refine WP.region [0, 1, 2, 3, 4, 5, 6, 7, 8] rfl ?_; iterate 2 refine WP.mv rfl rfl ?_
 refine WP.split rfl rfl rfl rfl (Yld.geq rfl rfl rfl) (fun h1 => ?_) (fun h1 => ?_)
 ·refine WP.mv rfl rfl ?_
  iterate 2 refine WP.valG rfl rfl rfl rfl rfl rfl rfl (Yld.move rfl rfl) ?_
  refine WP.splitG rfl rfl rfl rfl rfl rfl rfl (Yld.leq rfl rfl rfl) (fun h2 => ?_) (fun h2 => ?_)
  ·refine WP.vl rfl (Yld.pickT rfl rfl rfl) ?_
   refine WP.mv rfl rfl ?_; refine WP.nil ?_; refine WP.sub [(0, _), (1, _), (2, _), (6, _)] ?_ ⟨rfl, rfl, rfl, rfl, trivial⟩
   refine WP.next (WP.ret ?_)
   refine WP.fn .ret (.inr rfl) (res1 rfl rfl) [] (Imm.le_refl _) ?_; exact ⟨congrArg Value.bool (by simp; omega), rfl, rfl⟩
  ·refine WP.vl rfl (Yld.pickT rfl rfl rfl) ?_
   refine WP.mv rfl rfl ?_; refine WP.nil ?_; refine WP.sub [(0, _), (1, _), (2, _), (6, _)] ?_ ⟨rfl, rfl, rfl, rfl, trivial⟩
   refine WP.next (WP.ret ?_)
   refine WP.fn .ret (.inr rfl) (res1 rfl rfl) [] (Imm.le_refl _) ?_; exact ⟨congrArg Value.bool (by simp; omega), rfl, rfl⟩
 ·refine WP.mv rfl rfl ?_
  iterate 3 refine WP.passG rfl rfl rfl rfl rfl rfl rfl rfl ?_
  refine WP.vl rfl (Yld.pickF rfl rfl rfl) ?_; refine WP.mv rfl rfl ?_; refine WP.nil ?_; refine WP.sub [(0, _), (1, _), (2, _), (6, _)] ?_ ⟨rfl, rfl, rfl, rfl, trivial⟩
  refine WP.next (WP.ret ?_)
  refine WP.fn .ret (.inr rfl) (res1 rfl rfl) [] (Imm.le_refl _) ?_; exact ⟨congrArg Value.bool (by simp; omega), rfl, rfl⟩

theorem rchk_in {I : Imm} {a lo hi : Int} : Spec Tryz.prog 34 [.int .i64 a, .int .i64 lo, .int .i64 hi] I [] (fun v J L => v = .bool (decide (lo ≤ a ∧ a ≤ hi)) ∧ I = J ∧ L = []) := by
 refine Spec.of Tryz.func34 rfl Tryz.ntmps34 (Nat.le_of_ble_eq_true rfl) (fun F => ?_)
 try simp only [nf]
 dsimp only [argsEnv]
 refine WP.seq ?_; refine WP.region [0] rfl ?_; refine WP.mv rfl rfl ?_; refine WP.nil (WP.next (WP.seq ?_))
 refine WP.region [0, 1, 2, 3, 4, 5, 6, 7, 8] rfl ?_; iterate 2 refine WP.mv rfl rfl ?_
 refine WP.split rfl rfl rfl rfl (Yld.geq rfl rfl rfl) (fun h1 => ?_) (fun h1 => ?_)
 ·refine WP.mv rfl rfl ?_
  iterate 2 refine WP.valG rfl rfl rfl rfl rfl rfl rfl (Yld.move rfl rfl) ?_
  refine WP.splitG rfl rfl rfl rfl rfl rfl rfl (Yld.leq rfl rfl rfl) (fun h2 => ?_) (fun h2 => ?_)
  ·refine WP.vl rfl (Yld.pickT rfl rfl rfl) ?_
   refine WP.mv rfl rfl ?_; refine WP.nil ?_; refine WP.sub [(0, _), (1, _), (2, _), (6, _)] ?_ ⟨rfl, rfl, rfl, rfl, trivial⟩
   refine WP.next (WP.ret ?_)
   refine WP.fn .ret (.inr rfl) (res1 rfl rfl) [] (Imm.le_refl _) ?_; exact ⟨congrArg Value.bool (by simp; omega), rfl, rfl⟩
  ·refine WP.vl rfl (Yld.pickT rfl rfl rfl) ?_
   refine WP.mv rfl rfl ?_; refine WP.nil ?_; refine WP.sub [(0, _), (1, _), (2, _), (6, _)] ?_ ⟨rfl, rfl, rfl, rfl, trivial⟩
   refine WP.next (WP.ret ?_)
   refine WP.fn .ret (.inr rfl) (res1 rfl rfl) [] (Imm.le_refl _) ?_; exact ⟨congrArg Value.bool (by simp; omega), rfl, rfl⟩
 ·refine WP.mv rfl rfl ?_
  iterate 3 refine WP.passG rfl rfl rfl rfl rfl rfl rfl rfl ?_
  refine WP.vl rfl (Yld.pickF rfl rfl rfl) ?_; refine WP.mv rfl rfl ?_; refine WP.nil ?_; refine WP.sub [(0, _), (1, _), (2, _), (6, _)] ?_ ⟨rfl, rfl, rfl, rfl, trivial⟩
  refine WP.next (WP.ret ?_)
  refine WP.fn .ret (.inr rfl) (res1 rfl rfl) [] (Imm.le_refl _) ?_; exact ⟨congrArg Value.bool (by simp; omega), rfl, rfl⟩

theorem chk_may {I : Imm} {c : Ck} {vp : Value} (hv : SlRd (Im I) vp c.ps.length 4 (c.ps.flatMap mpV)) : Spec Tryz.prog 14 [.agg (kV c vp).toArray] I [] (fun v J L => ∃ b : Bool, v = .bool b ∧ (b = true ↔ c.may) ∧ I = J ∧ L = []) := by
 obtain ⟨Ap, cp, rfl, _, _, _⟩ := id hv
 refine Spec.of Tryz.func14 rfl Tryz.ntmps14 (Nat.le_of_ble_eq_true rfl) (fun F => ?_)
 try simp only [nf]
 dsimp only [argsEnv]
 refine WP.seq ?_; refine WP.region [0, 1] rfl ?_; refine WP.loud rfl rfl ?_; refine Op.box rfl rfl rfl rfl rfl (fun b1 => ?_)
 refine WP.mv rfl rfl ?_; refine WP.nil (WP.next (WP.seq ?_))
 refine WP.region [0] rfl ?_; refine WP.mv rfl rfl ?_; refine WP.nil (WP.next (WP.seq (WP.seq ?_)))
 refine WP.region [0, 1, 2, 3, 4, 5, 6, 7, 8, 9, 10, 11, 12, 13, 14, 15, 16, 17, 18, 19, 20, 21, 22, 23, 24, 25] rfl ?_; refine WP.mv rfl rfl ?_; refine WP.vl rfl (Yld.fieldAddr rfl ty_fd_24_0 rfl) ?_; refine WP.vl rfl (Yld.ld rfl ty_sc_3 rfl rfl) ?_; refine WP.loud rfl rfl ?_; refine Op.callE chk_in (Enters.closure rfl Tryz.func31 rfl (us := []) rfl (vs := [_, _, _]) rfl) rfl rfl zT ?_; rintro v J L1 - ⟨rfl, rfl, rfl⟩
 try simp only [nf]
 by_cases h1 : (decide (1 ≤ c.fr ∧ c.fr ≤ 1099511627776)) = true
 ·try rw [h1]
  refine WP.vl rfl (Yld.not rfl rfl) ?_; refine WP.mv rfl rfl ?_; refine WP.valG rfl rfl rfl rfl rfl rfl rfl (Yld.move rfl rfl) ?_; refine WP.valG rfl rfl rfl rfl rfl rfl rfl (Yld.fieldAddr rfl ty_fd_24_1 rfl) ?_; refine WP.valG rfl rfl rfl rfl rfl rfl rfl (Yld.ld rfl ty_sc_3 rfl rfl) ?_; refine WP.loudG rfl rfl rfl rfl rfl ?_; refine Op.callE chk_in (Enters.closure rfl Tryz.func31 rfl (us := []) rfl (vs := [_, _, _]) rfl) rfl rfl zT ?_; rintro v J L1 - ⟨rfl, rfl, rfl⟩
  try simp only [nf]
  by_cases h2 : (decide (0 ≤ c.pl ∧ c.pl ≤ 1099511627776)) = true
  ·try rw [h2]
   refine WP.valG rfl rfl rfl rfl rfl rfl rfl (Yld.not rfl rfl) ?_; refine WP.vl rfl (Yld.pickF rfl rfl rfl) ?_; refine WP.mv rfl rfl ?_; refine WP.valG rfl rfl rfl rfl rfl rfl rfl (Yld.move rfl rfl) ?_; refine WP.valG rfl rfl rfl rfl rfl rfl rfl (Yld.fieldAddr rfl ty_fd_24_2 rfl) ?_; refine WP.valG rfl rfl rfl rfl rfl rfl rfl (Yld.ld rfl ty_sc_3 rfl rfl) ?_; refine WP.loudG rfl rfl rfl rfl rfl ?_; refine Op.callE chk_in (Enters.closure rfl Tryz.func31 rfl (us := []) rfl (vs := [_, _, _]) rfl) rfl rfl zT ?_; rintro v J L1 - ⟨rfl, rfl, rfl⟩
   try simp only [nf]
   by_cases h3 : (decide (0 ≤ c.root ∧ c.root ≤ 512)) = true
   ·try rw [h3]
    refine WP.valG rfl rfl rfl rfl rfl rfl rfl (Yld.not rfl rfl) ?_; refine WP.vl rfl (Yld.pickF rfl rfl rfl) ?_; refine WP.mv rfl rfl ?_; refine WP.valG rfl rfl rfl rfl rfl rfl rfl (Yld.move rfl rfl) ?_; refine WP.valG rfl rfl rfl rfl rfl rfl rfl (Yld.fieldAddr rfl ty_fd_24_3 rfl) ?_; refine WP.valG rfl rfl rfl rfl rfl rfl rfl (Yld.ld rfl ty_sc_3 rfl rfl) ?_; refine WP.loudG rfl rfl rfl rfl rfl ?_; refine Op.callE chk_in (Enters.closure rfl Tryz.func31 rfl (us := []) rfl (vs := [_, _, _]) rfl) rfl rfl zT ?_; rintro v J L1 - ⟨rfl, rfl, rfl⟩
    try simp only [nf]
    by_cases h4 : (decide (1 ≤ c.nx ∧ c.nx ≤ 513)) = true
    ·try rw [h4]
     refine WP.valG rfl rfl rfl rfl rfl rfl rfl (Yld.not rfl rfl) ?_; refine WP.vl rfl (Yld.pickF rfl rfl rfl) ?_; refine WP.nil ?_; refine WP.sub [(0, _), (1, _), (2, _), (3, _), (32, _)] ?_ ⟨rfl, rfl, rfl, rfl, rfl, trivial⟩
     refine WP.next ?_; refine WP.condF rfl ?_; refine WP.skip (WP.next (WP.seq ?_))
     have hd : c.hd := ⟨of_decide_eq_true h1, of_decide_eq_true h2, of_decide_eq_true h3, of_decide_eq_true h4⟩
     refine WP.region [0] rfl ?_; refine WP.mv rfl rfl ?_; refine WP.nil (WP.next (WP.seq (WP.seq ?_)))
     refine WP.region [0, 1, 2, 3] rfl ?_; refine WP.vl rfl (Yld.fieldAddr rfl ty_fd_24_4 rfl) ?_; refine WP.vl rfl (Yld.ld (v := .slice Ap c.ps.length cp) rfl ty_sc_22 rfl rfl) ?_; refine WP.vl rfl (Yld.len rfl ty_sl_22 rfl) ?_; refine WP.mv rfl rfl ?_; refine WP.nil ?_; refine WP.sub [(0, _), (1, _), (2, _), (3, _), (4, _), (32, _), (34, _), (35, _), (36, _)] ?_ ⟨rfl, rfl, rfl, rfl, rfl, rfl, rfl, rfl, rfl, trivial⟩
     refine WP.next (WP.block ?_)
     refine WP.loop (X := Nat) (fun i : Nat => [(1, .pointer (some ⟨b1, 0, none⟩)), (3, .func (.func 31) #[] #[]), (4, .int .i64 (lastP c.ps i)), (34, .slice Ap c.ps.length cp), (35, .int .i64 (c.ps.length : Int)), (36, .int .i64 (i : Int))]) (fun _ => I) (fun _ : Nat => (b1, row 24 (kV c (.slice Ap c.ps.length cp))) :: F) (fun i : Nat => i ≤ c.ps.length ∧ ∀ k (h : k < c.ps.length), k < i → (c.ps[k]).ok c.nx (lastP c.ps k)) (fun i => c.ps.length - i) 0 ⟨Nat.zero_le _, fun k h hk => absurd hk (Nat.not_lt_zero _)⟩ ⟨rfl, rfl, congrArg (fun z => some (Value.int .i64 z)) (lastP_0 _).symm, rfl, rfl, rfl, trivial⟩ rfl zP ?_; rintro i ⟨hle, hall⟩; have hlb := lastP_b hd.2.2.2.2 hle hall
     try dsimp only
     try simp only [nf]
     refine WP.seq ?_; refine WP.region [0] rfl ?_; refine WP.split rfl rfl rfl rfl (Yld.lss rfl rfl rfl) (fun hlt => ?_) (fun hlt => ?_)
     ·have hi : i < c.ps.length := by omega
      obtain ⟨bp, kp, Tp, fp, arp, ep, hbp, hcp⟩ := mps_at hv hi
      have hnx := hd.2.2.2
      refine WP.nil (WP.next (WP.seq ?_))
      refine WP.condT rfl ?_; refine WP.skip (WP.next (WP.seq (WP.block (WP.seq ?_))))
      refine WP.region [0, 1, 2, 3] rfl ?_; refine WP.vl rfl (Yld.indexAddr (i := i) rfl ty_sl_22 (congrArg (fun a => some (Value.slice a c.ps.length cp)) ep) rfl hi) ?_; refine WP.vl rfl (Yld.loadAggC (vs := mpV (c.ps[i])) rfl ty_ag_65 rfl (There.i hbp) hcp rfl) ?_; refine WP.loud rfl rfl ?_; refine Op.alloc rfl rfl rfl ty_zr_65 (fun b6 => ?_)
      refine WP.loud rfl rfl ?_; refine Op.sA rfl rfl ty_sz_65 rfl rfl rfl rfl rfl ?_; refine WP.nil ?_; refine WP.sub [(1, _), (3, _), (4, _), (6, _), (34, _), (35, _), (36, _), (37, _)] ?_ ⟨rfl, rfl, rfl, rfl, rfl, rfl, rfl, rfl, trivial⟩
      refine WP.next (WP.seq (WP.seq ?_))
      refine WP.region [0, 1, 2, 3, 4, 5, 6, 7, 8, 9, 10, 11, 12, 13, 14, 15, 16, 17, 18, 19, 20, 21, 22, 23, 24, 25, 26, 27, 28, 29, 30, 31, 32] rfl ?_; refine WP.mv rfl rfl ?_; refine WP.vl rfl (Yld.fieldAddr rfl ty_fd_65_0 rfl) ?_; refine WP.vl rfl (Yld.ld rfl ty_sc_3 rfl rfl) ?_; refine WP.mv rfl rfl ?_; refine WP.vl rfl (Yld.add64 rfl rfl rfl (by omega)) ?_; refine WP.vl rfl (Yld.fieldAddr rfl ty_fd_24_3 rfl) ?_; refine WP.vl rfl (Yld.ld rfl ty_sc_3 rfl rfl) ?_; refine WP.vl rfl (Yld.sub64 rfl rfl rfl (by omega)) ?_; refine WP.loud rfl rfl ?_; refine Op.callE chk_in (Enters.closure rfl Tryz.func31 rfl (us := []) rfl (vs := [_, _, _]) rfl) rfl rfl zT ?_; rintro v J L1 - ⟨rfl, rfl, rfl⟩
      try simp only [nf]
      by_cases q1 : (decide (lastP c.ps i + 1 ≤ c.ps[i].page ∧ c.ps[i].page ≤ c.nx - 1)) = true
      ·try rw [q1]
       refine WP.vl rfl (Yld.not rfl rfl) ?_; refine WP.mv rfl rfl ?_; refine WP.valG rfl rfl rfl rfl rfl rfl rfl (Yld.move rfl rfl) ?_; refine WP.valG rfl rfl rfl rfl rfl rfl rfl (Yld.fieldAddr rfl ty_fd_65_1 rfl) ?_; refine WP.valG rfl rfl rfl rfl rfl rfl rfl (Yld.ld rfl ty_sc_3 rfl rfl) ?_; refine WP.loudG rfl rfl rfl rfl rfl ?_; refine Op.callE chk_in (Enters.closure rfl Tryz.func31 rfl (us := []) rfl (vs := [_, _, _]) rfl) rfl rfl zT ?_; rintro v J L1 - ⟨rfl, rfl, rfl⟩
       try simp only [nf]
       by_cases q2 : (decide (1 ≤ c.ps[i].place ∧ c.ps[i].place ≤ 1099511627776)) = true
       ·try rw [q2]
        refine WP.valG rfl rfl rfl rfl rfl rfl rfl (Yld.not rfl rfl) ?_; refine WP.vl rfl (Yld.pickF rfl rfl rfl) ?_; refine WP.mv rfl rfl ?_; refine WP.valG rfl rfl rfl rfl rfl rfl rfl (Yld.move rfl rfl) ?_; refine WP.valG rfl rfl rfl rfl rfl rfl rfl (Yld.fieldAddr rfl ty_fd_65_2 rfl) ?_; refine WP.valG rfl rfl rfl rfl rfl rfl rfl (Yld.ld rfl ty_sc_3 rfl rfl) ?_; refine WP.loudG rfl rfl rfl rfl rfl ?_; refine Op.callE chk_in (Enters.closure rfl Tryz.func31 rfl (us := []) rfl (vs := [_, _, _]) rfl) rfl rfl zT ?_; rintro v J L1 - ⟨rfl, rfl, rfl⟩
        try simp only [nf]
        by_cases q3 : (decide (1 ≤ c.ps[i].no ∧ c.ps[i].no ≤ 1099511627776)) = true
        ·try rw [q3]
         refine WP.valG rfl rfl rfl rfl rfl rfl rfl (Yld.not rfl rfl) ?_; refine WP.vl rfl (Yld.pickF rfl rfl rfl) ?_; refine WP.mv rfl rfl ?_; refine WP.valG rfl rfl rfl rfl rfl rfl rfl (Yld.move rfl rfl) ?_; refine WP.valG rfl rfl rfl rfl rfl rfl rfl (Yld.fieldAddr rfl ty_fd_65_3 rfl) ?_; refine WP.valG rfl rfl rfl rfl rfl rfl rfl (Yld.ld rfl ty_sc_3 rfl rfl) ?_; refine WP.valG rfl rfl rfl rfl rfl rfl rfl (Yld.fieldAddr rfl ty_fd_65_1 rfl) ?_; refine WP.valG rfl rfl rfl rfl rfl rfl rfl (Yld.ld rfl ty_sc_3 rfl rfl) ?_; refine WP.loudG rfl rfl rfl rfl rfl ?_; refine Op.callE chk_in (Enters.closure rfl Tryz.func31 rfl (us := []) rfl (vs := [_, _, _]) rfl) rfl rfl zT ?_; rintro v J L1 - ⟨rfl, rfl, rfl⟩
         try simp only [nf]
         by_cases q4 : (decide (1 ≤ c.ps[i].low ∧ c.ps[i].low ≤ c.ps[i].place)) = true
         ·try rw [q4]
          refine WP.valG rfl rfl rfl rfl rfl rfl rfl (Yld.not rfl rfl) ?_; refine WP.vl rfl (Yld.pickF rfl rfl rfl) ?_; refine WP.nil ?_; refine WP.sub [(1, _), (3, _), (4, _), (6, _), (34, _), (35, _), (36, _), (37, _), (72, _)] ?_ ⟨rfl, rfl, rfl, rfl, rfl, rfl, rfl, rfl, rfl, trivial⟩
          refine WP.next ?_; refine WP.condF rfl ?_; refine WP.skip (WP.next ?_)
          refine WP.region [0, 1, 2] rfl ?_; refine WP.vl rfl (Yld.fieldAddr rfl ty_fd_65_0 rfl) ?_; refine WP.vl rfl (Yld.ld rfl ty_sc_3 rfl rfl) ?_; refine WP.mv rfl rfl ?_; refine WP.nil ?_; refine WP.sub [(1, _), (3, _), (4, _), (6, _), (34, _), (35, _), (36, _), (37, _), (72, _)] ?_ ⟨rfl, rfl, rfl, rfl, rfl, rfl, rfl, rfl, rfl, trivial⟩
          refine WP.leave (WP.next ?_)
          refine WP.region [0, 1] rfl ?_; refine WP.vl rfl (Yld.add64 rfl rfl rfl (by omega)) ?_; refine WP.mv rfl rfl ?_; refine WP.nil ?_; refine WP.sub [(1, _), (3, _), (4, _), (6, _), (34, _), (35, _), (36, _), (37, _), (72, _)] ?_ ⟨rfl, rfl, rfl, rfl, rfl, rfl, rfl, rfl, rfl, trivial⟩
          exact WP.ag (i + 1) ⟨hi, fun k h hk => by
    rcases Nat.lt_succ_iff_lt_or_eq.1 hk with hk | hk
    ·exact hall k h hk
    ·subst hk; exact ⟨of_decide_eq_true q1, of_decide_eq_true q2, of_decide_eq_true q3, of_decide_eq_true q4⟩⟩ (show c.ps.length - (i + 1) < c.ps.length - i by omega) ⟨rfl, rfl, congrArg (fun z => some (Value.int .i64 z)) (lastP_succ hi).symm, rfl, rfl, rfl, trivial⟩ rfl
         ·have q4 : (decide (1 ≤ c.ps[i].low ∧ c.ps[i].low ≤ c.ps[i].place)) = false := eq_false_of_ne_true q4
          try rw [q4]
          refine WP.valG rfl rfl rfl rfl rfl rfl rfl (Yld.not rfl rfl) ?_; refine WP.vl rfl (Yld.pickF rfl rfl rfl) ?_; refine WP.nil ?_; refine WP.sub [(1, _), (3, _), (4, _), (6, _), (34, _), (35, _), (36, _), (37, _), (72, _)] ?_ ⟨rfl, rfl, rfl, rfl, rfl, rfl, rfl, rfl, rfl, trivial⟩
          refine WP.next ?_; refine WP.condT rfl ?_; refine WP.seq ?_; refine WP.region [0] rfl ?_; refine WP.mv rfl rfl ?_; refine WP.nil (WP.next (WP.ret ?_))
          refine WP.fn .ret (.inr rfl) (res1 rfl rfl) [] (Imm.le_refl _) ?_; exact ⟨false, rfl, ⟨fun h => (by cases h), fun h => by first | exact absurd (h.2 i hi).2.2.2 (of_decide_eq_false q4)⟩, rfl, rfl⟩
        ·have q3 : (decide (1 ≤ c.ps[i].no ∧ c.ps[i].no ≤ 1099511627776)) = false := eq_false_of_ne_true q3
         try rw [q3]
         refine WP.valG rfl rfl rfl rfl rfl rfl rfl (Yld.not rfl rfl) ?_; refine WP.vl rfl (Yld.pickF rfl rfl rfl) ?_; refine WP.mv rfl rfl ?_; iterate 7 refine WP.passG rfl rfl rfl rfl rfl rfl rfl rfl ?_
         refine WP.vl rfl (Yld.pickT rfl rfl rfl) ?_; refine WP.nil ?_; refine WP.sub [(1, _), (3, _), (4, _), (6, _), (34, _), (35, _), (36, _), (37, _), (72, _)] ?_ ⟨rfl, rfl, rfl, rfl, rfl, rfl, rfl, rfl, rfl, trivial⟩
         refine WP.next ?_; refine WP.condT rfl ?_; refine WP.seq ?_; refine WP.region [0] rfl ?_; refine WP.mv rfl rfl ?_; refine WP.nil (WP.next (WP.ret ?_))
         refine WP.fn .ret (.inr rfl) (res1 rfl rfl) [] (Imm.le_refl _) ?_; exact ⟨false, rfl, ⟨fun h => (by cases h), fun h => by first | exact absurd (h.2 i hi).2.2.1 (of_decide_eq_false q3)⟩, rfl, rfl⟩
       ·have q2 : (decide (1 ≤ c.ps[i].place ∧ c.ps[i].place ≤ 1099511627776)) = false := eq_false_of_ne_true q2
        try rw [q2]
        refine WP.valG rfl rfl rfl rfl rfl rfl rfl (Yld.not rfl rfl) ?_; refine WP.vl rfl (Yld.pickF rfl rfl rfl) ?_; refine WP.mv rfl rfl ?_; iterate 5 refine WP.passG rfl rfl rfl rfl rfl rfl rfl rfl ?_
        refine WP.vl rfl (Yld.pickT rfl rfl rfl) ?_; refine WP.mv rfl rfl ?_; iterate 7 refine WP.passG rfl rfl rfl rfl rfl rfl rfl rfl ?_
        refine WP.vl rfl (Yld.pickT rfl rfl rfl) ?_; refine WP.nil ?_; refine WP.sub [(1, _), (3, _), (4, _), (6, _), (34, _), (35, _), (36, _), (37, _), (72, _)] ?_ ⟨rfl, rfl, rfl, rfl, rfl, rfl, rfl, rfl, rfl, trivial⟩
        refine WP.next ?_; refine WP.condT rfl ?_; refine WP.seq ?_; refine WP.region [0] rfl ?_; refine WP.mv rfl rfl ?_; refine WP.nil (WP.next (WP.ret ?_))
        refine WP.fn .ret (.inr rfl) (res1 rfl rfl) [] (Imm.le_refl _) ?_; exact ⟨false, rfl, ⟨fun h => (by cases h), fun h => by first | exact absurd (h.2 i hi).2.1 (of_decide_eq_false q2)⟩, rfl, rfl⟩
      ·have q1 : (decide (lastP c.ps i + 1 ≤ c.ps[i].page ∧ c.ps[i].page ≤ c.nx - 1)) = false := eq_false_of_ne_true q1
       try rw [q1]
       refine WP.vl rfl (Yld.not rfl rfl) ?_; refine WP.mv rfl rfl ?_; iterate 5 refine WP.passG rfl rfl rfl rfl rfl rfl rfl rfl ?_
       refine WP.vl rfl (Yld.pickT rfl rfl rfl) ?_; refine WP.mv rfl rfl ?_; iterate 5 refine WP.passG rfl rfl rfl rfl rfl rfl rfl rfl ?_
       refine WP.vl rfl (Yld.pickT rfl rfl rfl) ?_; refine WP.mv rfl rfl ?_; iterate 7 refine WP.passG rfl rfl rfl rfl rfl rfl rfl rfl ?_
       refine WP.vl rfl (Yld.pickT rfl rfl rfl) ?_; refine WP.nil ?_; refine WP.sub [(1, _), (3, _), (4, _), (6, _), (34, _), (35, _), (36, _), (37, _), (72, _)] ?_ ⟨rfl, rfl, rfl, rfl, rfl, rfl, rfl, rfl, rfl, trivial⟩
       refine WP.next ?_; refine WP.condT rfl ?_; refine WP.seq ?_; refine WP.region [0] rfl ?_; refine WP.mv rfl rfl ?_; refine WP.nil (WP.next (WP.ret ?_))
       refine WP.fn .ret (.inr rfl) (res1 rfl rfl) [] (Imm.le_refl _) ?_; exact ⟨false, rfl, ⟨fun h => (by cases h), fun h => by first | exact absurd (h.2 i hi).1 (of_decide_eq_false q1)⟩, rfl, rfl⟩
     ·refine WP.nil ?_
      refine WP.next (WP.seq ?_)
      refine WP.condF rfl ?_; refine WP.exit (WP.thenE (WP.thenE (WP.hit (WP.next (WP.seq ?_)))))
      refine WP.region [0] rfl ?_; refine WP.mv rfl rfl ?_; refine WP.nil (WP.next (WP.ret ?_))
      refine WP.fn .ret (.inr rfl) (res1 rfl rfl) [] (Imm.le_refl _) ?_; exact ⟨true, rfl, ⟨fun _ => ⟨hd, fun k hk => hall k hk (by omega)⟩, fun _ => rfl⟩, rfl, rfl⟩
    ·have h4 : (decide (1 ≤ c.nx ∧ c.nx ≤ 513)) = false := eq_false_of_ne_true h4
     try rw [h4]
     refine WP.valG rfl rfl rfl rfl rfl rfl rfl (Yld.not rfl rfl) ?_; refine WP.vl rfl (Yld.pickF rfl rfl rfl) ?_; refine WP.nil ?_; refine WP.sub [(0, _), (1, _), (2, _), (3, _), (32, _)] ?_ ⟨rfl, rfl, rfl, rfl, rfl, trivial⟩
     refine WP.next ?_; refine WP.condT rfl ?_; refine WP.seq ?_; refine WP.region [0] rfl ?_; refine WP.mv rfl rfl ?_; refine WP.nil (WP.next (WP.ret ?_))
     refine WP.fn .ret (.inr rfl) (res1 rfl rfl) [] (Imm.le_refl _) ?_; exact ⟨false, rfl, ⟨fun h => (by cases h), fun h => by first | exact absurd h.1.2.2.2 (of_decide_eq_false h4)⟩, rfl, rfl⟩
   ·have h3 : (decide (0 ≤ c.root ∧ c.root ≤ 512)) = false := eq_false_of_ne_true h3
    try rw [h3]
    refine WP.valG rfl rfl rfl rfl rfl rfl rfl (Yld.not rfl rfl) ?_; refine WP.vl rfl (Yld.pickF rfl rfl rfl) ?_; refine WP.mv rfl rfl ?_; iterate 5 refine WP.passG rfl rfl rfl rfl rfl rfl rfl rfl ?_
    refine WP.vl rfl (Yld.pickT rfl rfl rfl) ?_; refine WP.nil ?_; refine WP.sub [(0, _), (1, _), (2, _), (3, _), (32, _)] ?_ ⟨rfl, rfl, rfl, rfl, rfl, trivial⟩
    refine WP.next ?_; refine WP.condT rfl ?_; refine WP.seq ?_; refine WP.region [0] rfl ?_; refine WP.mv rfl rfl ?_; refine WP.nil (WP.next (WP.ret ?_))
    refine WP.fn .ret (.inr rfl) (res1 rfl rfl) [] (Imm.le_refl _) ?_; exact ⟨false, rfl, ⟨fun h => (by cases h), fun h => by first | exact absurd h.1.2.2.1 (of_decide_eq_false h3)⟩, rfl, rfl⟩
  ·have h2 : (decide (0 ≤ c.pl ∧ c.pl ≤ 1099511627776)) = false := eq_false_of_ne_true h2
   try rw [h2]
   refine WP.valG rfl rfl rfl rfl rfl rfl rfl (Yld.not rfl rfl) ?_; refine WP.vl rfl (Yld.pickF rfl rfl rfl) ?_; refine WP.mv rfl rfl ?_; iterate 5 refine WP.passG rfl rfl rfl rfl rfl rfl rfl rfl ?_
   refine WP.vl rfl (Yld.pickT rfl rfl rfl) ?_; refine WP.mv rfl rfl ?_; iterate 5 refine WP.passG rfl rfl rfl rfl rfl rfl rfl rfl ?_
   refine WP.vl rfl (Yld.pickT rfl rfl rfl) ?_; refine WP.nil ?_; refine WP.sub [(0, _), (1, _), (2, _), (3, _), (32, _)] ?_ ⟨rfl, rfl, rfl, rfl, rfl, trivial⟩
   refine WP.next ?_; refine WP.condT rfl ?_; refine WP.seq ?_; refine WP.region [0] rfl ?_; refine WP.mv rfl rfl ?_; refine WP.nil (WP.next (WP.ret ?_))
   refine WP.fn .ret (.inr rfl) (res1 rfl rfl) [] (Imm.le_refl _) ?_; exact ⟨false, rfl, ⟨fun h => (by cases h), fun h => by first | exact absurd h.1.2.1 (of_decide_eq_false h2)⟩, rfl, rfl⟩
 ·have h1 : (decide (1 ≤ c.fr ∧ c.fr ≤ 1099511627776)) = false := eq_false_of_ne_true h1
  try rw [h1]
  refine WP.vl rfl (Yld.not rfl rfl) ?_; refine WP.mv rfl rfl ?_; iterate 5 refine WP.passG rfl rfl rfl rfl rfl rfl rfl rfl ?_
  refine WP.vl rfl (Yld.pickT rfl rfl rfl) ?_; refine WP.mv rfl rfl ?_; iterate 5 refine WP.passG rfl rfl rfl rfl rfl rfl rfl rfl ?_
  refine WP.vl rfl (Yld.pickT rfl rfl rfl) ?_; refine WP.mv rfl rfl ?_; iterate 5 refine WP.passG rfl rfl rfl rfl rfl rfl rfl rfl ?_
  refine WP.vl rfl (Yld.pickT rfl rfl rfl) ?_; refine WP.nil ?_; refine WP.sub [(0, _), (1, _), (2, _), (3, _), (32, _)] ?_ ⟨rfl, rfl, rfl, rfl, rfl, trivial⟩
  refine WP.next ?_; refine WP.condT rfl ?_; refine WP.seq ?_; refine WP.region [0] rfl ?_; refine WP.mv rfl rfl ?_; refine WP.nil (WP.next (WP.ret ?_))
  refine WP.fn .ret (.inr rfl) (res1 rfl rfl) [] (Imm.le_refl _) ?_; exact ⟨false, rfl, ⟨fun h => (by cases h), fun h => by first | exact absurd h.1.1 (of_decide_eq_false h1)⟩, rfl, rfl⟩


end Go.Hp
