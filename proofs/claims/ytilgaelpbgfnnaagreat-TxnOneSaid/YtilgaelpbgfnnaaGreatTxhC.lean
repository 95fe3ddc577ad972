import Derived.Test.YtilgaelpbgfnnaaGreatTxhB
set_option linter.unusedVariables false
set_option linter.unusedSimpArgs false
namespace Go.Hp
open Go Go.Proofs

inductive HSt (x : Lg) (tb : Tb) (z : Hm) : Bool → Hm → Lg → Tb → Prop
 | begin (h : z.at_ = 0) : HSt x tb z (z.begins tb).1 (z.begins tb).2 x tb
 | follow (h : z.at_ = 1) : HSt x tb z (z.follows tb).1 (z.follows tb).2 x tb
 | take (h : z.at_ = 4) : HSt x tb z false ((z.setC ({ z.c with hn := x.no, hp := x.pl } : Cm)).go 5) x tb
 | commit (h : z.at_ = 5) {e : Int} {x2 : Lg} (he : e = x.apE z.c.hn z.c.hp 4 (numB z.c.txn.toNat)) (ha : ApK x 4 (numB z.c.txn.toNat) e x2) : HSt x tb z (z.commits e).1 (z.commits e).2 x2 tb
 | look (h : z.at_ = 6) : HSt x tb z (z.looks tb).1 (z.looks tb).2 x tb
 | clear (h : z.at_ = 7) (h0 : 0 < z.c.clear.length) {r : Int} {tb2 : Tb} (hs : SwR tb (z.c.clear[0]'h0) z.c.ent.tok z.c.ent.clr r tb2) : HSt x tb z (z.clears r).1 (z.clears r).2 x tb2
 | nil (h : 9 ≤ z.at_) : HSt x tb z true z x tb
structure Hm.pre (z : Hm) (tb : Tb) : Prop where
 tok : tb.tok + 1 < 18446744073709551616
 clr : z.at_ = 6 ∨ z.at_ = 7 → 0 < z.c.clear.length
 com : z.at_ = 5 → 1 ≤ z.c.txn ∧ z.c.txn ≤ 1099511627776
 at_ : z.at_ = 0 ∨ z.at_ = 1 ∨ z.at_ = 4 ∨ z.at_ = 5 ∨ z.at_ = 6 ∨ z.at_ = 7 ∨ 9 ≤ z.at_
def HStQ (l s d n g t T : Nat) (ex : List Value) (x : Lg) (y : Dk) (tb : Tb) (z : Hm) (v : Value) (J : Imm) (L : Chunks) : Prop := ∃ b z2 x2 tb2 Lg2 Lt2 Ll2, HSt x tb z b z2 x2 tb2 ∧ v = .bool b ∧ L = Lg2 ++ (Lt2 ++ Ll2) ∧ IsHl J g l t T ex z2 Lg2 ∧ IsT J t tb2 Lt2 ∧ IsLog J l s d n x2 y Ll2
theorem hnextV_9 {g k : Nat} (h : 9 ≤ k) : hnextV g k = .nilFunc := by
 obtain ⟨m, rfl⟩ := Nat.exists_eq_add_of_le h
 rw [Nat.add_comm]; rfl
theorem txh_Step0 {I : Imm} {g l t T : Nat} {ex : List Value} {z : Hm} {Lgr : Chunks} (hg : IsHl I g l t T ex z Lgr) {tb : Tb} {Lt : Chunks} (hT : IsT I t tb Lt) {s d n : Nat} {x : Lg} {y : Dk} {Ll : Chunks} (hlg : IsLog I l s d n x y Ll) (hpr : z.pre tb) (hk0 : z.at_ = 0) : Spec Tryz.prog 15 [.pointer (some ⟨g, 0, none⟩)] I (Lgr ++ (Lt ++ Ll)) (HStQ l s d n g t T ex x y tb z) := by
 have sp : Spec Tryz.prog 57 [.pointer (some ⟨g, 0, none⟩)] I (Lgr ++ (Lt ++ Ll)) (HStQ l s d n g t T ex x y tb z) := Spec.withL (txh_begin hg hT) (by
  rintro v J L1 hJ ⟨rfl, Lg2, Lt2, rfl, h1, h2⟩
  exact ⟨_, _, rfl, ⟨_, _, _, _, _, _, _, .begin hk0, rfl, rfl, h1, h2, hlg.mono hJ⟩⟩)
 cases hg with
 | mk hc hn hw hs => exact txn_StepF (by rw [hk0]; rfl) Tryz.func57 rfl sp (by rintro v J L ⟨b, _, _, _, _, _, _, _, rfl, _⟩; exact ⟨b, rfl⟩)
theorem txh_Step1 {I : Imm} {g l t T : Nat} {ex : List Value} {z : Hm} {Lgr : Chunks} (hg : IsHl I g l t T ex z Lgr) {tb : Tb} {Lt : Chunks} (hT : IsT I t tb Lt) {s d n : Nat} {x : Lg} {y : Dk} {Ll : Chunks} (hlg : IsLog I l s d n x y Ll) (hpr : z.pre tb) (hk0 : z.at_ = 1) : Spec Tryz.prog 15 [.pointer (some ⟨g, 0, none⟩)] I (Lgr ++ (Lt ++ Ll)) (HStQ l s d n g t T ex x y tb z) := by
 have sp : Spec Tryz.prog 118 [.pointer (some ⟨g, 0, none⟩)] I (Lgr ++ (Lt ++ Ll)) (HStQ l s d n g t T ex x y tb z) := Spec.withL (txh_follows hg hT) (by
  rintro v J L1 hJ ⟨rfl, Lg2, Lt2, rfl, h1, h2⟩
  exact ⟨_, _, rfl, ⟨_, _, _, _, _, _, _, .follow hk0, rfl, rfl, h1, h2, hlg.mono hJ⟩⟩)
 cases hg with
 | mk hc hn hw hs => exact txn_StepF (by rw [hk0]; rfl) Tryz.func118 rfl sp (by rintro v J L ⟨b, _, _, _, _, _, _, _, rfl, _⟩; exact ⟨b, rfl⟩)
theorem txh_Step4 {I : Imm} {g l t T : Nat} {ex : List Value} {z : Hm} {Lgr : Chunks} (hg : IsHl I g l t T ex z Lgr) {tb : Tb} {Lt : Chunks} (hT : IsT I t tb Lt) {s d n : Nat} {x : Lg} {y : Dk} {Ll : Chunks} (hlg : IsLog I l s d n x y Ll) (hpr : z.pre tb) (hk0 : z.at_ = 4) : Spec Tryz.prog 15 [.pointer (some ⟨g, 0, none⟩)] I (Lgr ++ (Lt ++ Ll)) (HStQ l s d n g t T ex x y tb z) := by
 have sp : Spec Tryz.prog 160 [.pointer (some ⟨g, 0, none⟩)] I (Lgr ++ (Lt ++ Ll)) (HStQ l s d n g t T ex x y tb z) := Spec.withT (txh_takes hg hlg) (by
  rintro v J L1 hJ ⟨rfl, rfl, Lg2, rfl, h1⟩
  exact ⟨_, _, rfl, ⟨_, _, _, _, _, _, _, .take hk0, rfl, rfl, h1, hT.mono hJ, hlg.mono hJ⟩⟩)
 cases hg with
 | mk hc hn hw hs => exact txn_StepF (by rw [hk0]; rfl) Tryz.func160 rfl sp (by rintro v J L ⟨b, _, _, _, _, _, _, _, rfl, _⟩; exact ⟨b, rfl⟩)
theorem txh_Step5 {I : Imm} {g l t T : Nat} {ex : List Value} {z : Hm} {Lgr : Chunks} (hg : IsHl I g l t T ex z Lgr) {tb : Tb} {Lt : Chunks} (hT : IsT I t tb Lt) {s d n : Nat} {x : Lg} {y : Dk} {Ll : Chunks} (hlg : IsLog I l s d n x y Ll) (hpr : z.pre tb) (hk0 : z.at_ = 5) : Spec Tryz.prog 15 [.pointer (some ⟨g, 0, none⟩)] I (Lgr ++ (Lt ++ Ll)) (HStQ l s d n g t T ex x y tb z) := by
 have sp : Spec Tryz.prog 185 [.pointer (some ⟨g, 0, none⟩)] I (Lgr ++ (Lt ++ Ll)) (HStQ l s d n g t T ex x y tb z) := Spec.withT (txh_commits hg hlg (hpr.com hk0)) (by
  rintro v J L1 hJ ⟨e, x2, Lg2, Ll2, he, ha, rfl, rfl, h1, h2⟩
  exact ⟨_, _, rfl, ⟨_, _, _, _, _, _, _, .commit hk0 he ha, rfl, rfl, h1, hT.mono hJ, h2⟩⟩)
 cases hg with
 | mk hc hn hw hs => exact txn_StepF (by rw [hk0]; rfl) Tryz.func185 rfl sp (by rintro v J L ⟨b, _, _, _, _, _, _, _, rfl, _⟩; exact ⟨b, rfl⟩)
theorem txh_Step6 {I : Imm} {g l t T : Nat} {ex : List Value} {z : Hm} {Lgr : Chunks} (hg : IsHl I g l t T ex z Lgr) {tb : Tb} {Lt : Chunks} (hT : IsT I t tb Lt) {s d n : Nat} {x : Lg} {y : Dk} {Ll : Chunks} (hlg : IsLog I l s d n x y Ll) (hpr : z.pre tb) (hk0 : z.at_ = 6) : Spec Tryz.prog 15 [.pointer (some ⟨g, 0, none⟩)] I (Lgr ++ (Lt ++ Ll)) (HStQ l s d n g t T ex x y tb z) := by
 have sp : Spec Tryz.prog 189 [.pointer (some ⟨g, 0, none⟩)] I (Lgr ++ (Lt ++ Ll)) (HStQ l s d n g t T ex x y tb z) := Spec.withL (txh_looks hg hT (hpr.clr (.inl hk0))) (by
  rintro v J L1 hJ ⟨rfl, Lg2, Lt2, rfl, h1, h2⟩
  exact ⟨_, _, rfl, ⟨_, _, _, _, _, _, _, .look hk0, rfl, rfl, h1, h2, hlg.mono hJ⟩⟩)
 cases hg with
 | mk hc hn hw hs => exact txn_StepF (by rw [hk0]; rfl) Tryz.func189 rfl sp (by rintro v J L ⟨b, _, _, _, _, _, _, _, rfl, _⟩; exact ⟨b, rfl⟩)
theorem txh_Step7 {I : Imm} {g l t T : Nat} {ex : List Value} {z : Hm} {Lgr : Chunks} (hg : IsHl I g l t T ex z Lgr) {tb : Tb} {Lt : Chunks} (hT : IsT I t tb Lt) {s d n : Nat} {x : Lg} {y : Dk} {Ll : Chunks} (hlg : IsLog I l s d n x y Ll) (hpr : z.pre tb) (hk0 : z.at_ = 7) : Spec Tryz.prog 15 [.pointer (some ⟨g, 0, none⟩)] I (Lgr ++ (Lt ++ Ll)) (HStQ l s d n g t T ex x y tb z) := by
 have sp : Spec Tryz.prog 191 [.pointer (some ⟨g, 0, none⟩)] I (Lgr ++ (Lt ++ Ll)) (HStQ l s d n g t T ex x y tb z) := Spec.withL (txh_clears hg hT (hpr.clr (.inr hk0)) hpr.tok) (by
  rintro v J L1 hJ ⟨r, tb2, Lg2, Lt2, hq, rfl, rfl, h1, h2⟩
  exact ⟨_, _, rfl, ⟨_, _, _, _, _, _, _, .clear hk0 _ hq, rfl, rfl, h1, h2, hlg.mono hJ⟩⟩)
 cases hg with
 | mk hc hn hw hs => exact txn_StepF (by rw [hk0]; rfl) Tryz.func191 rfl sp (by rintro v J L ⟨b, _, _, _, _, _, _, _, rfl, _⟩; exact ⟨b, rfl⟩)
theorem txh_Step9 {I : Imm} {g l t T : Nat} {ex : List Value} {z : Hm} {Lgr : Chunks} (hg : IsHl I g l t T ex z Lgr) {tb : Tb} {Lt : Chunks} (hT : IsT I t tb Lt) {s d n : Nat} {x : Lg} {y : Dk} {Ll : Chunks} (hlg : IsLog I l s d n x y Ll) (hk0 : 9 ≤ z.at_) : Spec Tryz.prog 15 [.pointer (some ⟨g, 0, none⟩)] I (Lgr ++ (Lt ++ Ll)) (HStQ l s d n g t T ex x y tb z) := by
 have sp : Spec Tryz.prog 15 [.pointer (some ⟨g, 0, none⟩)] I (Lgr ++ []) (fun v J L => v = .bool true ∧ I = J ∧ L = Lgr) := by
  cases hg with
  | mk hc hn hw hs => rw [hnextV_9 hk0]; exact txn_StepN (nx := .nilFunc)
 have := Spec.withL (G := Lt ++ Ll) sp (R' := HStQ l s d n g t T ex x y tb z) (by
  rintro v J L1 hJ ⟨rfl, rfl, rfl⟩
  exact ⟨_, [], (List.append_nil _).symm, ⟨true, z, x, tb, _, Lt, Ll, .nil hk0, rfl, rfl, hg, hT, hlg⟩⟩)
 exact this
theorem txh_Step {I : Imm} {g l t T : Nat} {ex : List Value} {z : Hm} {Lgr : Chunks} (hg : IsHl I g l t T ex z Lgr) {tb : Tb} {Lt : Chunks} (hT : IsT I t tb Lt) {s d n : Nat} {x : Lg} {y : Dk} {Ll : Chunks} (hlg : IsLog I l s d n x y Ll) (hpr : z.pre tb) : Spec Tryz.prog 15 [.pointer (some ⟨g, 0, none⟩)] I (Lgr ++ (Lt ++ Ll)) (HStQ l s d n g t T ex x y tb z) := by
 rcases hpr.at_ with h | h | h | h | h | h | h
 ·exact txh_Step0 hg hT hlg hpr h
 ·exact txh_Step1 hg hT hlg hpr h
 ·exact txh_Step4 hg hT hlg hpr h
 ·exact txh_Step5 hg hT hlg hpr h
 ·exact txh_Step6 hg hT hlg hpr h
 ·exact txh_Step7 hg hT hlg hpr h
 ·exact txh_Step9 hg hT hlg h
structure RhX where
 i : Nat
 z : Hm
 x : Lg
 tb : Tb
 J : Imm
 Lg : Chunks
 Lt : Chunks
 Ll : Chunks
/-- What holds of a machine that is stepped alone until it ends. -/
structure HInv (Inv : Nat → Lg → Tb → Hm → Prop) : Prop where
 pre : ∀ m x tb z, Inv m x tb z → z.pre tb
 step : ∀ m x tb z b z2 x2 tb2, Inv m x tb z → HSt x tb z b z2 x2 tb2 → (b = true ∧ Inv 0 x2 tb2 z2 ∧ z2.at_ = 9) ∨ (b = false ∧ ∃ m', m' < m ∧ Inv m' x2 tb2 z2)
structure GInv (Inv : Nat → Lg → Tb → Gp → Prop) : Prop where
 pre : ∀ m x tb z, Inv m x tb z → z.pre tb
 step : ∀ m x tb z b z2 x2 tb2, Inv m x tb z → Stp x tb z b z2 x2 tb2 → (b = true ∧ Inv 0 x2 tb2 z2 ∧ z2.at_ = 9) ∨ (b = false ∧ ∃ m', m' < m ∧ Inv m' x2 tb2 z2)
theorem txn_runGroupI {I : Imm} {g l t : Nat} {z : Gp} {Lgr : Chunks} (hg : IsGr I g l t z Lgr) {tb : Tb} {Lt : Chunks} (hT : IsT I t tb Lt) {s d n : Nat} {x : Lg} {y : Dk} {Ll : Chunks} (hlg : IsLog I l s d n x y Ll) {Inv : Nat → Lg → Tb → Gp → Prop} (hI : GInv Inv) {m0 : Nat} (hm0 : m0 + 0 ≤ 299) (hi0 : Inv m0 x tb z) : Spec Tryz.prog 16 [.pointer (some ⟨g, 0, none⟩)] I (Lgr ++ (Lt ++ Ll)) (fun v J L => ∃ z2 x2 tb2 Lg2 Lt2 Ll2, v = .tuple #[] ∧ L = Lg2 ++ (Lt2 ++ Ll2) ∧ IsGr J g l t z2 Lg2 ∧ IsT J t tb2 Lt2 ∧ IsLog J l s d n x2 y Ll2 ∧ Inv 0 x2 tb2 z2 ∧ z2.at_ = 9) := by
 refine Spec.of Tryz.func16 rfl Tryz.ntmps16 (Nat.le_of_ble_eq_true rfl) (fun F => ?_)
 try simp only [nf]
 dsimp only [argsEnv]
 refine WP.seq ?_; refine WP.region [0] rfl ?_; refine WP.mv rfl rfl ?_; refine WP.nil (WP.next (WP.block ?_))
 refine WP.loop (X := RnX) (fun u : RnX => [(0, .pointer (some ⟨g, 0, none⟩)), (2, .int .i64 (u.i : Int))]) (fun u => u.J) (fun u : RnX => u.Lg ++ (u.Lt ++ (u.Ll ++ F))) (fun u : RnX => I.le u.J ∧ IsGr u.J g l t u.z u.Lg ∧ IsT u.J t u.tb u.Lt ∧ IsLog u.J l s d n u.x y u.Ll ∧ ∃ m, m + u.i ≤ 299 ∧ Inv m u.x u.tb u.z) (fun u => 300 - u.i) ⟨0, z, x, tb, I, Lgr, Lt, Ll⟩ ⟨Imm.le_refl _, hg, hT, hlg, m0, hm0, hi0⟩ ⟨rfl, rfl, trivial⟩ rfl zA ?_; rintro ⟨i, u_z, u_x, u_tb, J, L1, L2, L3⟩ ⟨hJ, hg1, hT1, hl1, m, hmm, hinv⟩; dsimp only at hJ hg1 hT1 hl1 hmm hinv
 try dsimp only
 try simp only [nf]
 refine WP.seq (WP.seq ?_)
 refine WP.region [0, 1] rfl ?_; refine WP.mv rfl rfl ?_; refine WP.split rfl rfl rfl rfl (Yld.lss rfl rfl rfl) (fun hlt => ?_) (fun hlt => ?_)
 ·refine WP.nil ?_
  refine WP.sub [(0, _), (2, _), (5, _)] ?_ ⟨rfl, rfl, rfl, trivial⟩
  refine WP.next ?_; refine WP.condT rfl ?_; refine WP.skip (WP.next (WP.seq (WP.block (WP.seq ?_))))
  refine WP.region [0, 1, 2, 3, 4, 5] rfl ?_; refine WP.mv rfl rfl ?_; refine WP.vl rfl (Yld.nilCheck rfl rfl) ?_; refine WP.vl rfl (Yld.fieldAddr rfl ty_fd_60_0 rfl) ?_; refine WP.vl rfl (Yld.fieldAddr rfl ty_fd_58_0 rfl) ?_; refine WP.loud rfl rfl ?_; refine Op.cl (txn_Step hg1 hT1 hl1 (hI.pre _ _ _ _ hinv)) rfl Tryz.func15 rfl rfl rfl rfl ?_; rintro v J2 L9 hJ2 ⟨b, z2, x2, tb2, Lg2, Lt2, Ll2, hst, rfl, rfl, hg2, hT2, hl2⟩
  try simp only [nf]
  try simp only [nf]
  have hw := hI.step _ _ _ _ _ _ _ _ hinv hst
  by_cases hb : b = true
  ·try rw [hb]
   refine WP.mv rfl rfl ?_; refine WP.nil ?_; refine WP.sub [(0, _), (2, _), (3, _), (5, _)] ?_ ⟨rfl, rfl, rfl, rfl, trivial⟩
   refine WP.next (WP.seq ?_)
   refine WP.region [0] rfl ?_; refine WP.mv rfl rfl ?_; refine WP.nil (WP.next ?_)
   refine WP.condT rfl ?_; refine WP.ret ?_; refine WP.fn .ret (.inr rfl) (res0 rfl) (Lg2 ++ (Lt2 ++ Ll2)) (Imm.le_trans hJ hJ2) ?_; obtain ⟨_, h2, h9⟩ := hw.resolve_right (fun h => by rw [h.1] at hb; cases hb)
   exact ⟨z2, x2, tb2, Lg2, Lt2, Ll2, rfl, rfl, hg2, hT2, hl2, h2, h9⟩
  ·have hb : b = false := eq_false_of_ne_true hb
   try rw [hb]
   refine WP.mv rfl rfl ?_; refine WP.nil ?_; refine WP.sub [(0, _), (2, _), (3, _), (5, _)] ?_ ⟨rfl, rfl, rfl, rfl, trivial⟩
   refine WP.next (WP.seq ?_)
   refine WP.region [0] rfl ?_; refine WP.mv rfl rfl ?_; refine WP.nil (WP.next ?_)
   refine WP.condF rfl ?_; refine WP.skip (WP.leave (WP.next ?_))
   refine WP.region [0, 1, 2] rfl ?_; refine WP.mv rfl rfl ?_; refine WP.vl rfl (Yld.add64 rfl rfl rfl (by omega)) ?_; refine WP.mv rfl rfl ?_; refine WP.nil ?_; refine WP.sub [(0, _), (2, _), (3, _), (5, _), (13, _)] ?_ ⟨rfl, rfl, rfl, rfl, rfl, trivial⟩
   obtain ⟨_, m2, hm2, hinv2⟩ := hw.resolve_left (fun h => by rw [h.1] at hb; cases hb)
   exact WP.again ⟨i + 1, z2, x2, tb2, J2, Lg2, Lt2, Ll2⟩ ⟨Imm.le_trans hJ hJ2, hg2, hT2, hl2, m2, (by show m2 + (i + 1) ≤ 299; omega), hinv2⟩ (show 300 - (i + 1) < 300 - i by omega) ⟨rfl, rfl, trivial⟩ rfl zA
 ·exfalso; omega


end Go.Hp
