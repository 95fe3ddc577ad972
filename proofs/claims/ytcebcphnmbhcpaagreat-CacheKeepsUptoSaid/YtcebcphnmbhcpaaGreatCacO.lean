import Derived.Test.YtcebcphnmbhcpaaGreatCacJ
set_option linter.unusedVariables false
set_option linter.unusedSimpArgs false
namespace Go.Hp
open Go Go.Proofs

def EcQ (l sg d n a m s t : Nat) (x : Lg) (y : Dk) (tb : Tb) (z : Ec) (v : Value) (J : Imm) (L : Chunks) : Prop := ∃ c z2 tb2 x2 Lf2 Lt2 Ll2, v = .bool c ∧ EcS tb x z c z2 tb2 x2 ∧ L = Lf2 ++ (Lt2 ++ Ll2) ∧ IsEc J a m s z2 Lf2 ∧ IsT J t tb2 Lt2 ∧ IsLog J l sg d n x2 y Ll2
theorem ec_Step1 {I : Imm} {a m s : Nat} {z : Ec} {Le : Chunks} (he : IsEc I a m s z Le) {l t : Nat} {tb : Tb} {Lt : Chunks} (hst : I.blk s = some (row 88 [.pointer (some ⟨t, 0, none⟩), .pointer (some ⟨l, 0, none⟩)])) (hT : IsT I t tb Lt) {sg d n : Nat} {x : Lg} {y : Dk} {Ll : Chunks} (hlg : IsLog I l sg d n x y Ll) (hk0 : z.at_ = 1) {e : Ent} (hg : tb.ent z.c.page = some e) (hx : e.txn = 0) : Spec Tryz.prog 17 [.pointer (some ⟨m, 0, none⟩)] I (Le ++ (Lt ++ Ll)) (EcQ l sg d n a m s t x y tb z) := by
 have sp : Spec Tryz.prog 42 [.pointer (some ⟨a, 0, none⟩)] I (Le ++ (Lt ++ Ll)) (EcQ l sg d n a m s t x y tb z) := Spec.withL (ec_loads he hst hT hg hx hk0) (by
  rintro v J L1 hJ ⟨rfl, Lf2, Lt2, rfl, h1, h2⟩
  exact ⟨_, _, rfl, _, _, _, _, _, _, _, rfl, .loads hk0 hg, rfl, h1, h2, hlg.mono hJ⟩)
 cases he with
 | idle _ hm => cases hm with
  | mk hn hw hs on ow os => exact cac_StepF (by rw [hk0]; rfl) Tryz.func42 rfl sp (by rintro v J L ⟨c, _, _, _, _, _, _, rfl, _⟩; exact ⟨c, rfl⟩)
 | busy _ hm hf => cases hm with
  | mk hn hw hs on ow os => exact cac_StepF (by rw [hk0]; rfl) Tryz.func42 rfl sp (by rintro v J L ⟨c, _, _, _, _, _, _, rfl, _⟩; exact ⟨c, rfl⟩)
theorem ec_Step3 {I : Imm} {a m s : Nat} {z : Ec} {Le : Chunks} (he : IsEc I a m s z Le) {l t : Nat} {tb : Tb} {Lt : Chunks} (hst : I.blk s = some (row 88 [.pointer (some ⟨t, 0, none⟩), .pointer (some ⟨l, 0, none⟩)])) (hT : IsT I t tb Lt) {sg d n : Nat} {x : Lg} {y : Dk} {Ll : Chunks} (hlg : IsLog I l sg d n x y Ll) (hk0 : z.at_ = 3) (htk : tb.tok + 1 < 18446744073709551616) : Spec Tryz.prog 17 [.pointer (some ⟨m, 0, none⟩)] I (Le ++ (Lt ++ Ll)) (EcQ l sg d n a m s t x y tb z) := by
 have sp : Spec Tryz.prog 64 [.pointer (some ⟨a, 0, none⟩)] I (Le ++ (Lt ++ Ll)) (EcQ l sg d n a m s t x y tb z) := Spec.withL (ec_swaps he hst hT htk hk0) (by
  rintro v J L1 hJ ⟨r, tb2, Lf2, Lt2, hs, rfl, rfl, h1, h2⟩
  exact ⟨_, _, rfl, _, _, _, _, _, _, _, rfl, .swaps hk0 hs, rfl, h1, h2, hlg.mono hJ⟩)
 cases he with
 | idle _ hm => cases hm with
  | mk hn hw hs on ow os => exact cac_StepF (by rw [hk0]; rfl) Tryz.func64 rfl sp (by rintro v J L ⟨c, _, _, _, _, _, _, rfl, _⟩; exact ⟨c, rfl⟩)
 | busy _ hm hf => cases hm with
  | mk hn hw hs on ow os => exact cac_StepF (by rw [hk0]; rfl) Tryz.func64 rfl sp (by rintro v J L ⟨c, _, _, _, _, _, _, rfl, _⟩; exact ⟨c, rfl⟩)
theorem ec_Step2 {I : Imm} {a m s : Nat} {z : Ec} {Le : Chunks} (he : IsEc I a m s z Le) {l t : Nat} {tb : Tb} {Lt : Chunks} (hst : I.blk s = some (row 88 [.pointer (some ⟨t, 0, none⟩), .pointer (some ⟨l, 0, none⟩)])) (hT : IsT I t tb Lt) {sg d n : Nat} {x : Lg} {y : Dk} {Ll : Chunks} (hlg : IsLog I l sg d n x y Ll) (hk0 : z.at_ = 2) {m' : Nat} {B : Bd} {W : Int → Nds} (w : CW m' B W tb x) (hW : W z.f.c.page ≠ []) (hi : FlI B tb x z.f) (hB : B.b ≤ 1099511627776) (htk : tb.tok + 1 < 18446744073709551616) : Spec Tryz.prog 17 [.pointer (some ⟨m, 0, none⟩)] I (Le ++ (Lt ++ Ll)) (EcQ l sg d n a m s t x y tb z) := by
 have sp : Spec Tryz.prog 63 [.pointer (some ⟨a, 0, none⟩)] I (Le ++ (Lt ++ Ll)) (EcQ l sg d n a m s t x y tb z) := Spec.mono (ec_flushes he hst hT hlg w hW hi hB htk hk0) (by
  rintro v J L1 hJ ⟨c, f2, tb2, x2, Lf2, Lt2, Ll2, hs, rfl, rfl, h1, h2, h3⟩
  exact ⟨_, _, _, _, _, _, _, rfl, .flushes hk0 hs, rfl, h1, h2, h3⟩)
 cases he with
 | idle _ hm => cases hm with
  | mk hn hw hs on ow os => exact cac_StepF (by rw [hk0]; rfl) Tryz.func63 rfl sp (by rintro v J L ⟨c, _, _, _, _, _, _, rfl, _⟩; exact ⟨c, rfl⟩)
 | busy _ hm hf => cases hm with
  | mk hn hw hs on ow os => exact cac_StepF (by rw [hk0]; rfl) Tryz.func63 rfl sp (by rintro v J L ⟨c, _, _, _, _, _, _, rfl, _⟩; exact ⟨c, rfl⟩)

theorem ec_Step9 {I : Imm} {a m s : Nat} {z : Ec} {Le : Chunks} (he : IsEc I a m s z Le) {l t : Nat} {tb : Tb} {Lt : Chunks} (hst : I.blk s = some (row 88 [.pointer (some ⟨t, 0, none⟩), .pointer (some ⟨l, 0, none⟩)])) (hT : IsT I t tb Lt) {sg d n : Nat} {x : Lg} {y : Dk} {Ll : Chunks} (hlg : IsLog I l sg d n x y Ll) (hk0 : z.at_ = 9) : Spec Tryz.prog 17 [.pointer (some ⟨m, 0, none⟩)] I (Le ++ (Lt ++ Ll)) (EcQ l sg d n a m s t x y tb z) := by
 cases he with
 | busy h _ _ => omega
 | @idle vf Lm hne hm =>
  have e : ecN a z.at_ = .nilFunc := by rw [hk0]; rfl
  have hm2 := hm
  rw [e] at hm2
  refine Spec.reorder (G := [(a, row 117 [.pointer (some ⟨m, 0, none⟩), vf])] ++ (Lt ++ Ll)) (cac_StepN hm2) (by simp only [List.append_assoc]; exact List.Perm.refl _) ?_; rintro v J L1 hJ ⟨rfl, rfl, h1⟩
  rw [← e] at h1
  exact ⟨_, List.Perm.refl _, true, z, tb, x, L1 ++ [(a, row 117 [.pointer (some ⟨m, 0, none⟩), vf])], Lt, Ll, rfl, .done hk0, by simp only [List.append_assoc], .idle hne h1, hT, hlg⟩
theorem ec_Step {I : Imm} {a m s : Nat} {z : Ec} {Le : Chunks} (he : IsEc I a m s z Le) {l t : Nat} {tb : Tb} {Lt : Chunks} (hst : I.blk s = some (row 88 [.pointer (some ⟨t, 0, none⟩), .pointer (some ⟨l, 0, none⟩)])) (hT : IsT I t tb Lt) {sg d n : Nat} {x : Lg} {y : Dk} {Ll : Chunks} (hlg : IsLog I l sg d n x y Ll) {m' : Nat} {B : Bd} {W : Int → Nds} (w : CW m' B W tb x) (hW : W z.c.page ≠ []) (hi : EcI B tb x z) (hB : B.b ≤ 1099511627776) (htk : tb.tok + 1 < 18446744073709551616) : Spec Tryz.prog 17 [.pointer (some ⟨m, 0, none⟩)] I (Le ++ (Lt ++ Ll)) (EcQ l sg d n a m s t x y tb z) := by
 rcases hi.at_ with h | h | h | h
 ·obtain ⟨e, h1, _, h3⟩ := w.en _ hW
  exact ec_Step1 he hst hT hlg h h1 h3.txn
 ·obtain ⟨h1, h2, _⟩ := hi.flushes h
  exact ec_Step2 he hst hT hlg h w (by rw [h2]; exact hW) h1 hB htk
 ·exact ec_Step3 he hst hT hlg h htk
 ·exact ec_Step9 he hst hT hlg h
/-- A machine at m. -/
def IsMx (J : Imm) (s l m : Nat) : Mx → Chunks → Prop
 | .fl z, L => ∃ f, IsFl J f m s z L
 | .fa z, L => ∃ f, IsFa J f m s l z L
 | .ec z, L => ∃ a, IsEc J a m s z L
theorem IsMx.mono {I J : Imm} {s l m : Nat} {z : Mx} {L : Chunks} (h : IsMx I s l m z L) (hJ : I.le J) : IsMx J s l m z L := by
 cases z with
 | fl z => obtain ⟨f, h⟩ := h; exact ⟨f, h.mono hJ⟩
 | fa z => obtain ⟨f, h⟩ := h; exact ⟨f, h.mono hJ⟩
 | ec z => obtain ⟨f, h⟩ := h; exact ⟨f, h.mono hJ⟩
def MxQ (l sg d n m s t : Nat) (x : Lg) (y : Dk) (tb : Tb) (z : Mx) (v : Value) (J : Imm) (L : Chunks) : Prop := ∃ c z2 tb2 x2 Lm2 Lt2 Ll2, v = .bool c ∧ MxS tb x z c z2 tb2 x2 ∧ L = Lm2 ++ (Lt2 ++ Ll2) ∧ IsMx J s l m z2 Lm2 ∧ IsT J t tb2 Lt2 ∧ IsLog J l sg d n x2 y Ll2
theorem mx_Step {I : Imm} {m s : Nat} {z : Mx} {Lm : Chunks} {l t : Nat} {tb : Tb} {Lt : Chunks} (hst : I.blk s = some (row 88 [.pointer (some ⟨t, 0, none⟩), .pointer (some ⟨l, 0, none⟩)])) (hT : IsT I t tb Lt) {sg d n : Nat} {x : Lg} {y : Dk} {Ll : Chunks} (hlg : IsLog I l sg d n x y Ll) (hm : IsMx I s l m z Lm) {m' : Nat} {B : Bd} {W : Int → Nds} (w : CW m' B W tb x) (hW : W z.c.page ≠ []) (hi : MxI B tb x z) (hB : B.b ≤ 1099511627776) (htk : tb.tok + 1 < 18446744073709551616) : Spec Tryz.prog 17 [.pointer (some ⟨m, 0, none⟩)] I (Lm ++ (Lt ++ Ll)) (MxQ l sg d n m s t x y tb z) := by
 cases z with
 | fl z => obtain ⟨f, hm⟩ := hm; exact (fl_Step hm hst hT hlg w hW hi hB htk).mono (by rintro v J L _ ⟨c, z2, tb2, x2, L1, L2, L3, h1, h2, h3, h4, h5, h6⟩; exact ⟨c, .fl z2, tb2, x2, L1, L2, L3, h1, .fl h2, h3, ⟨_, h4⟩, h5, h6⟩)
 | fa z => obtain ⟨f, hm⟩ := hm; exact (fa_Step hm hst hT hlg w hW hi hB htk).mono (by rintro v J L _ ⟨c, z2, tb2, L1, L2, L3, h1, h2, h3, h4, h5, h6⟩; exact ⟨c, .fa z2, tb2, x, L1, L2, L3, h1, .fa h2, h3, ⟨_, h4⟩, h5, h6⟩)
 | ec z => obtain ⟨f, hm⟩ := hm; exact (ec_Step hm hst hT hlg w hW hi hB htk).mono (by rintro v J L _ ⟨c, z2, tb2, x2, L1, L2, L3, h1, h2, h3, h4, h5, h6⟩; exact ⟨c, .ec z2, tb2, x2, L1, L2, L3, h1, .ec h2, h3, ⟨_, h4⟩, h5, h6⟩)
/-- Steps of a machine that is alone, of which none is its last. -/
inductive Steps : Nat → Tb → Lg → Mx → Tb → Lg → Mx → Prop
 | zero {tb : Tb} {x : Lg} {z : Mx} : Steps 0 tb x z tb x z
 | succ {n : Nat} {tb tb1 tb2 : Tb} {x x1 x2 : Lg} {z z1 z2 : Mx} (h : Steps n tb x z tb1 x1 z1) (k : MxS tb1 x1 z1 false z2 tb2 x2) : Steps (n + 1) tb x z tb2 x2 z2
/-- What count comes to. -/
def Counts (tb : Tb) (x : Lg) (z : Mx) (k : Int) (tb2 : Tb) (x2 : Lg) (z2 : Mx) : Prop := (∃ (j : Nat) (tb1 : Tb) (x1 : Lg) (z1 : Mx), j < 99 ∧ Steps j tb x z tb1 x1 z1 ∧ MxS tb1 x1 z1 true z2 tb2 x2 ∧ k = ((j + 1 : Nat) : Int)) ∨ (Steps 99 tb x z tb2 x2 z2 ∧ k = 0)
structure CoX where
 k : Nat
 tb : Tb
 x : Lg
 z : Mx
 J : Imm
 L : Chunks
 Lt : Chunks
 Ll : Chunks
theorem law_count {I : Imm} {m s : Nat} {z : Mx} {Lm : Chunks} {l t : Nat} {tb : Tb} {Lt : Chunks} (hst : I.blk s = some (row 88 [.pointer (some ⟨t, 0, none⟩), .pointer (some ⟨l, 0, none⟩)])) (hT : IsT I t tb Lt) {sg d n : Nat} {x : Lg} {y : Dk} {Ll : Chunks} (hlg : IsLog I l sg d n x y Ll) (hm : IsMx I s l m z Lm) {m' : Nat} {B : Bd} {W : Int → Nds} (w : CW m' B W tb x) (hW : W z.c.page ≠ []) (hi : MxI B tb x z) (hB : B.b ≤ 1099511627776) (htk : tb.tok + 100 < 18446744073709551616) : Spec Tryz.prog 19 [.pointer (some ⟨m, 0, none⟩)] I (Lm ++ (Lt ++ Ll)) (fun v J L => ∃ k z2 tb2 x2 Lm2 Lt2 Ll2, v = .int .i64 k ∧ Counts tb x z k tb2 x2 z2 ∧ L = Lm2 ++ (Lt2 ++ Ll2) ∧ IsMx J s l m z2 Lm2 ∧ IsT J t tb2 Lt2 ∧ IsLog J l sg d n x2 y Ll2 ∧ CW m' B W tb2 x2 ∧ Gro tb tb2 x x2 ∧ MxI B tb2 x2 z2 ∧ z2.c.page = z.c.page ∧ tb2.tok ≤ tb.tok + 99) := by
 refine Spec.of Tryz.func19 rfl Tryz.ntmps19 (Nat.le_of_ble_eq_true rfl) (fun F => ?_)
 try simp only [nf]
 dsimp only [argsEnv]
 refine WP.seq ?_; refine WP.region [0] rfl ?_; refine WP.mv rfl rfl ?_; refine WP.nil (WP.next (WP.seq (WP.seq ?_)))
 refine WP.region [0, 1] rfl ?_; refine WP.mv rfl rfl ?_; refine WP.vl rfl (Yld.eqlNil rfl ty_pt_55 rfl rfl) ?_; refine WP.nil ?_; refine WP.sub [(0, _), (2, _), (6, _)] ?_ ⟨rfl, rfl, rfl, trivial⟩
 refine WP.next ?_; refine WP.condF rfl ?_; refine WP.skip (WP.next (WP.seq (WP.seq ?_)))
 refine WP.region [0] rfl ?_; refine WP.mv rfl rfl ?_; refine WP.nil (WP.next (WP.block ?_))
 refine WP.loop (X := CoX) (fun u : CoX => [(0, .pointer (some ⟨m, 0, none⟩)), (2, .int .i64 0), (3, .int .i64 ((u.k + 1 : Nat) : Int))]) (fun u => u.J) (fun u : CoX => u.L ++ (u.Lt ++ (u.Ll ++ F))) (fun u : CoX => u.k ≤ 99 ∧ I.le u.J ∧ Steps u.k tb x z u.tb u.x u.z ∧ CW m' B W u.tb u.x ∧ MxI B u.tb u.x u.z ∧ u.z.c.page = z.c.page ∧ u.tb.tok ≤ tb.tok + u.k ∧ Gro tb u.tb x u.x ∧ IsMx u.J s l m u.z u.L ∧ IsT u.J t u.tb u.Lt ∧ IsLog u.J l sg d n u.x y u.Ll) (fun u => 99 - u.k) ⟨0, tb, x, z, I, Lm, Lt, Ll⟩ ⟨Nat.zero_le _, Imm.le_refl _, .zero, w, hi, rfl, Nat.le_refl _, .refl _ _, hm, hT, hlg⟩ ⟨rfl, rfl, rfl, trivial⟩ rfl zA ?_; rintro ⟨k, tb1, x1, z1, J1, L1, Lt1, Ll1⟩ ⟨hk, hJ1, hst1, w1, hi1, hp1, ht1, hg1, hm1, hT1, hlg1⟩; dsimp only at hk hJ1 hst1 w1 hi1 hp1 ht1 hg1 hm1 hT1 hlg1; have hstj := hJ1.2 _ _ hst
 try dsimp only
 try simp only [nf]
 refine WP.seq (WP.seq ?_)
 refine WP.region [0, 1] rfl ?_; refine WP.mv rfl rfl ?_; refine WP.split rfl rfl rfl rfl (Yld.lss rfl rfl rfl) (fun hlt => ?_) (fun hlt => ?_)
 ·refine WP.nil ?_
  refine WP.sub [(0, _), (2, _), (3, _), (8, _)] ?_ ⟨rfl, rfl, rfl, rfl, trivial⟩
  refine WP.next ?_; refine WP.condT rfl ?_; refine WP.skip (WP.next (WP.seq (WP.block (WP.seq ?_))))
  refine WP.region [0, 1, 2] rfl ?_; refine WP.mv rfl rfl ?_; refine WP.loud rfl rfl ?_; refine Op.cl (mx_Step hstj hT1 hlg1 hm1 w1 (by rw [hp1]; exact hW) hi1 hB (by omega)) rfl Tryz.func17 rfl rfl rfl rfl ?_; rintro v J2 L61 hJ2 ⟨c, z2, tb2, x2, Lm2, Lt2, Ll2, rfl, hs, rfl, hm2, hT2, hlg2⟩
  try simp only [nf]
  obtain ⟨k1, k2, k3, k4, k5, k6⟩ := hs.step w1 (by rw [hp1]; exact hW) hi1
  refine WP.mv rfl rfl ?_; refine WP.nil ?_; refine WP.sub [(0, _), (2, _), (3, _), (4, _), (8, _)] ?_ ⟨rfl, rfl, rfl, rfl, rfl, trivial⟩
  refine WP.next (WP.seq ?_)
  refine WP.region [0] rfl ?_; refine WP.mv rfl rfl ?_; by_cases hc1 : c = true
  ·try rw [hc1]
   refine WP.nil (WP.next ?_)
   refine WP.condT rfl ?_; refine WP.seq ?_; refine WP.region [0, 1] rfl ?_; iterate 2 refine WP.mv rfl rfl ?_
   refine WP.nil ?_; refine WP.sub [(0, _), (2, _), (3, _), (4, _), (8, _), (13, _)] ?_ ⟨rfl, rfl, rfl, rfl, rfl, rfl, trivial⟩
   refine WP.next (WP.ret ?_)
   refine WP.fn .ret (.inr rfl) (res1 rfl rfl) (Lm2 ++ (Lt2 ++ Ll2)) (Imm.le_trans hJ1 hJ2) ?_; exact ⟨_, z2, tb2, x2, Lm2, Lt2, Ll2, rfl, .inl ⟨k, tb1, x1, z1, by omega, hst1, hc1 ▸ hs, rfl⟩, rfl, hm2, hT2, hlg2, k1, hg1.trans k2, k4, k5.trans hp1, by omega⟩
  ·have hc1 : c = false := eq_false_of_ne_true hc1
   try rw [hc1]
   refine WP.nil (WP.next ?_)
   refine WP.condF rfl ?_; refine WP.skip (WP.leave (WP.next ?_))
   refine WP.region [0, 1, 2] rfl ?_; refine WP.mv rfl rfl ?_; refine WP.vl rfl (Yld.add64 rfl rfl rfl (by omega)) ?_; refine WP.mv rfl rfl ?_; refine WP.nil ?_; refine WP.sub [(0, _), (2, _), (3, _), (4, _), (8, _), (13, _)] ?_ ⟨rfl, rfl, rfl, rfl, rfl, rfl, trivial⟩
   exact WP.again ⟨k + 1, tb2, x2, z2, J2, Lm2, Lt2, Ll2⟩ ⟨(show k + 1 ≤ 99 by omega), Imm.le_trans hJ1 hJ2, .succ hst1 (hc1 ▸ hs), k1, k4, k5.trans hp1, (show tb2.tok ≤ tb.tok + (k + 1) by omega), hg1.trans k2, hm2, hT2, hlg2⟩ (show 99 - (k + 1) < 99 - k by omega) ⟨rfl, rfl, rfl, trivial⟩ rfl zA
 ·refine WP.nil ?_
  refine WP.sub [(0, _), (2, _), (3, _), (8, _)] ?_ ⟨rfl, rfl, rfl, rfl, trivial⟩
  refine WP.next ?_; refine WP.condF rfl ?_; refine WP.exit (WP.thenE (WP.thenE (WP.hit (WP.next (WP.seq ?_)))))
  refine WP.region [0] rfl ?_; refine WP.mv rfl rfl ?_; refine WP.nil (WP.next (WP.ret ?_))
  refine WP.fn .ret (.inr rfl) (res1 rfl rfl) (L1 ++ (Lt1 ++ Ll1)) hJ1 ?_; have hk9 : k = 99 := by omega
  exact ⟨_, z1, tb1, x1, L1, Lt1, Ll1, rfl, .inr ⟨hk9 ▸ hst1, rfl⟩, rfl, hm1, hT1, hlg1, w1, hg1, hi1, hp1, by omega⟩

def strV (d : List UInt8) : Value := .string ⟨d.toArray⟩

theorem nd_cells {arr : Array Value} {k : Nat} {x : Bool × Value} (h : (arr.toList.drop k).take 2 = ndV x) : arr[k]? = some (.bool x.1) ∧ arr[k + 1]? = some x.2 := by
 have h0 := take_cells h 0 _ rfl (by decide)
 have h1 := take_cells h 1 _ rfl (by decide)
 rw [Array.getElem?_toList] at h0 h1
 exact ⟨h0, h1⟩
theorem law_has {I : Imm} {t l : Nat} {tb : Tb} {Lt : Chunks} (hT : IsT I t tb Lt) {rg dk sg0 qd ru rm r9 : Nat} (hrg : I.blk rg = some (row 37 [.pointer (some ⟨dk, 0, none⟩), .pointer (some ⟨sg0, 0, none⟩), .pointer (some ⟨l, 0, none⟩), .pointer (some ⟨t, 0, none⟩), .pointer (some ⟨qd, 0, none⟩), .pointer (some ⟨ru, 0, none⟩), .pointer (some ⟨rm, 0, none⟩), .pointer (some ⟨r9, 0, none⟩)])) {p : Int} {e : Ent} {inn : Bool} {vws : Value} {ws : List (List UInt8)} (hg : tb.ent p = some e) (hws : SlRd (Imv I) vws ws.length 1 (ws.map strV)) (hpl : e.nodes = [] → 0 < e.place) (hinn : inn = true → e.nodes ≠ []) (hwn : e.nodes ≠ [] → ws = e.nodes.map (·.2)) (hnf : e.nodes ≠ [] → NForm e.nodes) : Spec Tryz.prog 18 [.pointer (some ⟨rg, 0, none⟩), .int .i64 p, vws, .bool inn] I Lt (fun v J L => v = .bool true ∧ IsT J t tb L) := by
 obtain ⟨Aws, cws, rfl, hwc, _, _⟩ := id hws
 refine Spec.of Tryz.func18 rfl Tryz.ntmps18 (Nat.le_of_ble_eq_true rfl) (fun F => ?_)
 try simp only [nf]
 dsimp only [argsEnv]
 refine WP.seq ?_; refine WP.region [0] rfl ?_; refine WP.mv rfl rfl ?_; refine WP.nil (WP.next (WP.seq ?_))
 refine WP.region [0, 1, 2, 3, 4, 5, 6, 7, 8, 9, 10, 11] rfl ?_; refine WP.mv rfl rfl ?_; refine WP.vl rfl (Yld.nilCheck rfl rfl) ?_; refine WP.vl rfl (Yld.fieldAddr rfl ty_fd_37_3 rfl) ?_; refine WP.vl rfl (Yld.load (v := .pointer (some ⟨t, 0, none⟩)) rfl ty_sc_31 rfl (There.i hrg) rfl) ?_; refine WP.mv rfl rfl ?_; refine WP.loud rfl rfl ?_; refine Op.cl (tabT_LoadE hT hg) rfl Tryz.func20 rfl rfl rfl rfl ?_; rintro v J2 Lt2 hJ2 ⟨cs, rfl, hre, hT2⟩
 try simp only [nf]
 obtain ⟨vn2, vw2, nv2, rfl, q1, q2, q3⟩ := id hre.ex
 obtain ⟨An2, cn2, rfl, _⟩ := q1.slice'
 obtain ⟨Aw2, cw2, rfl, _⟩ := q3.slice'
 have hes : e.sized := by obtain ⟨_, hg2⟩ := Tb.ent_get hg; exact (hT.ent hg2).1
 have hqn : RNodes J2 (.slice An2 e.nodes.length cn2) e.nodes := ⟨nv2, q1, q2⟩
 have hws2 := hws.mono (Imv.le hJ2)
 refine WP.mv rfl rfl ?_; iterate 2 refine WP.vl rfl (Yld.extract rfl rfl rfl) ?_
 refine WP.loud rfl rfl ?_; refine Op.alloc rfl rfl rfl ty_zr_50 (fun b9 => ?_)
 refine WP.loud rfl rfl ?_; refine Op.sA rfl rfl ty_sz_50 rfl rfl rfl rfl rfl ?_; refine WP.mv rfl rfl ?_; refine WP.nil ?_; refine WP.sub [(0, _), (1, _), (2, _), (3, _), (8, _), (9, _), (10, _)] ?_ ⟨rfl, rfl, rfl, rfl, rfl, rfl, rfl, trivial⟩
 refine WP.next (WP.seq (WP.seq ?_))
 refine WP.region [0, 1] rfl ?_; refine WP.mv rfl rfl ?_; refine WP.vl rfl (Yld.neq rfl rfl rfl false (decide_eq_false (by simp))) ?_; refine WP.nil ?_; refine WP.sub [(0, _), (1, _), (2, _), (3, _), (8, _), (9, _), (10, _), (22, _)] ?_ ⟨rfl, rfl, rfl, rfl, rfl, rfl, rfl, rfl, trivial⟩
 refine WP.next ?_; refine WP.condF rfl ?_; refine WP.skip (WP.next (WP.seq (WP.seq ?_)))
 refine WP.region [0, 1, 2, 3] rfl ?_; refine WP.vl rfl (Yld.fieldAddr rfl ty_fd_50_1 rfl) ?_; refine WP.vl rfl (Yld.ld (v := .slice An2 e.nodes.length cn2) rfl ty_sc_45 rfl rfl) ?_; refine WP.vl rfl (Yld.len rfl ty_sl_45 rfl) ?_; refine WP.split rfl rfl rfl rfl (Yld.eql rfl rfl rfl) (fun h43 => ?_) (fun h43 => ?_)
 ·obtain rfl : inn = false := by cases hc : inn with | false => rfl | true => exact absurd (List.eq_nil_of_length_eq_zero (by omega)) (hinn hc)
  have hpl2 := hpl (List.eq_nil_of_length_eq_zero (by omega))
  refine WP.nil ?_; refine WP.sub [(0, _), (1, _), (2, _), (3, _), (8, _), (9, _), (10, _), (22, _), (26, _)] ?_ ⟨rfl, rfl, rfl, rfl, rfl, rfl, rfl, rfl, rfl, trivial⟩
  refine WP.next ?_; refine WP.condT rfl ?_; refine WP.seq ?_; refine WP.region [0, 1, 2, 3, 4, 5, 6, 7] rfl ?_; refine WP.mv rfl rfl ?_; refine WP.vl rfl (Yld.not rfl rfl) ?_; refine WP.mv rfl rfl ?_; refine WP.valG rfl rfl rfl rfl rfl rfl rfl (Yld.fieldAddr rfl ty_fd_50_2 rfl) ?_; refine WP.valG rfl rfl rfl rfl rfl rfl rfl (Yld.ld (v := .int .i64 e.place) rfl ty_sc_3 rfl rfl) ?_; refine WP.valG rfl rfl rfl rfl rfl rfl rfl (Yld.gtr rfl rfl rfl true (decide_eq_true (by omega))) ?_; refine WP.vl rfl (Yld.pickT rfl rfl rfl) ?_; refine WP.mv rfl rfl ?_; refine WP.nil ?_; refine WP.sub [(0, _), (1, _), (2, _), (3, _), (8, _), (9, _), (10, _), (22, _), (26, _)] ?_ ⟨rfl, rfl, rfl, rfl, rfl, rfl, rfl, rfl, rfl, trivial⟩
  refine WP.next (WP.ret ?_)
  refine WP.fn .ret (.inr rfl) (res1 rfl rfl) Lt2 hJ2 ?_; exact ⟨rfl, hT2⟩
 ·have hwn := hwn (fun q => h43 (by rw [q]; rfl))
  have hnf := hnf (fun q => h43 (by rw [q]; rfl))
  have hwl : ws.length = e.nodes.length := by rw [hwn, List.length_map]
  have hmost := hnf.most
  refine WP.nil ?_; refine WP.sub [(0, _), (1, _), (2, _), (3, _), (8, _), (9, _), (10, _), (22, _), (26, _)] ?_ ⟨rfl, rfl, rfl, rfl, rfl, rfl, rfl, rfl, rfl, trivial⟩
  refine WP.next ?_; refine WP.condF rfl ?_; refine WP.skip (WP.next (WP.seq (WP.seq ?_)))
  refine WP.region [0, 1, 2, 3, 4, 5] rfl ?_; refine WP.vl rfl (Yld.fieldAddr rfl ty_fd_50_1 rfl) ?_; refine WP.vl rfl (Yld.ld (v := .slice An2 e.nodes.length cn2) rfl ty_sc_45 rfl rfl) ?_; refine WP.vl rfl (Yld.len rfl ty_sl_45 rfl) ?_; refine WP.mv rfl rfl ?_; refine WP.vl rfl (Yld.len rfl ty_sl_38 rfl) ?_; refine WP.vl rfl (Yld.neq rfl rfl rfl false (decide_eq_false (by omega))) ?_; refine WP.nil ?_; refine WP.sub [(0, _), (1, _), (2, _), (3, _), (8, _), (9, _), (10, _), (22, _), (26, _), (39, _)] ?_ ⟨rfl, rfl, rfl, rfl, rfl, rfl, rfl, rfl, rfl, rfl, trivial⟩
  refine WP.next ?_; refine WP.condF rfl ?_; refine WP.skip (WP.next (WP.seq (WP.seq ?_)))
  refine WP.region [0] rfl ?_; refine WP.mv rfl rfl ?_; refine WP.nil (WP.next (WP.block ?_))
  refine WP.loop (X := Nat) (fun i : Nat => [(2, .slice Aws ws.length cws), (9, .pointer (some ⟨b9, 0, none⟩)), (11, .int .i64 (i : Int))]) (fun _ => J2) (fun _ : Nat => (b9, row 50 [.int .u64 (e.tok : Int), .slice An2 e.nodes.length cn2, .int .i64 e.place, .int .i64 e.no, .int .i64 e.low, .int .i64 e.kept, .int .i64 e.txn, .int .i64 e.lead, .slice Aw2 e.with_.length cw2]) :: (Lt2 ++ F)) (fun i : Nat => i ≤ ws.length) (fun i => ws.length - i) 0 (Nat.zero_le _) ⟨rfl, rfl, rfl, trivial⟩ rfl zA ?_; intro i hle
  try dsimp only
  try simp only [nf]
  refine WP.seq (WP.seq ?_)
  refine WP.region [0, 1, 2, 3] rfl ?_; iterate 2 refine WP.mv rfl rfl ?_
  refine WP.vl rfl (Yld.len rfl ty_sl_38 rfl) ?_; refine WP.split rfl rfl rfl rfl (Yld.lss rfl rfl rfl) (fun hlt => ?_) (fun hlt => ?_)
  ·have hi : i < e.nodes.length := by omega
   have hin : i < nv2.length := by rw [q2.len]; exact hi
   obtain ⟨d, hd1, hd2⟩ := q2.at_ i _ (List.getElem?_eq_getElem hin)
   obtain ⟨Ad, cd, hvd, hcd, _⟩ := id hd2
   obtain ⟨bn, kn, Tn, frn, arn, rfl, hbn, hseg, _⟩ := q1.elem hi
   have hf := flat_seg ndV_len hin []
   rw [List.append_nil, Nat.zero_add] at hf
   rw [hf] at hseg
   obtain ⟨hc0, hc1⟩ := nd_cells hseg
   have hiw : i < ws.length := by omega
   obtain ⟨bw, kw, Tw, frw, arw, rfl, hbw, _, hw1⟩ := hws2.elem hiw
   have hw0 := hw1 0 (by decide)
   simp only [Nat.mul_one, Nat.add_zero, List.getElem?_map, List.getElem?_eq_getElem hiw, Option.map_some] at hw0
   have hbase := hnf.base i hi
   rw [List.getElem?_eq_getElem hi] at hd1
   have hd1b := Option.some.inj hd1
   have hws0 : ws[i] = d := by subst hwn; rw [List.getElem_map, hd1b]
   rw [hd1b] at hbase
   simp only at hbase
   refine WP.nil ?_; refine WP.sub [(2, _), (9, _), (11, _), (43, _)] ?_ ⟨rfl, rfl, rfl, rfl, trivial⟩
   refine WP.next ?_; refine WP.condT rfl ?_; refine WP.skip (WP.next (WP.seq (WP.block (WP.seq ?_))))
   refine WQ.startAll Tryzmixed zK _ rfl ?_; refine WQ.val rfl rfl rfl (Yld.fieldAddr rfl ty_fd_50_1 rfl) ?_; refine WQ.val rfl rfl rfl (Yld.ld (v := .slice (some ⟨bn, kn, none⟩) e.nodes.length cn2) rfl ty_sc_45 rfl rfl) ?_; refine WQ.val rfl rfl rfl (Yld.move rfl rfl) ?_; refine WQ.val rfl rfl rfl (Yld.indexAddr (i := i) rfl ty_sl_45 rfl rfl hi) ?_; refine WQ.val rfl rfl rfl (Yld.fieldAddr rfl ty_fd_70_1 rfl) ?_; refine WQ.val rfl rfl rfl (Yld.loadC rfl ty_sc_47 rfl (There.i hbn) hc1) ?_; refine WQ.val rfl rfl rfl (Yld.str (e := 5) rfl zK zK zK rfl (hd2.mono (fun b o h => There.i h))) ?_; iterate 2 refine WQ.val rfl rfl rfl (Yld.move rfl rfl) ?_
   refine WQ.val rfl rfl rfl (Yld.indexAddr (i := i) rfl ty_sl_38 rfl rfl hiw) ?_; refine WQ.val rfl rfl rfl (Yld.loadC rfl ty_sc_9 rfl (There.i hbw) (by rw [Nat.mul_one]; exact hw0)) ?_; refine WQ.val rfl rfl rfl (Yld.neqStr rfl rfl rfl false (by rw [hws0]; simp)) ?_; refine WQ.val rfl rfl rfl (Yld.move rfl rfl) ?_; refine WQ.valG rfl rfl rfl rfl rfl rfl (Yld.fieldAddr rfl ty_fd_50_1 rfl) ?_; refine WQ.valG rfl rfl rfl rfl rfl rfl (Yld.ld (v := .slice (some ⟨bn, kn, none⟩) e.nodes.length cn2) rfl ty_sc_45 rfl rfl) ?_; refine WQ.valG rfl rfl rfl rfl rfl rfl (Yld.move rfl rfl) ?_; refine WQ.valG rfl rfl rfl rfl rfl rfl (Yld.indexAddr (i := i) rfl ty_sl_45 rfl rfl hi) ?_; refine WQ.valG rfl rfl rfl rfl rfl rfl (Yld.fieldAddr rfl ty_fd_70_0 rfl) ?_; refine WQ.valG rfl rfl rfl rfl rfl rfl (Yld.loadC rfl ty_sc_4 rfl (There.i hbn) hc0) ?_; iterate 2 refine WQ.valG rfl rfl rfl rfl rfl rfl (Yld.move rfl rfl) ?_
   refine WQ.valG rfl rfl rfl rfl rfl rfl (Yld.len rfl ty_sl_38 rfl) ?_; refine WQ.valG rfl rfl rfl rfl rfl rfl (Yld.sub64 rfl rfl rfl (by omega)) ?_; refine WQ.valG rfl rfl rfl rfl rfl rfl (Yld.eql rfl rfl rfl _ rfl) ?_; refine WQ.valG rfl rfl rfl rfl rfl rfl (Yld.neqBool rfl zK rfl rfl false (by rw [hbase]; simp; omega)) ?_; refine WQ.val rfl rfl rfl (Yld.pickF rfl rfl rfl) ?_; refine WQ.nil ?_; refine WP.sub [(2, _), (9, _), (11, _), (43, _), (71, _)] ?_ ⟨rfl, rfl, rfl, rfl, rfl, trivial⟩
   refine WP.next ?_; refine WP.condF rfl ?_; refine WP.skip (WP.leave (WP.next ?_))
   refine WP.region [0, 1, 2] rfl ?_; refine WP.mv rfl rfl ?_; refine WP.vl rfl (Yld.add64 rfl rfl rfl (by omega)) ?_; refine WP.mv rfl rfl ?_; refine WP.nil ?_; refine WP.sub [(2, _), (9, _), (11, _), (43, _), (71, _)] ?_ ⟨rfl, rfl, rfl, rfl, rfl, trivial⟩
   exact WP.again (i + 1) (show i + 1 ≤ ws.length by omega) (show ws.length - (i + 1) < ws.length - i by omega) ⟨rfl, rfl, rfl, trivial⟩ rfl zA
  ·refine WP.nil ?_
   refine WP.sub [(2, _), (9, _), (11, _), (43, _)] ?_ ⟨rfl, rfl, rfl, rfl, trivial⟩
   refine WP.next ?_; refine WP.condF rfl ?_; refine WP.exit (WP.thenE (WP.thenE (WP.hit (WP.next (WP.seq ?_)))))
   refine WP.region [0] rfl ?_; refine WP.mv rfl rfl ?_; refine WP.nil (WP.next (WP.ret ?_))
   refine WP.fn .ret (.inr rfl) (res1 rfl rfl) Lt2 hJ2 ?_; exact ⟨rfl, hT2⟩

def CountsF (f : Nat) (tb : Tb) (x : Lg) (z : Mx) (k : Int) (tb2 : Tb) (x2 : Lg) (z2 : Mx) : Prop := (∃ (j : Nat) (tb1 : Tb) (x1 : Lg) (z1 : Mx), j < f ∧ Steps j tb x z tb1 x1 z1 ∧ MxS tb1 x1 z1 true z2 tb2 x2 ∧ k = ((j + 1 : Nat) : Int)) ∨ (Steps f tb x z tb2 x2 z2 ∧ k = 0)
theorem Steps.uncons : ∀ {n : Nat} {tb tb2 : Tb} {x x2 : Lg} {z z2 : Mx}, Steps (n + 1) tb x z tb2 x2 z2 → ∃ tb1 x1 z1, MxS tb x z false z1 tb1 x1 ∧ Steps n tb1 x1 z1 tb2 x2 z2
 | 0, _, _, _, _, _, _, h => by
  cases h with
  | succ h k => cases h with | zero => exact ⟨_, _, _, k, .zero⟩
 | n + 1, _, _, _, _, _, _, h => by
  cases h with
  | succ h k =>
   obtain ⟨tb1, x1, z1, k1, h1⟩ := Steps.uncons h
   exact ⟨tb1, x1, z1, k1, .succ h1 k⟩
theorem CountsF.next {f : Nat} {tb tb2 : Tb} {x x2 : Lg} {z z2 : Mx} {k : Int} (h : CountsF (f + 1) tb x z k tb2 x2 z2) : (k = 1 ∧ MxS tb x z true z2 tb2 x2) ∨ ∃ tb1 x1 z1 k', MxS tb x z false z1 tb1 x1 ∧ CountsF f tb1 x1 z1 k' tb2 x2 z2 ∧ ((k' = 0 ∧ k = 0) ∨ (1 ≤ k' ∧ k = k' + 1)) := by
 rcases h with ⟨j, tb1, x1, z1, hj, h1, h2, rfl⟩ | ⟨h1, rfl⟩
 ·cases j with
  | zero => cases h1 with | zero => exact .inl ⟨rfl, h2⟩
  | succ j =>
   obtain ⟨tb3, x3, z3, k1, h3⟩ := h1.uncons
   exact .inr ⟨tb3, x3, z3, ((j + 1 : Nat) : Int), k1, .inl ⟨j, tb1, x1, z1, by omega, h3, h2, rfl⟩, .inr ⟨by omega, by omega⟩⟩
 ·obtain ⟨tb3, x3, z3, k1, h3⟩ := h1.uncons
  exact .inr ⟨tb3, x3, z3, 0, k1, .inr ⟨h3, rfl⟩, .inl ⟨rfl, rfl⟩⟩
def stl (tb : Tb) (z : Mc) : Prop := (tb.ent z.page).map Ent.tok ≠ some z.ent.tok
instance (tb : Tb) (z : Mc) : Decidable (stl tb z) := inferInstanceAs (Decidable (_ ≠ _))
def Fl.mu (tb : Tb) (x : Lg) (z : Fl) : Nat := if z.at_ = 1 then 4 else (if z.at_ = 2 then 3 else if z.at_ = 3 then (if z.hn = x.no ∧ z.hp = x.pl then 2 else 4) else 1) + (if z.at_ ≠ 9 ∧ stl tb z.c then 4 else 0)
theorem Fl.mu_bd (tb : Tb) (x : Lg) (z : Fl) : 1 ≤ z.mu tb x ∧ z.mu tb x ≤ 8 := by
 unfold Fl.mu
 split
 ·omega
 ·split <;> (try split) <;> (try split) <;> (try split) <;> omega
theorem Fl.mu1 {tb : Tb} {x : Lg} {z : Fl} (h : z.at_ = 1) : z.mu tb x = 4 := by unfold Fl.mu; rw [if_pos h]
theorem Fl.mu2 {tb : Tb} {x : Lg} {z : Fl} (h : z.at_ = 2) : z.mu tb x = 3 + (if stl tb z.c then 4 else 0) := by
 unfold Fl.mu; rw [h]; simp
theorem Fl.mu3 {tb : Tb} {x : Lg} {z : Fl} (h : z.at_ = 3) : z.mu tb x = (if z.hn = x.no ∧ z.hp = x.pl then 2 else 4) + (if stl tb z.c then 4 else 0) := by
 unfold Fl.mu; rw [h]; simp
theorem Fl.mu4 {tb : Tb} {x : Lg} {z : Fl} (h : z.at_ = 4) : z.mu tb x = 1 + (if stl tb z.c then 4 else 0) := by
 unfold Fl.mu; rw [h]; simp
theorem apE_lost {x : Lg} {hn hp : Nat} {k : Int} {b : List UInt8} (h : x.apE hn hp k b = 5) : ¬ (hn = x.no ∧ hp = x.pl) := by
 unfold Lg.apE at h
 split at h; · cases h
 split at h; · cases h
 split at h
 ·assumption
 ·split at h; · cases h
  split at h <;> cases h
theorem stl_lost {tb : Tb} {z : Mc} {e0 : Ent} (h1 : tb.ent z.page = some e0) (h2 : e0.tok ≠ z.ent.tok) : stl tb z := by
 unfold stl; rw [h1]; intro h; exact h2 (Option.some.inj h)
theorem stl_cur {tb : Tb} {z : Mc} (h1 : tb.ent z.page = some z.ent) : ¬ stl tb z := by
 unfold stl; rw [h1]; exact fun h => h rfl
theorem FlS.mu {m : Nat} {B : Bd} {W : Int → Nds} {tb tb2 : Tb} {x x2 : Lg} {z z2 : Fl} (w : CW m B W tb x) (hW : W z.c.page ≠ []) (h : FlI B tb x z) {c : Bool} (k : FlS tb x z c z2 tb2 x2) (hc : c = false) : z2.mu tb2 x2 < z.mu tb x := by
 cases k with
 | @loads e h1 he =>
  rcases Fl.loads_at (z := z) (e := e) with ⟨h2, _⟩ | ⟨_, h3, _⟩
  ·rw [h2] at hc; cases hc
  ·have hs : ¬ stl tb ((z.setE e).go 2).c := stl_cur he
   rw [h3, Fl.mu1 h1, Fl.mu2 (z := (z.setE e).go 2) rfl, if_neg hs]; decide
 | takes h1 =>
  have e2 : (({ z with hn := x.no, hp := x.pl } : Fl).go 3).mu tb x = 2 + (if stl tb z.c then 4 else 0) := (Fl.mu3 rfl).trans (by rw [if_pos ⟨rfl, rfl⟩]; rfl)
  rw [Fl.mu2 h1, e2]
  split <;> omega
 | bad h1 hb he => cases hc
 | @app e x2 h1 hb he hk =>
  by_cases g1 : e = 0
  ·rw [show (z.setR z.rc).appends e x2.no = (false, ({ z.setR z.rc with no := x2.no } : Fl).go 4) from if_pos g1]
   have e2 : (({ z.setR z.rc with no := x2.no } : Fl).go 4).mu tb x2 = 1 + (if stl tb z.c then 4 else 0) := Fl.mu4 rfl
   rw [Fl.mu3 h1]
   show (({ z.setR z.rc with no := x2.no } : Fl).go 4).mu tb x2 < _
   rw [e2]
   split <;> split <;> omega
  ·by_cases h5 : e = 5
   ·rw [show (z.setR z.rc).appends e x2.no = (false, (z.setR z.rc).go 2) from (if_neg g1).trans (if_pos h5)]
    have hl : ¬ (z.hn = x.no ∧ z.hp = x.pl) := apE_lost (he.symm.trans h5)
    have e2 : ((z.setR z.rc).go 2).mu tb x2 = 3 + (if stl tb z.c then 4 else 0) := Fl.mu2 rfl
    rw [Fl.mu3 h1, if_neg hl]
    show ((z.setR z.rc).go 2).mu tb x2 < _
    rw [e2]
    split <;> omega
   ·rw [show (z.setR z.rc).appends e x2.no = (true, (z.setR z.rc).fin z.c.ent e) from (if_neg g1).trans (if_neg h5)] at hc; cases hc
 | @swaps r tb2 h1 hs =>
  by_cases g1 : r = 5
  ·rw [show z.swaps r = (false, z.go 1) from if_pos g1]
   have hl : stl tb z.c := by
    rcases hs with ⟨_, g2, _⟩ | ⟨e0, g2, ⟨_, g3, _⟩ | ⟨_, g3, _⟩ | ⟨_, _, g3, _⟩⟩
    ·omega
    ·omega
    ·exact stl_lost (Tb.ent_some g2) g3
    ·omega
   have e2 : (z.go 1).mu tb2 x = 4 := Fl.mu1 rfl
   rw [Fl.mu4 h1, if_pos hl]
   show (z.go 1).mu tb2 x < _
   rw [e2]; decide
  ·rw [show z.swaps r = (true, z.fin z.ent2 r) from if_neg g1] at hc; cases hc
 | done h1 => cases hc
def Fa.mu (K : Nat) (tb : Tb) (z : Fa) : Nat := if z.at_ = 1 then K + 2 else if z.at_ = 2 then (K - z.nodes.length) + 1 + (if stl tb z.c then K + 2 else 0) else if z.at_ = 3 then 1 + (if stl tb z.c then K + 2 else 0) else 1
theorem Fa.mu_bd (K : Nat) (tb : Tb) (z : Fa) : 1 ≤ z.mu K tb ∧ z.mu K tb ≤ 2 * K + 3 := by
 unfold Fa.mu
 split
 ·omega
 ·split <;> (try split) <;> (try split) <;> omega
theorem Fa.mu1 {K : Nat} {tb : Tb} {z : Fa} (h : z.at_ = 1) : z.mu K tb = K + 2 := by unfold Fa.mu; rw [if_pos h]
theorem Fa.mu2 {K : Nat} {tb : Tb} {z : Fa} (h : z.at_ = 2) : z.mu K tb = (K - z.nodes.length) + 1 + (if stl tb z.c then K + 2 else 0) := by unfold Fa.mu; rw [h]; simp
theorem Fa.mu3 {K : Nat} {tb : Tb} {z : Fa} (h : z.at_ = 3) : z.mu K tb = 1 + (if stl tb z.c then K + 2 else 0) := by unfold Fa.mu; rw [h]; simp
theorem FaS.mu {m : Nat} {B : Bd} {W : Int → Nds} {tb tb2 : Tb} {x : Lg} {z z2 : Fa} (w : CW m B W tb x) (hW : W z.c.page ≠ []) (h : FaI B tb x z) {c : Bool} (k : FaS tb x z c z2 tb2) (hc : c = false) : z2.mu B.k tb2 < z.mu B.k tb := by
 cases k with
 | @loads e h1 he =>
  have e1 : z.mu B.k tb = B.k + 2 := by unfold Fa.mu; rw [if_pos h1]
  unfold Fa.loads at hc ⊢
  split at hc
  ·cases hc
  ·rename_i hq
   rw [if_neg hq, e1, Fa.mu2 rfl, if_neg (stl_cur he)]
   simp
 | @reads r h1 hr =>
  have e1 : z.mu B.k tb = (B.k - z.nodes.length) + 1 + (if stl tb z.c then B.k + 2 else 0) := by unfold Fa.mu; rw [if_neg (by omega), if_pos h1]
  obtain ⟨N, M, hh, _, hM, hN⟩ := h.reads h1
  obtain ⟨r', g1, g2⟩ := hM.find
  obtain rfl := hr.uniq g1
  have hr1 := hr.may.2.2.2.1
  have hK := hh.ok.sz.1
  have hl : z.nodes.length + r.nodes.length ≤ B.k := by
   rw [hN, List.length_append] at hK
   rcases g2 with ⟨_, g2⟩ | ⟨_, _, _, _, _, g2⟩
   ·rw [← g2]; exact hK
   ·rw [g2, List.length_append] at hK; omega
  rw [e1]
  unfold Fa.reads
  split
  ·have e2 : ({ z with place := r.prev.toNat, nodes := z.nodes ++ r.nodes } : Fa).mu B.k tb = (B.k - (z.nodes ++ r.nodes).length) + 1 + (if stl tb z.c then B.k + 2 else 0) := Fa.mu2 h1
   rw [e2, List.length_append]
   exact Nat.add_lt_add_right (Nat.add_lt_add_right (Nat.sub_lt_sub_left (by omega) (by omega)) 1) _
  ·have e2 : ({ z with at_ := 3, nodes := z.nodes ++ r.nodes } : Fa).mu B.k tb = 1 + (if stl tb z.c then B.k + 2 else 0) := Fa.mu3 rfl
   rw [e2]; omega
 | @swaps r tb2 h1 hs =>
  by_cases g1 : r = 5
  ·rw [show z.swaps r = (false, { z with at_ := 1 }) from if_pos g1]
   have hl : stl tb z.c := by
    rcases hs with ⟨_, g2, _⟩ | ⟨e0, g2, ⟨_, g3, _⟩ | ⟨_, g3, _⟩ | ⟨_, _, g3, _⟩⟩
    ·omega
    ·omega
    ·exact stl_lost (Tb.ent_some g2) g3
    ·omega
   have e1 : z.mu B.k tb = 1 + (B.k + 2) := by unfold Fa.mu; rw [if_neg (by omega), if_neg (by omega), if_pos h1, if_pos hl]
   have e2 : ({ z with at_ := 1 } : Fa).mu B.k tb2 = B.k + 2 := Fa.mu1 rfl
   rw [e1]
   show ({ z with at_ := 1 } : Fa).mu B.k tb2 < _
   rw [e2]; omega
  ·rw [show z.swaps r = (true, { z with at_ := 9, c := z.c.fin z.ent2 r }) from if_neg g1] at hc; cases hc
 | done h1 => cases hc
/-- Has a page nodes that the log has not? -/
def behind (tb : Tb) (p : Int) : Bool := match tb.ent p with | some e => decide (e.kept < (e.nodes.length : Int)) | none => false
theorem behind_eq {tb : Tb} {p : Int} {e : Ent} (h : tb.ent p = some e) : behind tb p = decide (e.kept < (e.nodes.length : Int)) := by unfold behind; rw [h]
theorem FlS.ended {m : Nat} {B : Bd} {W : Int → Nds} {tb tb2 : Tb} {x x2 : Lg} {z z2 : Fl} (w : CW m B W tb x) (hW : W z.c.page ≠ []) (h : FlI B tb x z) (h9 : z.at_ ≠ 9) (hf : z.full = false) {c : Bool} (k : FlS tb x z c z2 tb2 x2) (hc : c = true) (h0 : z2.c.e = 0) : behind tb2 z.c.page = false := by
 cases k with
 | @loads e h1 he =>
  rw [behind_eq he]
  apply decide_eq_false
  have hh := w.held hW he
  unfold Fl.loads at hc
  split at hc
  ·rename_i q; rw [q.2.2] at hf; cases hf
  ·split at hc
   ·rename_i q
    have := hh.ok.kept
    rcases q with q | q <;> omega
   ·cases hc
 | takes h1 => cases hc
 | bad h1 hb he =>
  have h0 : (z.c.fin z.c.ent _).e = 0 := h0
  unfold Mc.fin at h0
  simp only at h0
  omega
 | @app e x2 h1 hb he hk =>
  by_cases g1 : e = 0
  ·rw [show (z.setR z.rc).appends e x2.no = (false, ({ z.setR z.rc with no := x2.no } : Fl).go 4) from if_pos g1] at hc; cases hc
  ·by_cases h5 : e = 5
   ·rw [show (z.setR z.rc).appends e x2.no = (false, (z.setR z.rc).go 2) from (if_neg g1).trans (if_pos h5)] at hc; cases hc
   ·rw [show (z.setR z.rc).appends e x2.no = (true, (z.setR z.rc).fin z.c.ent e) from (if_neg g1).trans (if_neg h5)] at h0
    exact absurd h0 g1
 | @swaps r tb2 h1 hs =>
  by_cases g1 : r = 5
  ·rw [show z.swaps r = (false, z.go 1) from if_pos g1] at hc; cases hc
  ·rw [show z.swaps r = (true, z.fin z.ent2 r) from if_neg g1] at h0
   have h0 : r = 0 := h0
   rcases hs with ⟨_, g2, _⟩ | ⟨e0, g2, ⟨_, g3, _⟩ | ⟨_, _, g3, _⟩ | ⟨_, _, _, g3⟩⟩
   ·omega
   ·omega
   ·omega
   ·have e1 := g3.ent z.c.page
    rw [if_pos rfl] at e1
    rw [behind_eq e1]
    exact decide_eq_false (by show ¬ ((z.c.ent.nodes.length : Int) < (z.c.ent.nodes.length : Int)); omega)
 | done h1 => exact absurd h1 h9
def Ec.mu (tb : Tb) (x : Lg) (z : Ec) : Nat := if z.at_ = 1 then (if behind tb z.c.page = true then 7 else 2) else if z.at_ = 2 then z.f.mu tb x + 2 else if z.at_ = 3 then 1 + (if stl tb z.c then 7 else 0) else 1
theorem Ec.mu_bd (tb : Tb) (x : Lg) (z : Ec) : 1 ≤ z.mu tb x ∧ z.mu tb x ≤ 10 := by
 have := z.f.mu_bd tb x
 unfold Ec.mu
 split
 ·split <;> omega
 ·split <;> (try split) <;> (try split) <;> omega
theorem Ec.mu1 {tb : Tb} {x : Lg} {z : Ec} (h : z.at_ = 1) : z.mu tb x = if behind tb z.c.page = true then 7 else 2 := by unfold Ec.mu; rw [if_pos h]
theorem Ec.mu2 {tb : Tb} {x : Lg} {z : Ec} (h : z.at_ = 2) : z.mu tb x = z.f.mu tb x + 2 := by unfold Ec.mu; rw [h]; simp
theorem Ec.mu3 {tb : Tb} {x : Lg} {z : Ec} (h : z.at_ = 3) : z.mu tb x = 1 + (if stl tb z.c then 7 else 0) := by unfold Ec.mu; rw [h]; simp
theorem EcS.mu {m : Nat} {B : Bd} {W : Int → Nds} {tb tb2 : Tb} {x x2 : Lg} {z z2 : Ec} (w : CW m B W tb x) (hW : W z.c.page ≠ []) (h : EcI B tb x z) {c : Bool} (k : EcS tb x z c z2 tb2 x2) (hc : c = false) : z2.mu tb2 x2 < z.mu tb x := by
 cases k with
 | @loads e h1 he =>
  have e1 : z.mu tb x = if behind tb z.c.page = true then 7 else 2 := by unfold Ec.mu; rw [if_pos h1]
  rw [behind_eq he] at e1
  unfold Ec.loads at hc ⊢
  split at hc
  ·cases hc
  ·rename_i q1
   rw [if_neg q1]
   split at hc
   ·rename_i q2
    rw [if_pos q2, e1, if_pos (decide_eq_true q2)]
    rw [Ec.mu2 rfl]
    show (fl0 z.c.page false).mu tb x + 2 < 7
    rw [Fl.mu1 rfl]; decide
   ·rename_i q2
    rw [if_neg q2, e1, if_neg (by rw [decide_eq_false q2]; decide)]
    rw [Ec.mu3 rfl, if_neg (stl_cur he)]; decide
 | @flushes c f tb2 x2 h1 hf =>
  obtain ⟨g1, g2, g3, g4⟩ := h.flushes h1
  have e1 : z.mu tb x = z.f.mu tb x + 2 := by unfold Ec.mu; rw [if_neg (by omega), if_pos h1]
  have hW2 : W z.f.c.page ≠ [] := by rw [g2]; exact hW
  have hb := z.f.mu_bd tb x
  unfold Ec.flushes at hc ⊢
  split at hc
  ·rename_i q
   rw [if_pos q, e1]
   have := hf.mu w hW2 g1 q
   have e2 : ({ z with f := f } : Ec).mu tb2 x2 = f.mu tb2 x2 + 2 := Ec.mu2 h1
   rw [e2]; omega
  ·rename_i q
   split at hc
   ·cases hc
   ·rename_i q2
    rw [if_neg q, if_neg q2, e1]
    have q2 := Decidable.not_not.1 q2
    have hbh := hf.ended w hW2 g1 g4 g3 (by simpa using q) q2
    rw [g2] at hbh
    have e2 : ({ z with at_ := 1, f := f } : Ec).mu tb2 x2 = 2 := (Ec.mu1 rfl).trans (if_neg (by rw [hbh]; decide))
    rw [e2]; omega
 | @swaps r tb2 h1 hs =>
  by_cases g1 : r = 5
  ·rw [show z.swaps r = (false, { z with at_ := 1 }) from if_pos g1]
   have hl : stl tb z.c := by
    rcases hs with ⟨_, g2, _⟩ | ⟨e0, g2, ⟨_, g3, _⟩ | ⟨_, g3, _⟩ | ⟨_, _, g3, _⟩⟩
    ·omega
    ·omega
    ·exact stl_lost (Tb.ent_some g2) g3
    ·omega
   have e1 : z.mu tb x = 8 := by unfold Ec.mu; rw [if_neg (by omega), if_neg (by omega), if_pos h1, if_pos hl]
   rw [e1]
   show ({ z with at_ := 1 } : Ec).mu tb2 x < _
   rw [Ec.mu1 rfl]
   split <;> decide
  ·rw [show z.swaps r = (true, { z with at_ := 9, c := z.c.fin z.ent2 r }) from if_neg g1] at hc; cases hc
 | done h1 => cases hc
def Mx.mu (B : Bd) (tb : Tb) (x : Lg) : Mx → Nat | .fl z => z.mu tb x | .fa z => z.mu B.k tb | .ec z => z.mu tb x
theorem Mx.mu_bd (B : Bd) (tb : Tb) (x : Lg) (z : Mx) : 1 ≤ z.mu B tb x ∧ z.mu B tb x ≤ 2 * B.k + 10 := by
 cases z with
 | fl z => have := z.mu_bd tb x; show 1 ≤ z.mu tb x ∧ z.mu tb x ≤ _; omega
 | fa z => have := z.mu_bd B.k tb; show 1 ≤ z.mu B.k tb ∧ z.mu B.k tb ≤ _; omega
 | ec z => have := z.mu_bd tb x; show 1 ≤ z.mu tb x ∧ z.mu tb x ≤ _; omega
theorem MxS.mu {m : Nat} {B : Bd} {W : Int → Nds} {tb tb2 : Tb} {x x2 : Lg} {z z2 : Mx} (w : CW m B W tb x) (hW : W z.c.page ≠ []) (h : MxI B tb x z) {c : Bool} (k : MxS tb x z c z2 tb2 x2) (hc : c = false) : z2.mu B tb2 x2 < z.mu B tb x := by
 cases k with
 | fl k => exact k.mu w hW h hc
 | fa k => exact k.mu w hW h hc
 | ec k => exact k.mu w hW h hc
/-- A machine that is alone comes to its end. -/
theorem CountsF.bound {m : Nat} {B : Bd} {W : Int → Nds} : ∀ {f : Nat} {tb tb2 : Tb} {x x2 : Lg} {z z2 : Mx} {k : Int}, CW m B W tb x → W z.c.page ≠ [] → MxI B tb x z → z.mu B tb x ≤ f → CountsF f tb x z k tb2 x2 z2 → 1 ≤ k ∧ k ≤ (z.mu B tb x : Int)
 | 0, tb, _, x, _, z, _, _, _, _, _, hf, _ => by have := z.mu_bd B tb x; omega
 | f + 1, tb, _, x, _, z, _, _, w, hW, hi, hf, h => by
  rcases h.next with ⟨rfl, _⟩ | ⟨tb1, x1, z1, k', h1, h2, h3⟩
  ·have := z.mu_bd B tb x; omega
  ·obtain ⟨k1, k2, k3, k4, k5, k6⟩ := h1.step w hW hi
   have hm := h1.mu w hW hi rfl
   have ih := CountsF.bound k1 (by rw [k5]; exact hW) k4 (by omega) h2
   rcases h3 with ⟨h3, h4⟩ | ⟨h3, h4⟩
   ·omega
   ·omega
theorem blocksN_ge : ∀ l : List Rc, l.length ≤ blocksN l
 | [] => Nat.le_refl _
 | r :: l => by have := blocksN_ge l; have := r.pos; simp only [List.length_cons, blocksN]; omega
theorem LgW.no {m : Nat} {x : Lg} (h : LgW m x) : x.no ≤ 488 := by
 have h1 := blocksN_ge x.rs
 have h2 := h.pb; have h3 := h.m60; have h4 := h.base
 unfold Lg.no; unfold Lg.pl at h2; omega
theorem LgW.room {m : Nat} {x : Lg} (h : LgW m x) : x.room 2 = ((1 + m) * 8 : Nat) - 16 := by
 unfold Lg.room; rw [if_neg (by decide), if_neg (by decide), h.ende]
theorem LgW.apE {m : Nat} {x : Lg} (h : LgW m x) {b : List UInt8} (hl : b.length ≤ 12671) (hr : x.pl + kmany b + 16 ≤ (1 + m) * 8) : x.apE x.no x.pl 2 b = 0 := by
 have h1 := h.no
 have h2 := h.room
 unfold Lg.apE
 rw [if_neg (by decide), if_neg (by omega), if_neg (by simp), if_neg (by omega), if_neg (by rw [h2]; omega)]
def rcOf (p : Int) (full : Bool) (e : Ent) : Pr := if full = false ∧ 0 < e.place then ⟨p, e.place, e.nodes.take (e.nodes.length - e.kept.toNat)⟩ else ⟨p, 0, e.nodes⟩
theorem rcOf_may {B : Bd} {x : Lg} {p : Int} {N : Nds} {e : Ent} {full : Bool} {m : Nat} (hx : LgW m x) (h : EOk B x p N e) (hp : pageOk p) (hn : e.nodes = N) (hk : full = true ∨ e.kept < (e.nodes.length : Int)) : (rcOf p full e).may := by
 have hnf := h.nf
 have h1 := hnf.pos; have h2 := hnf.most
 have h3 := h.place; have h4 := h.kept
 have h5 := hx.pb; have h6 := hx.m60
 unfold rcOf
 split
 ·rename_i hc
  have hk : e.kept < (e.nodes.length : Int) := hk.resolve_left (by rw [hc.1]; decide)
  have hkp : 1 ≤ e.kept := by
   rcases h.st with ⟨q, _⟩ | ⟨q, _, _, ⟨q1, _⟩ | ⟨_, j, q1, q2, q3⟩⟩
   ·omega
   ·rw [q1] at hn; rw [← hn] at h1; exact absurd h1 (Nat.not_lt_zero _)
   ·have := q3.pos; rw [List.length_drop] at this; omega
  refine ⟨hp, Int.le_of_lt hc.2, (by show e.place ≤ _; omega), ?_⟩
  have hl : (e.nodes.take (e.nodes.length - e.kept.toNat)).length = e.nodes.length - e.kept.toNat := by rw [List.length_take]; omega
  refine ⟨(by show 1 ≤ (e.nodes.take _).length; rw [hl]; omega), (by show (e.nodes.take _).length ≤ 64; rw [hl, hn]; omega), fun i hi => ?_⟩
  show (e.nodes.take _)[i].1 = (decide (e.place = 0) && _)
  rw [decide_eq_false (by omega : ¬ e.place = 0), Bool.false_and]
  subst hn
  exact take_base hnf (k := e.nodes.length - e.kept.toNat) (by omega) i hi
 ·refine ⟨hp, Int.le_refl _, (by show (0 : Int) ≤ 1099511627776; decide), ?_⟩
  subst hn
  refine ⟨h1, h2, fun i hi => ?_⟩
  show e.nodes[i].1 = (decide ((0 : Int) = 0) && _)
  rw [hnf.base i hi]; simp
theorem FlS.a1 {tb tb2 : Tb} {x x2 : Lg} {z z2 : Fl} {c : Bool} (k : FlS tb x z c z2 tb2 x2) (h : z.at_ = 1) {e : Ent} (he : tb.ent z.c.page = some e) : c = (z.loads e).1 ∧ z2 = (z.loads e).2 ∧ tb2 = tb ∧ x2 = x := by
 cases k with
 | loads _ he' => rw [he] at he'; cases he'; exact ⟨rfl, rfl, rfl, rfl⟩
 | takes h' => omega
 | bad h' => omega
 | app h' => omega
 | swaps h' => omega
 | done h' => omega
theorem FlS.a2 {tb tb2 : Tb} {x x2 : Lg} {z z2 : Fl} {c : Bool} (k : FlS tb x z c z2 tb2 x2) (h : z.at_ = 2) : c = false ∧ z2 = ({ z with hn := x.no, hp := x.pl } : Fl).go 3 ∧ tb2 = tb ∧ x2 = x := by
 cases k with
 | loads h' => omega
 | takes h' => exact ⟨rfl, rfl, rfl, rfl⟩
 | bad h' => omega
 | app h' => omega
 | swaps h' => omega
 | done h' => omega
theorem FlS.a3 {tb tb2 : Tb} {x x2 : Lg} {z z2 : Fl} {c : Bool} (k : FlS tb x z c z2 tb2 x2) (h : z.at_ = 3) (hb : z.okR) (h0 : x.apE z.hn z.hp 2 (pageB z.rc) = 0) : c = false ∧ tb2 = tb ∧ ∃ r : Rc, r.kind = 2 ∧ r.b = pageB z.rc ∧ x2 = x.push r ∧ z2 = ({ z.setR z.rc with no := (x.push r).no } : Fl).go 4 := by
 cases k with
 | loads h' => omega
 | takes h' => omega
 | bad _ hb' => exact absurd hb hb'
 | @app e x2 _ _ he hk =>
  have h0 := he.trans h0
  rcases hk with ⟨g, _⟩ | ⟨_, r, g1, g2, rfl⟩
  ·exact absurd h0 g
  ·have e1 : (z.setR z.rc).appends e (x.push r).no = (false, ({ z.setR z.rc with no := (x.push r).no } : Fl).go 4) := if_pos h0
   rw [e1]; exact ⟨rfl, rfl, r, g1, g2, rfl, rfl⟩
 | swaps h' => omega
 | done h' => omega
theorem SwR.cur {tb tb2 : Tb} {p : Int} {e e2 : Ent} {r : Int} (h : SwR tb p e.tok e2 r tb2) (he : tb.ent p = some e) (hm : e2.mayP) : r = 0 ∧ tb.Swapped tb2 p e2 := by
 rcases h with ⟨g, _⟩ | ⟨e0, g, ⟨g2, _⟩ | ⟨_, g2, _⟩ | ⟨_, _, g2, g3⟩⟩
 ·rw [Tb.ent_none g] at he; cases he
 ·exact absurd hm g2
 ·rw [Tb.ent_some g] at he; cases he; exact absurd rfl g2
 ·exact ⟨g2, g3⟩
theorem FlS.a4 {tb tb2 : Tb} {x x2 : Lg} {z z2 : Fl} {c : Bool} (k : FlS tb x z c z2 tb2 x2) (h : z.at_ = 4) (he : tb.ent z.c.page = some z.c.ent) (hm : z.ent2.mayP) : c = true ∧ x2 = x ∧ tb.Swapped tb2 z.c.page z.ent2 ∧ z2 = z.fin z.ent2 0 := by
 cases k with
 | loads h' => omega
 | takes h' => omega
 | bad h' => omega
 | app h' => omega
 | @swaps r tb2 _ hs =>
  obtain ⟨rfl, g⟩ := hs.cur he hm
  exact ⟨rfl, rfl, g, rfl⟩
 | done h' => omega
/-- What a flush makes of an entry. -/
def flE (p : Int) (full : Bool) (e : Ent) (x : Lg) : Ent := { e with place := x.pl, no := (x.no + 1 : Nat), kept := e.nodes.length, low := if (rcOf p full e).prev = 0 then (x.pl : Int) else e.low }
/-- Four steps of a flush that nobody hinders. -/
structure Fl4 (tb : Tb) (x : Lg) (p : Int) (full : Bool) (e : Ent) (k : Nat) (z : Fl) (tb1 : Tb) (x1 : Lg) : Prop where
 page : z.c.page = p
 fl : z.full = full
 s0 : k = 0 → z.at_ = 1 ∧ tb1 = tb ∧ x1 = x
 s1 : k = 1 → z.at_ = 2 ∧ z.c.ent = e ∧ tb1 = tb ∧ x1 = x
 s2 : k = 2 → z.at_ = 3 ∧ z.c.ent = e ∧ z.hn = x.no ∧ z.hp = x.pl ∧ tb1 = tb ∧ x1 = x
 s3 : k = 3 → z.at_ = 4 ∧ z.c.ent = e ∧ z.ent2 = flE p full e x ∧ tb1 = tb ∧ ∃ r : Rc, r.kind = 2 ∧ r.b = pageB (rcOf p full e) ∧ x1 = x.push r
 s4 : k = 4 → z.c.e = 0 ∧ tb.Swapped tb1 p (flE p full e x) ∧ ∃ r : Rc, r.kind = 2 ∧ r.b = pageB (rcOf p full e) ∧ x1 = x.push r
theorem flE_may {B : Bd} {x : Lg} {p : Int} {N : Nds} {e : Ent} {full : Bool} (h : EOk B x p N e) : (flE p full e x).mayP := by
 have h1 := h.mayP
 refine ⟨h1.m1, ?_, Int.le_refl _, h1.m4, h1.m5, h1.m6, h1.m7⟩
 have := h.low; have h3 := h.txn; have h4 := h.ld
 show 0 ≤ min (min (min (min (min (x.pl : Int) ((x.no + 1 : Nat) : Int)) (if (rcOf p full e).prev = 0 then (x.pl : Int) else e.low)) e.txn) e.lead) (e.nodes.length : Int)
 rw [h3, h4]
 split <;> omega
/-- What a flush that nobody hinders asks for. -/
structure FlG (m : Nat) (B : Bd) (W : Int → Nds) (tb : Tb) (x : Lg) (p : Int) (full : Bool) (e : Ent) : Prop where
 w : CW m B W tb x
 hW : W p ≠ []
 he : tb.ent p = some e
 nn : e.nodes ≠ []
 kp : full = true ∨ e.kept < (e.nodes.length : Int)
 sz : (pageB (rcOf p full e)).length ≤ 12671
 rm : x.pl + kmany (pageB (rcOf p full e)) + 16 ≤ (1 + m) * 8
theorem FlG.ok {m : Nat} {B : Bd} {W : Int → Nds} {tb : Tb} {x : Lg} {p : Int} {full : Bool} {e : Ent} (g : FlG m B W tb x p full e) : EOk B x p (W p) e := (g.w.held g.hW g.he).ok
theorem FlG.nd {m : Nat} {B : Bd} {W : Int → Nds} {tb : Tb} {x : Lg} {p : Int} {full : Bool} {e : Ent} (g : FlG m B W tb x p full e) : e.nodes = W p := g.ok.nds.resolve_left g.nn
theorem Fl4.start {m : Nat} {B : Bd} {W : Int → Nds} {tb : Tb} {x : Lg} {p : Int} {full : Bool} {e : Ent} (g : FlG m B W tb x p full e) : Fl4 tb x p full e 0 (fl0 p full) tb x :=
 ⟨rfl, rfl, fun _ => ⟨rfl, rfl, rfl⟩, fun h => (by cases h), fun h => (by cases h), fun h => (by cases h), fun h => (by cases h)⟩
theorem Fl4.step {m : Nat} {B : Bd} {W : Int → Nds} {tb : Tb} {x : Lg} {p : Int} {full : Bool} {e : Ent} (g : FlG m B W tb x p full e) {k : Nat} (hk : k < 4) {z z2 : Fl} {tb1 tb2 : Tb} {x1 x2 : Lg} (h : Fl4 tb x p full e k z tb1 x1) {c : Bool} (s : FlS tb1 x1 z c z2 tb2 x2) : c = decide (k = 3) ∧ Fl4 tb x p full e (k + 1) z2 tb2 x2 := by
 have hrc : ∀ z : Fl, z.c.page = p → z.full = full → z.c.ent = e → z.rc = rcOf p full e := fun z h1 h2 h3 => by unfold Fl.rc rcOf; rw [h1, h2, h3]
 have hcase : k = 0 ∨ k = 1 ∨ k = 2 ∨ k = 3 := by omega
 rcases hcase with rfl | rfl | rfl | rfl
 ·obtain ⟨h1, rfl, rfl⟩ := h.s0 rfl
  have he : tb1.ent z.c.page = some e := by rw [h.page]; exact g.he
  obtain ⟨c1, c2, c3, c4⟩ := s.a1 h1 he
  have e1 : z.loads e = (false, (z.setE e).go 2) := fl_goes (fun q => g.nn (List.eq_nil_of_length_eq_zero q)) (fun q => by rw [h.fl] at q; rcases g.kp with g1 | g1; (rw [g1] at q; cases q.2); omega)
  rw [e1] at c1 c2
  subst c2; subst c3; subst c4
  exact ⟨c1, h.page, h.fl, fun h => (by cases h), fun _ => ⟨rfl, rfl, rfl, rfl⟩, fun h => (by cases h), fun h => (by cases h), fun h => (by cases h)⟩
 ·obtain ⟨h1, h2, rfl, rfl⟩ := h.s1 rfl
  obtain ⟨c1, c2, c3, c4⟩ := s.a2 h1
  subst c2; subst c3; subst c4
  exact ⟨c1, h.page, h.fl, fun h => (by cases h), fun h => (by cases h), fun _ => ⟨rfl, h2, rfl, rfl, rfl, rfl⟩, fun h => (by cases h), fun h => (by cases h)⟩
 ·obtain ⟨h1, h2, h3, h4, rfl, rfl⟩ := h.s2 rfl
  have er := hrc z h.page h.fl h2
  have hmay := rcOf_may (full := full) g.w.lg g.ok (g.w.pg p g.hW) g.nd g.kp
  obtain ⟨c1, c3, r, c5, c6, c7, c8⟩ := s.a3 h1 (by unfold Fl.okR; rw [er]; exact ⟨hmay, g.sz⟩) (by rw [er, h3, h4]; exact g.w.lg.apE g.sz g.rm)
  rw [er] at c6
  subst c8; subst c3
  refine ⟨c1, h.page, h.fl, fun h => (by cases h), fun h => (by cases h), fun h => (by cases h), fun _ => ⟨rfl, h2, ?_, rfl, r, c5, c6, c7⟩, fun h => (by cases h)⟩
  show ({ z.c.ent with place := z.hp, no := ((x1.push r).no : Int), kept := z.c.ent.nodes.length, low := if z.rc.prev = 0 then (z.hp : Int) else z.c.ent.low } : Ent) = _
  rw [er, h2, h4, x1.no_push r]; rfl
 ·obtain ⟨h1, h2, h3, rfl, r, h4, h5, rfl⟩ := h.s3 rfl
  have he : tb1.ent z.c.page = some z.c.ent := by rw [h.page, h2]; exact g.he
  obtain ⟨c1, c2, c3, c4⟩ := s.a4 h1 he (by rw [h3]; exact flE_may g.ok)
  subst c4
  refine ⟨c1, h.page, h.fl, fun h => (by cases h), fun h => (by cases h), fun h => (by cases h), fun h => (by cases h), fun _ => ⟨rfl, ?_, r, h4, h5, c2⟩⟩
  rw [h3, h.page] at c3; exact c3
/-- A flush that nobody hinders. -/
theorem fl_run {m : Nat} {B : Bd} {W : Int → Nds} {tb : Tb} {x : Lg} {p : Int} {full : Bool} {e : Ent} (g : FlG m B W tb x p full e) : ∀ {j k : Nat} {f : Nat} {z z2 : Fl} {tb1 tb2 : Tb} {x1 x2 : Lg} {y : Mx} {n : Int}, j + k = 4 → 1 ≤ j → Fl4 tb x p full e k z tb1 x1 → CountsF (f + j) tb1 x1 (.fl z) n tb2 x2 y → n = (j : Int) ∧ tb.Swapped tb2 p (flE p full e x) ∧ ∃ r : Rc, r.kind = 2 ∧ r.b = pageB (rcOf p full e) ∧ x2 = x.push r := by
 intro j
 induction j with
 | zero => intro k f z z2 tb1 tb2 x1 x2 y n _ h; omega
 | succ j ih =>
  intro k f z z2 tb1 tb2 x1 x2 y n hjk _ h hc
  rw [← Nat.add_assoc] at hc
  rcases hc.next with ⟨hn, s⟩ | ⟨tb3, x3, z3, k', s, hc2, hn⟩
  ·cases s with
   | fl s =>
    obtain ⟨c1, h2⟩ := h.step g (by omega) s
    have hk3 : k = 3 := of_decide_eq_true c1.symm
    obtain ⟨_, q1, r, q2⟩ := h2.s4 (by omega)
    exact ⟨by omega, q1, r, q2⟩
  ·cases s with
   | fl s =>
    obtain ⟨c1, h2⟩ := h.step g (by omega) s
    have hk3 : ¬ k = 3 := of_decide_eq_false c1.symm
    obtain ⟨q1, q2⟩ := ih (k := k + 1) (z2 := z2) (by omega) (by omega) h2 hc2
    refine ⟨?_, q2⟩
    rcases hn with ⟨hn, _⟩ | ⟨_, hn⟩ <;> omega
/-- A flush that has nothing to do. -/
theorem fl_idle {tb : Tb} {x : Lg} {p : Int} {e : Ent} (he : tb.ent p = some e) (hk : e.nodes.length = 0 ∨ e.kept = e.nodes.length) {f : Nat} {tb2 : Tb} {x2 : Lg} {y : Mx} {n : Int} (hc : CountsF (f + 1) tb x (.fl (fl0 p false)) n tb2 x2 y) : n = 1 ∧ tb2 = tb ∧ x2 = x := by
 have e1 : (fl0 p false).loads e = (true, ((fl0 p false).setE e).fin e 0) := fl_kept (fun q => Bool.noConfusion q.2.2) (hk.imp id fun q => ⟨q, rfl⟩)
 rcases hc.next with ⟨hn, s⟩ | ⟨tb3, x3, z3, k', s, hc2, hn⟩
 ·cases s with
  | fl s => obtain ⟨_, _, c3, c4⟩ := s.a1 rfl he; exact ⟨hn, c3, c4⟩
 ·cases s with
  | fl s => obtain ⟨c1, _⟩ := s.a1 rfl he; rw [e1] at c1; cases c1
theorem EcS.b1 {tb tb2 : Tb} {x x2 : Lg} {z z2 : Ec} {c : Bool} (k : EcS tb x z c z2 tb2 x2) (h : z.at_ = 1) {e : Ent} (he : tb.ent z.c.page = some e) : c = (z.loads e).1 ∧ z2 = (z.loads e).2 ∧ tb2 = tb ∧ x2 = x := by
 cases k with
 | loads _ he' => rw [he] at he'; cases he'; exact ⟨rfl, rfl, rfl, rfl⟩
 | flushes h' => omega
 | swaps h' => omega
 | done h' => omega
theorem EcS.b2 {tb tb2 : Tb} {x x2 : Lg} {z z2 : Ec} {c : Bool} (k : EcS tb x z c z2 tb2 x2) (h : z.at_ = 2) : ∃ c' f, FlS tb x z.f c' f tb2 x2 ∧ c = (z.flushes c' f).1 ∧ z2 = (z.flushes c' f).2 := by
 cases k with
 | loads h' => omega
 | flushes _ hf => exact ⟨_, _, hf, rfl, rfl⟩
 | swaps h' => omega
 | done h' => omega
theorem EcS.b3 {tb tb2 : Tb} {x x2 : Lg} {z z2 : Ec} {c : Bool} (k : EcS tb x z c z2 tb2 x2) (h : z.at_ = 3) (he : tb.ent z.c.page = some z.c.ent) (hm : z.ent2.mayP) : c = true ∧ x2 = x ∧ tb.Swapped tb2 z.c.page z.ent2 := by
 cases k with
 | loads h' => omega
 | flushes h' => omega
 | @swaps r tb2 _ hs =>
  obtain ⟨rfl, g⟩ := hs.cur he hm
  exact ⟨rfl, rfl, g⟩
 | done h' => omega
def evE (e : Ent) : Ent := { e with nodes := [], kept := 0 }
theorem evE_may {B : Bd} {x : Lg} {p : Int} {N : Nds} {e : Ent} (h : EOk B x p N e) : (evE e).mayP := by
 have h1 := h.mayP
 refine ⟨Nat.zero_le _, ?_, Int.le_refl _, h1.m4, h1.m5, h1.m6, fun i y hi => absurd hi (Nat.not_lt_zero _)⟩
 have := h.low; have := h.no; have h2 := h.place; have h3 := h.txn; have h4 := h.ld
 show 0 ≤ min (min (min (min (min e.place e.no) e.low) e.txn) e.lead) 0
 rw [h3, h4]; omega
/-- An evict of a page that the log has: from its start on. -/
theorem ec_run1 {m : Nat} {B : Bd} {W : Int → Nds} {tb : Tb} {x : Lg} {p : Int} {e : Ent} (w : CW m B W tb x) (hW : W p ≠ []) (he : tb.ent p = some e) (hn : e.nodes ≠ []) (hk : e.kept = e.nodes.length) {z : Ec} (hz : z.at_ = 1) (hzp : z.c.page = p) {f : Nat} {tb2 : Tb} {x2 : Lg} {y : Mx} {n : Int} (hc : CountsF (f + 2) tb x (.ec z) n tb2 x2 y) : n = 2 ∧ tb.Swapped tb2 p (evE e) ∧ x2 = x := by
 have hok := (w.held hW he).ok
 have hez : tb.ent z.c.page = some e := by rw [hzp]; exact he
 have e1 : z.loads e = (false, { z with at_ := 3, c := { z.c with ent := e } }) := (if_neg (fun q => hn (List.eq_nil_of_length_eq_zero q))).trans (if_neg (by omega))
 rcases hc.next with ⟨_, s⟩ | ⟨tb3, x3, z3, k', s, hc2, hn2⟩
 ·cases s with
  | ec s => obtain ⟨c1, _⟩ := s.b1 hz hez; rw [e1] at c1; cases c1
 ·cases s with
  | ec s =>
   obtain ⟨c1, c2, rfl, rfl⟩ := s.b1 hz hez
   rw [e1] at c2; subst c2
   rcases hc2.next with ⟨hn3, s⟩ | ⟨tb4, x4, z4, k2, s, hc3, hn3⟩
   ·cases s with
    | ec s =>
     obtain ⟨_, c2, c3⟩ := s.b3 rfl hez (evE_may hok)
     refine ⟨by omega, ?_, c2⟩
     rw [← hzp]; exact c3
   ·cases s with
    | ec s => obtain ⟨c1, _⟩ := s.b3 rfl hez (evE_may hok); cases c1
theorem Swapped.tok {tb tb2 : Tb} {p : Int} {e : Ent} (h : tb.Swapped tb2 p e) : tb2.ent p = some { e with tok := tb.tok + 1 } := by rw [h.ent p, if_pos rfl]
/-- The world behind a flush. -/
theorem FlG.behind {m : Nat} {B : Bd} {W : Int → Nds} {tb tb2 : Tb} {x : Lg} {p : Int} {full : Bool} {e : Ent} (g : FlG m B W tb x p full e) (hs : tb.Swapped tb2 p (flE p full e x)) {r : Rc} (h2 : r.kind = 2) (hb : r.b = pageB (rcOf p full e)) : CW m B W tb2 (x.push r) := by
 have hmay := rcOf_may (full := full) g.w.lg g.ok (g.w.pg p g.hW) g.nd g.kp
 have ha : x.apE x.no x.pl 2 r.b = 0 := by rw [hb]; exact g.w.lg.apE g.sz g.rm
 have hpl : 0 < x.pl := by have := g.w.lg.p0; unfold Lg.pl; omega
 have hch := app_ch (z := ⟨3, ⟨p, e, e, 0⟩, full, 0, 0, ⟨0, 0, []⟩, 0⟩) (s := r) g.ok g.nd ⟨hmay, g.sz⟩ h2 hb hpl
 refine (g.w.push ha).swap (g.w.pg p g.hW) hs (fun _ _ => rfl) ?_; have hok := g.ok
 refine ⟨hok.nf, hok.txn, hok.wt, hok.ld, Int.natCast_nonneg _, ?_, hok.sz, .inr ⟨x.pl, rfl, hpl, .inr ⟨g.nd, (W p).length, by show ((e.nodes.length : Nat) : Int) = _; rw [g.nd], Nat.le_refl _, ?_⟩⟩⟩
 ·show 0 ≤ (if (rcOf p full e).prev = 0 then (x.pl : Int) else e.low)
  have := hok.low; split <;> omega
 ·rw [Nat.sub_self, List.drop_zero, ← g.nd]; exact hch
theorem FaS.d1 {tb tb2 : Tb} {x : Lg} {z z2 : Fa} {c : Bool} (k : FaS tb x z c z2 tb2) (h : z.at_ = 1) {e : Ent} (he : tb.ent z.c.page = some e) : c = (z.loads e).1 ∧ z2 = (z.loads e).2 ∧ tb2 = tb := by
 cases k with
 | loads _ he' => rw [he] at he'; cases he'; exact ⟨rfl, rfl, rfl⟩
 | reads h' => omega
 | swaps h' => omega
 | done h' => omega
theorem FaS.d2 {tb tb2 : Tb} {x : Lg} {z z2 : Fa} {c : Bool} (k : FaS tb x z c z2 tb2) (h : z.at_ = 2) {r : Pr} (hr : RecAt x z.c.page z.place r) : c = false ∧ z2 = z.reads r ∧ tb2 = tb := by
 cases k with
 | loads h' => omega
 | reads _ hr' => rw [hr.uniq hr']; exact ⟨rfl, rfl, rfl⟩
 | swaps h' => omega
 | done h' => omega
theorem FaS.d3 {tb tb2 : Tb} {x : Lg} {z z2 : Fa} {c : Bool} (k : FaS tb x z c z2 tb2) (h : z.at_ = 3) (he : tb.ent z.c.page = some z.c.ent) (hm : z.ent2.mayP) : c = true ∧ tb.Swapped tb2 z.c.page z.ent2 := by
 cases k with
 | loads h' => omega
 | reads h' => omega
 | @swaps r tb2 _ hs =>
  obtain ⟨rfl, g⟩ := hs.cur he hm
  exact ⟨rfl, g⟩
 | done h' => omega
theorem faE_may {B : Bd} {tb : Tb} {x : Lg} {z : Fa} (h : FaI B tb x z) (h3 : z.at_ = 3) : z.ent2.mayP := by
 obtain ⟨hh, hn⟩ := h.swaps h3
 have h1 := hh.ok.mayP
 refine ⟨hh.ok.nf.most, ?_, Int.le_refl _, h1.m4, h1.m5, h1.m6, fun i y hi hy => hh.ok.nf.fst i y hi hy⟩
 have := hh.ok.low; have := hh.ok.no; have h2 := hh.ok.place; have h3 := hh.ok.txn; have h4 := hh.ok.ld
 show 0 ≤ min (min (min (min (min z.c.ent.place z.c.ent.no) z.c.ent.low) z.c.ent.txn) z.c.ent.lead) (z.nodes.length : Int)
 rw [h3, h4]; omega
/-- A fault that is alone brings its page into memory. -/
theorem fa_in {m : Nat} {B : Bd} {W : Int → Nds} : ∀ {f : Nat} {tb tb2 : Tb} {x x2 : Lg} {z : Fa} {y : Mx} {k : Int}, CW m B W tb x → W z.c.page ≠ [] → FaI B tb x z → z.at_ ≠ 9 → (z.at_ ≠ 1 → tb.ent z.c.page = some z.c.ent) → z.mu B.k tb ≤ f → CountsF f tb x (.fa z) k tb2 x2 y → x2 = x ∧ ∃ e, tb2.ent z.c.page = some e ∧ e.nodes ≠ [] ∧ ∀ e0, tb.ent z.c.page = some e0 → e0.nodes = [] → e.kept = e.nodes.length
 | 0, tb, _, x, _, z, _, _, _, _, _, _, _, hf, _ => by have := z.mu_bd B.k tb; omega
 | f + 1, tb, _, x, _, z, _, _, w, hW, hi, h9, hcur, hf, h => by
  obtain ⟨e, he, _, hok⟩ := w.en _ hW
  rcases h.next with ⟨_, h1⟩ | ⟨tb1, x1, z1, k', h1, h2, h3⟩
  ·cases h1 with
   | fa h1 =>
    rcases hi.at_ with g | g | g | g
    ·obtain ⟨c1, _, c3⟩ := h1.d1 g he
     have hne : e.nodes ≠ [] := fun q => by
      unfold Fa.loads at c1
      split at c1
      ·rename_i q1
       rcases q1 with q1 | q1
       ·rw [q] at q1; exact absurd q1 (Nat.lt_irrefl _)
       ·rcases hok.st with ⟨_, _, a3⟩ | ⟨_, a1, a2, _⟩
        ·have := hok.nf.pos; rw [← a3, q] at this; exact absurd this (Nat.not_lt_zero _)
        ·omega
      ·cases c1
     exact ⟨rfl, e, by rw [c3]; exact he, hne, fun e0 q0 q1 => by rw [he] at q0; cases q0; exact absurd q1 hne⟩
    ·obtain ⟨r, hr, _⟩ := hi.room g
     obtain ⟨c1, _⟩ := h1.d2 g hr; cases c1
    ·obtain ⟨_, c2⟩ := h1.d3 g (hcur (by omega)) (faE_may hi g)
     refine ⟨rfl, _, Swapped.tok c2, ?_, fun _ _ _ => rfl⟩
     show z.nodes ≠ []
     intro q
     have := (hi.swaps g).1.ok.nf.pos
     rw [q] at this; exact absurd this (Nat.not_lt_zero _)
    ·exact absurd g h9
  ·obtain ⟨k1, _, _, k4, k5, k6⟩ := MxS.step (z := .fa z) w hW hi h1
   have hm := MxS.mu (z := .fa z) w hW hi h1 rfl
   cases h1 with
   | @fa _ z1 _ _ h1 =>
    have k5 : z1.c.page = z.c.page := k5
    have hm : z1.mu B.k tb1 < z.mu B.k tb := hm
    have hz9 : z1.at_ ≠ 9 := fun q => Bool.noConfusion (k6.2 q)
    have hc1 : z1.at_ ≠ 1 → tb1.ent z1.c.page = some z1.c.ent := by
     intro hz1
     rcases hi.at_ with g | g | g | g
     ·obtain ⟨c1, c2, c3⟩ := h1.d1 g he
      rw [k5, c2, c3, he]
      unfold Fa.loads
      split <;> rfl
     ·obtain ⟨r, hr, _⟩ := hi.room g
      obtain ⟨_, c2, c3⟩ := h1.d2 g hr
      have q := hcur (by omega)
      rw [k5, c2, c3, q]
      unfold Fa.reads
      split <;> rfl
     ·obtain ⟨c1, _⟩ := h1.d3 g (hcur (by omega)) (faE_may hi g); cases c1
     ·exact absurd g h9
    have ih := fa_in k1 (by rw [k5]; exact hW) k4 hz9 hc1 (by omega) h2
    rw [k5] at ih
    obtain ⟨q1, e', q2, q3, q4⟩ := ih
    refine ⟨q1, e', q2, q3, fun e0 q5 q6 => q4 e0 ?_ q6⟩
    rcases hi.at_ with g | g | g | g
    ·obtain ⟨_, _, c3⟩ := h1.d1 g he
     rw [c3]; exact q5
    ·obtain ⟨r, hr, _⟩ := hi.room g
     obtain ⟨_, _, c3⟩ := h1.d2 g hr
     rw [c3]; exact q5
    ·obtain ⟨c1, _⟩ := h1.d3 g (hcur (by omega)) (faE_may hi g); cases c1
    ·exact absurd g h9
/-- A fault of a page that is away takes three steps at least. -/
theorem fa_three {m : Nat} {B : Bd} {W : Int → Nds} {tb : Tb} {x : Lg} {p : Int} {e : Ent} (w : CW m B W tb x) (hW : W p ≠ []) (he : tb.ent p = some e) (hn : e.nodes = []) {f : Nat} {tb2 : Tb} {x2 : Lg} {y : Mx} {n : Int} (hc : CountsF (f + 2) tb x (.fa (fa0 p)) n tb2 x2 y) (h1 : 1 ≤ n) : 3 ≤ n ∧ ((∃ r, RecAt x p e.place.toNat r ∧ r.prev = 0) → f = 0 ∨ n = 3) := by
 have hok := (w.held hW he).ok
 have hpl : 0 < e.place := by
  rcases hok.st with ⟨_, _, a3⟩ | ⟨_, a1, a2, _⟩
  ·have := hok.nf.pos; rw [← a3, hn] at this; exact absurd this (Nat.not_lt_zero _)
  ·omega
 have e1 : (fa0 p).loads e = (false, { fa0 p with at_ := 2, c := { (fa0 p).c with ent := e }, place := e.place.toNat, nodes := [] }) := if_neg (by rw [hn]; simp; omega)
 rcases hc.next with ⟨_, s⟩ | ⟨tb3, x3, z3, k', s, hc2, hn2⟩
 ·cases s with
  | fa s => obtain ⟨c1, _⟩ := s.d1 rfl he; rw [e1] at c1; cases c1
 ·have hk := MxS.step (z := .fa (fa0 p)) w hW (FaI.new B tb x p) s
  cases s with
  | @fa _ z3 _ _ s =>
   obtain ⟨c1, c2, rfl⟩ := s.d1 rfl he
   rw [e1] at c2; subst c2
   obtain ⟨k1, _, _, k4, _, _⟩ := hk
   obtain ⟨r0, hr0, _⟩ := FaI.room k4 rfl
   rcases hc2.next with ⟨hn3, s⟩ | ⟨tb4, x4, z4, k2, s, hc3, hn3⟩
   ·cases s with
    | fa s => obtain ⟨c1, _⟩ := s.d2 rfl hr0; cases c1
   ·have hk2 := MxS.step (z := .fa { fa0 p with at_ := 2, c := { (fa0 p).c with ent := e }, place := e.place.toNat, nodes := [] }) k1 hW k4 s
    cases s with
    | @fa _ z4 _ _ s =>
     obtain ⟨_, c2, rfl⟩ := s.d2 rfl hr0
     refine ⟨by omega, ?_⟩
     rintro ⟨r, hr, hv⟩
     obtain rfl := hr.uniq hr0
     rw [show ({ fa0 p with at_ := 2, c := { (fa0 p).c with ent := e }, place := e.place.toNat, nodes := [] } : Fa).reads r = ⟨3, { (fa0 p).c with ent := e }, e.place.toNat, [] ++ r.nodes⟩ from if_neg (by omega)] at c2
     subst c2
     cases f with
     | zero => exact .inl rfl
     | succ f =>
      right
      obtain ⟨_, _, _, k5, _, _⟩ := hk2
      rcases hc3.next with ⟨hn4, s⟩ | ⟨tb5, x5, z5, k3, s, hc4, hn4⟩
      ·omega
      ·cases s with
       | fa s => obtain ⟨c1, _⟩ := s.d3 rfl he (faE_may k5 rfl); cases c1
def updW (W : Int → Nds) (p : Int) (N : Nds) : Int → Nds := fun k => if k = p then N else W k
theorem updW_same (W : Int → Nds) (p : Int) (N : Nds) : updW W p N p = N := if_pos rfl
theorem updW_ne {W : Int → Nds} {p k : Int} {N : Nds} (h : k ≠ p) : updW W p N k = W k := if_neg h
theorem CW.init {m : Nat} {B : Bd} (hm : m ≤ 60) (tb : Tb) : CW m B (fun _ => []) tb (⟨1, ⟨m, 1, 1⟩, 0, 8, [], 0, 0, 8⟩ : Lg) :=
 ⟨⟨rfl, rfl, rfl, rfl, rfl, (by show 8 + 0 ≤ (1 + m) * 8; omega), hm⟩, fun p h => absurd rfl h, fun p h => absurd rfl h⟩
theorem CW.used {m : Nat} {B : Bd} {W : Int → Nds} {tb tb2 : Tb} {x : Lg} {p : Int} (w : CW m B W tb x) (hu : tb.Used tb2 p zeroEnt) (hp : W p = []) : CW m B W tb2 x := by
 refine ⟨w.lg, w.pg, fun k hk => ?_⟩
 have hkp : k ≠ p := fun q => hk (q ▸ hp)
 obtain ⟨e, h1, h2, h3⟩ := w.en k hk
 exact ⟨e, by rw [hu.ent k, if_neg hkp]; exact h1, by rw [hu.tok]; omega, h3⟩
def newE (N : Nds) : Ent := { zeroEnt with nodes := N }
theorem newE_ok {B : Bd} {x : Lg} {p : Int} {N : Nds} (hN : NForm N) (hs : N.length ≤ B.k ∧ ∀ y ∈ N, y.2.length ≤ B.b) : EOk B x p N (newE N) :=
 ⟨hN, rfl, rfl, rfl, Int.le_refl _, Int.le_refl _, hs, .inl ⟨rfl, rfl, rfl⟩⟩
theorem CW.first {m : Nat} {B : Bd} {W : Int → Nds} {tb0 tb tb2 : Tb} {x : Lg} {p : Int} (w : CW m B W tb0 x) (hu : tb0.Used tb p zeroEnt) (hp : W p = []) (hpp : pageOk p) {N : Nds} (hN : NForm N) (hs : N.length ≤ B.k ∧ ∀ y ∈ N, y.2.length ≤ B.b) {tk : Nat} (htk : tk = tb0.tok + 1) {r : Int} (h : SwR tb p tk (newE N) r tb2) : r = 0 ∧ CW m B (updW W p N) tb2 x ∧ tb2.ent p = some { newE N with tok := tb0.tok + 2 } ∧ tb2.tok = tb0.tok + 2 := by
 have hok : EOk B x p N (newE N) := newE_ok hN hs
 have he : tb.ent p = some { zeroEnt with tok := tb0.tok + 1 } := by rw [hu.ent p, if_pos rfl]
 subst htk
 obtain ⟨rfl, hsw⟩ := SwR.cur (e := { zeroEnt with tok := tb0.tok + 1 }) h he hok.mayP
 have h1 := hu.tok
 refine ⟨rfl, (w.used hu hp).swap hpp hsw (fun k hk => updW_ne hk) (by rw [updW_same]; exact hok), ?_, by rw [hsw.tok, h1]⟩
 rw [hsw.ent p, if_pos rfl, h1]
theorem one_form (d : List UInt8) : NForm [(true, d)] := ⟨Nat.le_refl _, (by show 1 ≤ 64; decide), fun i h => by
 have : i = 0 := by have h : i < 1 := h; omega
 subst this; rfl⟩
def bytesN (l : Nds) : Nat := (l.map fun x => 16 + x.2.length).sum
theorem bytesN_take {l : Nds} {i : Nat} (h : i < l.length) : bytesN (l.take (i + 1)) = bytesN (l.take i) + (16 + l[i].2.length) := by
 unfold bytesN
 rw [List.take_succ_eq_append_getElem h, List.map_append, List.sum_append]; simp
theorem bytesN_le {l : Nds} (hd : ∀ y ∈ l, y.2.length ≤ 140737488351232) : bytesN l ≤ l.length * 140737488351248 := by
 induction l with
 | nil => exact Nat.le_refl _
 | cons a l ih =>
  have h1 := ih fun y hy => hd y (List.mem_cons_of_mem _ hy)
  have h2 := hd a List.mem_cons_self
  unfold bytesN at h1 ⊢
  rw [List.map_cons, List.sum_cons, List.length_cons, Nat.succ_mul]; omega
theorem small_page {p : Int} {N : Nds} (hp : 0 ≤ p ∧ p < 128) (hl : N.length < 128) (hd : ∀ y ∈ N, y.2.length < 128) : (pageB ⟨p, 0, N⟩).length = 3 + ((N.map fun x => 2 + x.2.length).sum) := by
 have h1 : ∀ N : Nds, (∀ y ∈ N, y.2.length < 128) → (N.flatMap nodeB).length = (N.map fun x => 2 + x.2.length).sum := by
  intro N hd
  induction N with
  | nil => rfl
  | cons a l ih =>
   have h2 := ih fun y hy => hd y (List.mem_cons_of_mem _ hy)
   have h3 := hd a List.mem_cons_self
   have h4 : (nodeB a).length = 2 + a.2.length := by
    unfold nodeB
    rw [numB_lo (by split <;> omega), numB_lo h3]
    simp; omega
   rw [List.flatMap_cons, List.length_append, h2, h4, List.map_cons, List.sum_cons]
 unfold pageB nodesB
 simp only [List.length_append]
 rw [numB_lo (n := p.toNat) (by omega), numB_lo (n := (0 : Int).toNat) (by decide), numB_lo (n := N.length) hl, h1 N hd]
 simp; omega
theorem cac_Bytes {I : Imm} {e : Ent} {cs : List Value} (he : REnt I e cs) (hs : e.sized) (h64 : e.nodes.length ≤ 64) : Spec Tryz.prog 21 [.agg cs.toArray] I [] (fun v J L => v = .int .i64 (bytesN e.nodes : Int) ∧ I = J ∧ L = []) := by
 obtain ⟨vn, vw, nv, rfl, hn1, hn2, hw⟩ := id he.ex
 obtain ⟨An, cn, rfl, _⟩ := hn1.slice'
 refine Spec.of Tryz.func21 rfl Tryz.ntmps21 (Nat.le_of_ble_eq_true rfl) (fun F => ?_)
 try simp only [nf]
 dsimp only [argsEnv]
 refine WP.seq ?_; refine WP.region [0, 1] rfl ?_; refine WP.loud rfl rfl ?_; refine Op.box rfl rfl rfl rfl rfl (fun b1 => ?_)
 refine WP.mv rfl rfl ?_; refine WP.nil (WP.next (WP.seq ?_))
 refine WP.region [0] rfl ?_; refine WP.mv rfl rfl ?_; refine WP.nil (WP.next (WP.seq (WP.seq ?_)))
 refine WP.region [0, 1, 2, 3] rfl ?_; refine WP.vl rfl (Yld.fieldAddr rfl ty_fd_50_1 rfl) ?_; refine WP.vl rfl (Yld.ld (v := .slice An e.nodes.length cn) rfl ty_sc_45 rfl rfl) ?_; refine WP.vl rfl (Yld.len rfl ty_sl_45 rfl) ?_; refine WP.mv rfl rfl ?_; refine WP.nil ?_; refine WP.sub [(0, _), (1, _), (2, _), (3, _), (7, _), (8, _), (9, _)] ?_ ⟨rfl, rfl, rfl, rfl, rfl, rfl, rfl, trivial⟩
 refine WP.next (WP.block ?_)
 refine WP.loop (X := Nat) (fun i : Nat => [(3, .int .i64 (bytesN (e.nodes.take i) : Int)), (7, .slice An e.nodes.length cn), (8, .int .i64 (e.nodes.length : Int)), (9, .int .i64 (i : Int))]) (fun _ => I) (fun _ : Nat => F) (fun i : Nat => i ≤ e.nodes.length) (fun i => e.nodes.length - i) 0 (Nat.zero_le _) ⟨rfl, rfl, rfl, rfl, trivial⟩ rfl zA ?_; intro i hle
 try dsimp only
 try simp only [nf]
 refine WP.seq ?_; refine WP.region [0] rfl ?_; refine WP.split rfl rfl rfl rfl (Yld.lss rfl rfl rfl) (fun hlt => ?_) (fun hlt => ?_)
 ·have hi : i < e.nodes.length := by omega
  have hin : i < nv.length := by rw [hn2.len]; exact hi
  obtain ⟨d, hd1, hd2⟩ := hn2.at_ i _ (List.getElem?_eq_getElem hin)
  obtain ⟨Ad, cd, hvd, hcd, _⟩ := id hd2
  obtain ⟨bn, kn, Tn, frn, arn, rfl, hbn, hseg, _⟩ := hn1.elem hi
  have hf := flat_seg ndV_len hin []
  rw [List.append_nil, Nat.zero_add] at hf
  rw [hf] at hseg
  have hl2 : e.nodes[i].2.length = d.length := by rw [List.getElem?_eq_getElem hi] at hd1; rw [Option.some.inj hd1]
  have hbl := bytesN_le (l := e.nodes.take i) (fun y hy => hs.data y (List.mem_of_mem_take hy))
  have hdl := hs.data _ (List.getElem_mem hi)
  have hll : (e.nodes.take i).length = i := by rw [List.length_take]; omega
  rw [hll] at hbl
  rw [hl2] at hdl
  refine WP.nil (WP.next (WP.seq ?_))
  refine WP.condT rfl ?_; refine WP.skip (WP.next (WP.seq (WP.block (WP.seq ?_))))
  refine WP.region [0, 1, 2, 3] rfl ?_; refine WP.vl rfl (Yld.indexAddr (i := i) rfl ty_sl_45 rfl rfl hi) ?_; refine WP.vl rfl (Yld.loadAggC (vs := [.bool nv[i].1, .slice Ad d.length cd]) rfl ty_ag_70 rfl (There.i hbn) (hseg.trans (by simp only [ndV, hvd])) rfl) ?_; refine WP.loud rfl rfl ?_; refine Op.alloc rfl rfl rfl ty_zr_70 (fun b5 => ?_)
  refine WP.loud rfl rfl ?_; refine Op.sA rfl rfl ty_sz_70 rfl rfl rfl rfl rfl ?_; refine WP.nil ?_; refine WP.sub [(3, _), (5, _), (7, _), (8, _), (9, _), (10, _)] ?_ ⟨rfl, rfl, rfl, rfl, rfl, rfl, trivial⟩
  refine WP.next ?_; refine WP.region [0, 1, 2, 3, 4, 5, 6] rfl ?_; refine WP.mv rfl rfl ?_; refine WP.vl rfl (Yld.fieldAddr rfl ty_fd_70_1 rfl) ?_; refine WP.vl rfl (Yld.ld (v := .slice Ad d.length cd) rfl ty_sc_47 rfl rfl) ?_; refine WP.vl rfl (Yld.len rfl ty_sl_47 rfl) ?_; iterate 2 refine WP.vl rfl (Yld.add64 rfl rfl rfl (by omega)) ?_
  refine WP.mv rfl rfl ?_; refine WP.nil ?_; refine WP.sub [(3, _), (5, _), (7, _), (8, _), (9, _), (10, _)] ?_ ⟨rfl, rfl, rfl, rfl, rfl, rfl, trivial⟩
  refine WP.leave (WP.next ?_)
  refine WP.region [0, 1] rfl ?_; refine WP.vl rfl (Yld.add64 rfl rfl rfl (by omega)) ?_; refine WP.mv rfl rfl ?_; refine WP.nil ?_; refine WP.sub [(3, _), (5, _), (7, _), (8, _), (9, _), (10, _)] ?_ ⟨rfl, rfl, rfl, rfl, rfl, rfl, trivial⟩
  exact WP.again (i + 1) (show i + 1 ≤ e.nodes.length by omega) (show e.nodes.length - (i + 1) < e.nodes.length - i by omega) ⟨by rw [bytesN_take hi]; simp only [Env.ev, hl2]; rfl, rfl, rfl, rfl, trivial⟩ rfl zA
 ·obtain rfl : i = e.nodes.length := by omega
  rw [List.take_length]
  refine WP.nil (WP.next (WP.seq ?_))
  refine WP.condF rfl ?_; refine WP.exit (WP.thenE (WP.thenE (WP.hit (WP.next (WP.seq ?_)))))
  refine WP.region [0, 1] rfl ?_; iterate 2 refine WP.mv rfl rfl ?_
  refine WP.nil ?_; refine WP.sub [(2, _), (3, _), (7, _), (8, _), (9, _), (10, _)] ?_ ⟨rfl, rfl, rfl, rfl, rfl, rfl, trivial⟩
  refine WP.next (WP.ret ?_)
  refine WP.fn .ret (.inr rfl) (res1 rfl rfl) [] (Imm.le_refl _) ?_; exact ⟨rfl, rfl, rfl⟩


def putE (e : Ent) (d : List UInt8) : Ent := { e with nodes := (false, d) :: e.nodes }
theorem NForm.put {N : Nds} (h : NForm N) (hl : N.length ≤ 60) (d : List UInt8) : NForm ((false, d) :: N) := by
 refine ⟨Nat.succ_pos _, by rw [List.length_cons]; omega, fun i hi => ?_⟩
 have := h.pos
 cases i with
 | zero => show false = _; rw [List.length_cons]; exact (decide_eq_false (by omega)).symm
 | succ i =>
  rw [List.length_cons] at hi
  show N[i].1 = _
  rw [h.base i (by omega), List.length_cons]
  exact decide_eq_decide.2 (by omega)
theorem EOk.put {B : Bd} {x : Lg} {p : Int} {N : Nds} {e : Ent} (h : EOk B x p N e) (hn : e.nodes ≠ []) (hl : N.length ≤ 60) {d : List UInt8} (hk : N.length + 1 ≤ B.k) (hd : d.length ≤ B.b) : EOk B x p ((false, d) :: N) (putE e d) := by
 have hN := h.nds.resolve_left hn
 refine ⟨h.nf.put hl d, h.txn, h.wt, h.ld, h.no, h.low, ⟨hk, fun y hy => ?_⟩, ?_⟩
 ·rcases List.mem_cons.1 hy with rfl | hy
  ·exact hd
  ·exact h.sz.2 y hy
 ·rcases h.st with ⟨a1, a2, a3⟩ | ⟨q, a1, a2, ⟨a3, _⟩ | ⟨a3, j, a4, a5, a6⟩⟩
  ·exact .inl ⟨a1, a2, by show (false, d) :: e.nodes = _; rw [hN]⟩
  ·exact absurd a3 hn
  ·refine .inr ⟨q, a1, a2, .inr ⟨by show (false, d) :: e.nodes = _; rw [hN], j, a4, by rw [List.length_cons]; omega, ?_⟩⟩
   rw [List.length_cons, show N.length + 1 - j = (N.length - j) + 1 by omega, List.drop_succ_cons]
   exact a6
/-- What put does. -/
def CPutR (tb : Tb) (p : Int) (e : Ent) (d : List UInt8) (c : Bool) (tb2 : Tb) : Prop := (c = false ∧ tb2 = tb ∧ (e.nodes = [] ∨ 60 < e.nodes.length)) ∨ (c = true ∧ e.nodes ≠ [] ∧ e.nodes.length ≤ 60 ∧ tb.Swapped tb2 p (putE e d))
theorem law_put {I : Imm} {t l : Nat} {tb : Tb} {Lt : Chunks} (hT : IsT I t tb Lt) {rg dk sg0 qd ru rm r9 : Nat} (hrg : I.blk rg = some (row 37 [.pointer (some ⟨dk, 0, none⟩), .pointer (some ⟨sg0, 0, none⟩), .pointer (some ⟨l, 0, none⟩), .pointer (some ⟨t, 0, none⟩), .pointer (some ⟨qd, 0, none⟩), .pointer (some ⟨ru, 0, none⟩), .pointer (some ⟨rm, 0, none⟩), .pointer (some ⟨r9, 0, none⟩)])) {p : Int} {e : Ent} {vb : Value} {d : List UInt8} (hg : tb.ent p = some e) (hb : SlRd (Im I) vb d.length 1 (bytesV d)) (hel : e.nodes.length ≤ 64) (htk : tb.tok + 1 < 18446744073709551616) (hmay : e.nodes ≠ [] → e.nodes.length ≤ 60 → (putE e d).mayP) (hsz : e.nodes ≠ [] → e.nodes.length ≤ 60 → (putE e d).sized) : Spec Tryz.prog 13 [.pointer (some ⟨rg, 0, none⟩), .int .i64 p, vb] I Lt (fun v J L => ∃ c tb2, v = .bool c ∧ CPutR tb p e d c tb2 ∧ IsT J t tb2 L) := by
 obtain ⟨Ab, cb, rfl, hbc, _, _⟩ := id hb
 refine Spec.of Tryz.func13 rfl Tryz.ntmps13 (Nat.le_of_ble_eq_true rfl) (fun F => ?_)
 try simp only [nf]
 dsimp only [argsEnv]
 refine WP.seq ?_; refine WP.region [0] rfl ?_; refine WP.mv rfl rfl ?_; refine WP.nil (WP.next (WP.seq ?_))
 refine WP.region [0, 1, 2, 3, 4, 5, 6, 7, 8, 9, 10, 11] rfl ?_; refine WP.mv rfl rfl ?_; refine WP.vl rfl (Yld.nilCheck rfl rfl) ?_; refine WP.vl rfl (Yld.fieldAddr rfl ty_fd_37_3 rfl) ?_; refine WP.vl rfl (Yld.load (v := .pointer (some ⟨t, 0, none⟩)) rfl ty_sc_31 rfl (There.i hrg) rfl) ?_; refine WP.mv rfl rfl ?_; refine WP.loud rfl rfl ?_; refine Op.cl (tabT_LoadE hT hg) rfl Tryz.func20 rfl rfl rfl rfl ?_; rintro v J2 Lt2 hJ2 ⟨cs, rfl, hre, hT2⟩
 try simp only [nf]
 obtain ⟨vn2, vw2, nv2, rfl, q1, q2, q3⟩ := id hre.ex
 obtain ⟨An2, cn2, rfl, _⟩ := q1.slice'
 obtain ⟨Aw2, cw2, rfl, _⟩ := q3.slice'
 have hes : e.sized := by obtain ⟨_, hg2⟩ := Tb.ent_get hg; exact (hT.ent hg2).1
 have hqn : RNodes J2 (.slice An2 e.nodes.length cn2) e.nodes := ⟨nv2, q1, q2⟩
 have hbd := hb.mono (fun b o q => hJ2.2 b o q)
 refine WP.mv rfl rfl ?_; iterate 2 refine WP.vl rfl (Yld.extract rfl rfl rfl) ?_
 refine WP.loud rfl rfl ?_; refine Op.alloc rfl rfl rfl ty_zr_50 (fun b9 => ?_)
 refine WP.loud rfl rfl ?_; refine Op.sA rfl rfl ty_sz_50 rfl rfl rfl rfl rfl ?_; refine WP.mv rfl rfl ?_; refine WP.nil ?_; refine WP.sub [(0, _), (1, _), (2, _), (6, _), (7, _), (8, _)] ?_ ⟨rfl, rfl, rfl, rfl, rfl, rfl, trivial⟩
 refine WP.next (WP.seq (WP.seq ?_))
 refine WP.region [0, 1, 2, 3, 4, 5, 6, 7, 8, 9, 10, 11, 12, 13] rfl ?_; refine WP.mv rfl rfl ?_; refine WP.vl rfl (Yld.neq rfl rfl rfl false (decide_eq_false (by simp))) ?_; refine WP.mv rfl rfl ?_; refine WP.valG rfl rfl rfl rfl rfl rfl rfl (Yld.fieldAddr rfl ty_fd_50_1 rfl) ?_; refine WP.valG rfl rfl rfl rfl rfl rfl rfl (Yld.ld (v := .slice An2 e.nodes.length cn2) rfl ty_sc_45 rfl rfl) ?_; refine WP.valG rfl rfl rfl rfl rfl rfl rfl (Yld.len rfl ty_sl_45 rfl) ?_; refine WP.splitG rfl rfl rfl rfl rfl rfl rfl (Yld.eql rfl rfl rfl) (fun h26 => ?_) (fun h26 => ?_)
 ·refine WP.vl rfl (Yld.pickF rfl rfl rfl) ?_
  refine WP.mv rfl rfl ?_; iterate 4 refine WP.passG rfl rfl rfl rfl rfl rfl rfl rfl ?_
  refine WP.vl rfl (Yld.pickT rfl rfl rfl) ?_; refine WP.nil ?_; refine WP.sub [(0, _), (1, _), (2, _), (6, _), (7, _), (8, _), (32, _)] ?_ ⟨rfl, rfl, rfl, rfl, rfl, rfl, rfl, trivial⟩
  refine WP.next ?_; refine WP.condT rfl ?_; refine WP.seq ?_; refine WP.region [0] rfl ?_; refine WP.mv rfl rfl ?_; refine WP.nil (WP.next (WP.ret ?_))
  refine WP.fn .ret (.inr rfl) (res1 rfl rfl) Lt2 hJ2 ?_; exact ⟨false, tb, rfl, .inl ⟨rfl, rfl, .inl (List.eq_nil_of_length_eq_zero (by omega))⟩, hT2⟩
 ·refine WP.vl rfl (Yld.pickF rfl rfl rfl) ?_
  refine WP.mv rfl rfl ?_; refine WP.valG rfl rfl rfl rfl rfl rfl rfl (Yld.fieldAddr rfl ty_fd_50_1 rfl) ?_; refine WP.valG rfl rfl rfl rfl rfl rfl rfl (Yld.ld (v := .slice An2 e.nodes.length cn2) rfl ty_sc_45 rfl rfl) ?_; refine WP.valG rfl rfl rfl rfl rfl rfl rfl (Yld.len rfl ty_sl_45 rfl) ?_; refine WP.splitG rfl rfl rfl rfl rfl rfl rfl (Yld.gtr rfl rfl rfl) (fun h212 => ?_) (fun h212 => ?_)
  ·refine WP.vl rfl (Yld.pickF rfl rfl rfl) ?_
   refine WP.nil ?_; refine WP.sub [(0, _), (1, _), (2, _), (6, _), (7, _), (8, _), (32, _)] ?_ ⟨rfl, rfl, rfl, rfl, rfl, rfl, rfl, trivial⟩
   refine WP.next ?_; refine WP.condT rfl ?_; refine WP.seq ?_; refine WP.region [0] rfl ?_; refine WP.mv rfl rfl ?_; refine WP.nil (WP.next (WP.ret ?_))
   refine WP.fn .ret (.inr rfl) (res1 rfl rfl) Lt2 hJ2 ?_; exact ⟨false, tb, rfl, .inl ⟨rfl, rfl, .inr (by omega)⟩, hT2⟩
  ·refine WP.vl rfl (Yld.pickF rfl rfl rfl) ?_
   refine WP.nil ?_; refine WP.sub [(0, _), (1, _), (2, _), (6, _), (7, _), (8, _), (32, _)] ?_ ⟨rfl, rfl, rfl, rfl, rfl, rfl, rfl, trivial⟩
   refine WP.next ?_; refine WP.condF rfl ?_; refine WP.skip (WP.next (WP.seq ?_))
   refine WP.region [0, 1, 2] rfl ?_; refine WP.vl rfl (Yld.fieldAddr rfl ty_fd_50_0 rfl) ?_; refine WP.vl rfl (Yld.ld (v := .int .u64 (e.tok : Int)) rfl ty_sc_44 rfl rfl) ?_; refine WP.mv rfl rfl ?_; refine WP.nil ?_; refine WP.sub [(0, _), (1, _), (2, _), (6, _), (7, _), (8, _), (9, _), (32, _)] ?_ ⟨rfl, rfl, rfl, rfl, rfl, rfl, rfl, rfl, trivial⟩
   refine WP.next (WP.seq ?_)
   refine WP.region [0, 1, 2, 3, 4, 5, 6, 7] rfl ?_; refine WP.mv rfl rfl ?_; refine WP.vl rfl (Yld.buildS (pl := [(1, 1, 1)]) rfl ty_zr_70 ty_zd_70 zK rfl (vs := [_]) rfl (segs := [(1, [_])]) rfl rfl zS) ?_; refine WP.loud rfl rfl ?_; refine Op.buildSlice rfl ty_sl_45 ty_el2_45 rfl rfl rfl rfl (vs := [_]) rfl (segs := [(0, [.bool false, .slice Ab d.length cb])]) (cs := [.bool false, .slice Ab d.length cb]) rfl rfl (.seg (Nat.le_refl _) rfl .nil) (fun bq => ?_)
   refine WP.vl rfl (Yld.fieldAddr rfl ty_fd_50_1 rfl) ?_; refine WP.vl rfl (Yld.ld (v := .slice An2 e.nodes.length cn2) rfl ty_sc_45 rfl rfl) ?_; refine WP.loud rfl rfl ?_; refine Op.append (m := e.nodes.length) rfl ty_sl_45 ty_el_45 rfl rfl rfl rfl rfl (Own.blk (T := 70) (sz := 2) (b := bq) (cap := 1) (n := 1) (xs := [.bool false, .slice Ab d.length cb]) (sp := []) rfl rfl (Nat.le_refl _)) (q1.mono (fun b o h => There.i h)) zT (ndV_one _ q2) (by omega) (by omega) (fun vu Lu hu => ?_)
   try simp only [nf]
   rw [Nat.add_comm 1 e.nodes.length] at hu
   obtain ⟨Au, cu, rfl, _⟩ := hu.slice
   refine WP.vl rfl (Yld.fieldAddr rfl ty_fd_50_1 rfl) ?_; refine WP.loud rfl rfl ?_; refine Op.s1 rfl rfl ty_sz_45 rfl rfl rfl ?_; refine WP.nil ?_; refine WP.sub [(0, _), (1, _), (2, _), (6, _), (7, _), (8, _), (9, _), (32, _)] ?_ ⟨rfl, rfl, rfl, rfl, rfl, rfl, rfl, rfl, trivial⟩
   refine WP.shO hu (fun J3 hJ3 hsl => ?_)
   have hJ23 := Imm.le_trans hJ2 hJ3
   have hn0 : e.nodes ≠ [] := fun q => h26 (by rw [q]; rfl)
   have hrn : RNodes J3 (.slice Au (e.nodes.length + 1) cu) ((false, d) :: e.nodes) := ⟨(false, .slice Ab d.length cb) :: nv2, by exact hsl, NodesOk.app (nv := [(false, .slice Ab d.length cb)]) (l := [(false, d)]) ⟨rfl, fun i x hx => by rcases i with _ | i; cases hx; exact ⟨d, rfl, hbd.mono fun b o q => hJ3.2 b o q⟩; cases hx⟩ (q2.mono (Imv.le hJ3))⟩
   obtain ⟨nvp, hp1, hp2⟩ := id hrn.ex
   have hre2 : REnt J3 (putE e d) [.int .u64 (e.tok : Int), .slice Au (e.nodes.length + 1) cu, .int .i64 e.place, .int .i64 e.no, .int .i64 e.low, .int .i64 e.kept, .int .i64 e.txn, .int .i64 e.lead, .slice Aw2 e.with_.length cw2] := ⟨_, _, nvp, rfl, hp1, hp2, q3.mono (Imv.le hJ3)⟩
   refine WP.next (WP.seq ?_)
   refine WQ.start Tryzmixed 7 zK _ rfl [7, 8, 9] rfl ?_; refine WQ.val rfl rfl rfl (Yld.move rfl rfl) ?_; refine WQ.val rfl rfl rfl (Yld.nilCheck rfl rfl) ?_; refine WQ.val rfl rfl rfl (Yld.fieldAddr rfl ty_fd_37_3 rfl) ?_; refine WQ.val rfl rfl rfl (Yld.load (v := .pointer (some ⟨t, 0, none⟩)) rfl ty_sc_31 rfl (There.i (hJ23.2 _ _ hrg)) rfl) ?_; iterate 2 refine WQ.val rfl rfl rfl (Yld.move rfl rfl) ?_
   refine WQ.val rfl rfl rfl (Yld.ldg (vs := [.int .u64 (e.tok : Int), .slice Au (e.nodes.length + 1) cu, .int .i64 e.place, .int .i64 e.no, .int .i64 e.low, .int .i64 e.kept, .int .i64 e.txn, .int .i64 e.lead, .slice Aw2 e.with_.length cw2]) rfl ty_ag_50 rfl rfl rfl) ?_; refine WQ.nil ?_; refine WP.loud rfl rfl ?_; refine Op.cl (tabT_SwapX (hT2.mono hJ3) (p := p) (tk := e.tok) (e := putE e d) hre2 (hsz hn0 (by omega)) htk) rfl Tryz.func11 rfl rfl rfl rfl ?_; rintro v J4 L67 hJ4 ⟨r, tb2, rfl, hsw, hT3⟩
   try simp only [nf]
   obtain ⟨rfl, hsw2⟩ := hsw.cur hg (hmay hn0 (by omega))
   refine WP.vl rfl (Yld.eql rfl rfl rfl true (decide_eq_true (by rfl))) ?_; refine WP.mv rfl rfl ?_; refine WP.nil ?_; refine WP.sub [(0, _), (1, _), (2, _), (6, _), (7, _), (8, _), (9, _), (32, _)] ?_ ⟨rfl, rfl, rfl, rfl, rfl, rfl, rfl, rfl, trivial⟩
   refine WP.next (WP.ret ?_)
   refine WP.fn .ret (.inr rfl) (res1 rfl rfl) L67 (Imm.le_trans hJ23 hJ4) ?_; exact ⟨true, tb2, rfl, .inr ⟨rfl, hn0, by omega, hsw2⟩, hT3⟩


theorem RNodes.sl {J : Imm} {v : Value} {l : List (Bool × List UInt8)} (h : RNodes J v l) : ∃ A c, v = .slice A l.length c := by
 obtain ⟨nv, ⟨A, c, e, _⟩, _⟩ := h.ex; exact ⟨A, c, e⟩
def bdA : Bd := ⟨1048576, 64⟩
theorem upto0 {tb : Tb} (h : ∀ p, tb.get p = none) : tb.upto 0 := fun k => by
 rw [h]
 constructor
 ·intro h; cases h
 ·intro h; omega
def W1 (N : Nds) : Int → Nds := updW (fun _ => []) 1 N
theorem W1_1 (N : Nds) : W1 N 1 = N := updW_same _ _ _
/-- The first world: a page of one base node. -/
theorem CW.one {m : Nat} {B : Bd} (hm : m ≤ 60) (hK : 1 ≤ B.k) {tb0 tb tb2 : Tb} (h0 : tb0.tok = 0) (hu : tb0.Used tb 1 zeroEnt) {d : List UInt8} (hd : d.length ≤ B.b) {r : Int} (h : SwR tb 1 1 (newE [(true, d)]) r tb2) : r = 0 ∧ CW m B (W1 [(true, d)]) tb2 (⟨1, ⟨m, 1, 1⟩, 0, 8, [], 0, 0, 8⟩ : Lg) ∧ tb2.ent 1 = some { newE [(true, d)] with tok := 2 } ∧ tb2.tok = 2 := by
 have := CW.first (CW.init (m := m) (B := B) hm tb0) hu rfl ⟨by decide, by decide⟩ (one_form d) ⟨hK, fun y hy => by cases List.mem_singleton.1 hy; exact hd⟩ (tk := 1) (by omega) h
 rw [h0] at this
 exact this
theorem FlG.one {m : Nat} {d : List UInt8} {tb : Tb} (hd : d.length ≤ 100) {full : Bool} (w : CW m bdA (W1 [(true, d)]) tb (⟨1, ⟨m, 1, 1⟩, 0, 8, [], 0, 0, 8⟩ : Lg)) (hm : 4 ≤ m) {e : Ent} (he : tb.ent 1 = some e) (hn : e.nodes = [(true, d)]) (hp : e.place = 0) (hk : e.kept = 0) : FlG m bdA (W1 [(true, d)]) tb ⟨1, ⟨m, 1, 1⟩, 0, 8, [], 0, 0, 8⟩ 1 full e ∧ rcOf 1 full e = ⟨1, 0, [(true, d)]⟩ := by
 have er : rcOf 1 full e = ⟨1, 0, [(true, d)]⟩ := by unfold rcOf; rw [if_neg (by rw [hp]; simp), hn]
 have hl : (pageB ⟨1, 0, [(true, d)]⟩).length = 5 + d.length := by
  rw [small_page (by decide) (by show 1 < 128; decide) (fun y hy => by cases List.mem_singleton.1 hy; show d.length < 128; omega)]
  show 3 + (2 + d.length + 0) = _; omega
 refine ⟨⟨w, (by rw [W1_1]; simp), he, (by rw [hn]; simp), .inr (by rw [hk, hn]; show (0 : Int) < 1; decide), (by rw [er, hl]; omega), ?_⟩, er⟩
 rw [er]
 have h1 : kmany (pageB ⟨1, 0, [(true, d)]⟩) ≤ 2 := by unfold kmany; rw [hl]; omega
 show 8 + 0 + _ + 16 ≤ _
 omega
theorem law_awake {I : Imm} : Spec Tryz.prog 7 [] I [] (fun v J L => v = .bool true ∧ L = []) := by
 refine Spec.of Tryz.func7 rfl Tryz.ntmps7 (Nat.le_of_ble_eq_true rfl) (fun F => ?_)
 try simp only [nf]
 dsimp only [argsEnv]
 refine WP.seq ?_; refine WP.region [0] rfl ?_; refine WP.mv rfl rfl ?_; refine WP.nil (WP.next (WP.seq ?_))
 refine WP.region [0, 1] rfl ?_; refine WP.loud rfl rfl ?_; refine Op.cl (txn_Begun (m := 20) (by decide) (by decide)) rfl Tryz.func8 rfl rfl rfl rfl ?_; rintro v Jb Lb hJb ⟨rfl, x, d, s, l, t, q, rt, rm, r9, tb, Ll, Lt, rfl, rfl, hl, hT, hk0, hn0, hs0, hg0⟩
 try simp only [nf]
 refine WP.mv rfl rfl ?_; refine WP.nil ?_; refine WP.sub [(0, _), (1, _)] ?_ ⟨rfl, rfl, trivial⟩
 refine WP.next (WP.seq (WP.seq ?_))
 refine WP.region [0, 1] rfl ?_; refine WP.mv rfl rfl ?_; refine WP.vl rfl (Yld.eqlNil rfl ty_pt_24 rfl rfl) ?_; refine WP.nil ?_; refine WP.sub [(0, _), (1, _), (16, _)] ?_ ⟨rfl, rfl, rfl, trivial⟩
 refine WP.next ?_; refine WP.condF rfl ?_; refine WP.skip (WP.next (WP.seq ?_))
 refine WP.region [0, 1, 2, 3, 4, 5, 6, 7, 8, 9] rfl ?_; refine WP.mv rfl rfl ?_; refine WP.vl rfl (Yld.nilCheck rfl rfl) ?_; refine WP.vl rfl (Yld.fieldAddr rfl ty_fd_37_3 rfl) ?_; refine WP.vl rfl (Yld.ld (v := .pointer (some ⟨t, 0, none⟩)) rfl ty_sc_31 rfl rfl) ?_; refine WP.loud rfl rfl ?_; refine Op.cl (tabT_AllocN hT (by omega) (m := 0) (by decide) (upto0 hg0)) rfl Tryz.func10 rfl rfl rfl rfl ?_; rintro v J1 L1 hJ1 ⟨x1, rfl, hu1, hup1, hT1⟩
 try simp only [nf]
 have hk1 := hu1.tok
 refine WP.mv rfl rfl ?_; iterate 2 refine WP.vl rfl (Yld.extract rfl rfl rfl) ?_
 iterate 2 refine WP.mv rfl rfl ?_
 refine WP.nil ?_; refine WP.sub [(0, _), (1, _), (2, _), (3, _), (16, _)] ?_ ⟨rfl, rfl, rfl, rfl, rfl, trivial⟩
 refine WP.next (WP.seq ?_)
 refine WD.start Tryzmixed 9 (fun c o => c = x ∧ o = row 37 [.pointer (some ⟨d, 0, none⟩), .pointer (some ⟨s, 0, none⟩), .pointer (some ⟨l, 0, none⟩), .pointer (some ⟨t, 0, none⟩), .pointer (some ⟨q, 0, none⟩), .pointer (some ⟨rt, 0, none⟩), .pointer (some ⟨rm, 0, none⟩), .pointer (some ⟨r9, 0, none⟩)]) (fun _ _ => False) (by rintro _ _ ⟨rfl, rfl⟩; exact zM) (fun _ _ h => h.elim) 11 [false, false, false, false, false, false, false, false, false, false, false] rfl rfl ?_; refine WD.vl (i := 0) rfl (Yld.move rfl rfl) ?_; refine WD.vl (i := 1) rfl (Yld.nilCheck rfl rfl) ?_; refine WD.vl (i := 2) rfl (Yld.fieldAddr rfl ty_fd_37_3 rfl) ?_; refine WD.val1 (i := 3) rfl rfl rfl rfl zK rfl zK (Yld.load (v := .pointer (some ⟨t, 0, none⟩)) rfl ty_sc_31 rfl (.inl ⟨rfl, rfl⟩) rfl) ?_; refine WD.vl (i := 4) rfl (Yld.move rfl rfl) ?_; refine WD.loud (i := 5) zK rfl rfl rfl ?_; refine Op.buildSlice rfl ty_sl_47 ty_el2_47 rfl rfl rfl rfl (vs := [_, _, _]) rfl (segs := [(0, [_]), (1, [_]), (2, [_])]) (cs := bytesV [97, 98, 99]) rfl rfl zS (fun bl => ?_)
 refine WD.gR ?_; refine WD.loud (i := 6) zK rfl rfl rfl ?_; refine Op.mark (cs := bytesV [97, 98, 99]) rfl Tryz.underlying47 zK rfl rfl rfl (by repeat (first | exact Rm.chunk | exact Rm.here | exact Rm.nil0 | apply Rm.skip | apply Rm.skipS)) (fun J5 hJ5 hm5 => ?_)
 have hs5 := Im_lit' (c := 3) hm5 (Nat.le_refl _)
 refine WD.gR ?_; refine WD.loud (i := 7) zK rfl rfl rfl ?_; refine Op.cl (txn_Page (d := [97, 98, 99]) hs5) rfl Tryz.func12 rfl rfl rfl rfl ?_; rintro v J7 L7 hJ7 ⟨rfl, hr7⟩
 try simp only [nf]
 obtain ⟨A7, c7, rfl⟩ := hr7.sl
 obtain ⟨nv7, hp7, hq7⟩ := id hr7.ex
 have hJ17 := Imm.le_trans hJ5 hJ7
 have hre7 : REnt J7 (newE [(true, [97, 98, 99])]) [.int .u64 0, .slice A7 1 c7, .int .i64 0, .int .i64 0, .int .i64 0, .int .i64 0, .int .i64 0, .int .i64 0, .slice none 0 0] := ⟨_, _, nv7, rfl, hp7, hq7, ⟨none, 0, rfl, Nat.le_refl _, rfl, .inl rfl⟩⟩
 refine WD.gR ?_; refine WD.vl (i := 8) rfl (Yld.buildS (pl := [(1, 1, 1)]) rfl ty_zr_50 ty_zd_50 zK rfl (vs := [_]) rfl (segs := [(1, [_])]) rfl rfl zS) ?_; refine WD.loud (i := 9) zK rfl rfl rfl ?_; refine Op.cl (tabT_SwapX (hT1.mono hJ17) (p := 1) (tk := 1) (e := newE [(true, [97, 98, 99])]) hre7 ⟨(by show 1 ≤ _; decide), (fun y hy => by cases List.mem_singleton.1 hy; show 3 ≤ _; decide), Nat.zero_le _⟩ (by omega)) rfl Tryz.func11 rfl rfl rfl rfl ?_; rintro v J8 L8 hJ8 ⟨r8, tb_0, rfl, hsw8, hT8⟩
 try simp only [nf]
 obtain ⟨hr8, w_0, he_0, htk_0⟩ := CW.one (m := 20) (B := bdA) (by decide) (by decide) hk0 hu1 (by decide) hsw8
 subst hr8
 have hJ18 := Imm.le_trans hJ17 hJ8
 obtain ⟨xx_0, hxx0⟩ : ∃ u, u = (⟨1, ⟨20, 1, 1⟩, 0, 8, [], 0, 0, 8⟩ : Lg) := ⟨_, rfl⟩
 rw [← hxx0] at w_0 hl
 refine WD.go (.inl rfl) (fun _ _ h => h.elim) ?_; refine WD.vl (i := 10) rfl (Yld.assign rfl rfl) ?_; refine WD.done zK ?_; refine WP.sub [(0, _), (1, _), (2, _), (3, _), (4, _), (16, _)] ?_ ⟨rfl, rfl, rfl, rfl, rfl, rfl, trivial⟩
 refine WP.next (WP.seq ?_)
 refine WQ.start Tryzmixed 8 zK _ rfl [8, 9] rfl ?_; refine WQ.val rfl rfl rfl (Yld.move rfl rfl) ?_; refine WQ.val rfl rfl rfl (Yld.nilCheck rfl rfl) ?_; refine WQ.val rfl rfl rfl (Yld.fieldAddr rfl ty_fd_37_3 rfl) ?_; refine WQ.val rfl rfl rfl (Yld.ld (v := .pointer (some ⟨t, 0, none⟩)) rfl ty_sc_31 rfl rfl) ?_; refine WQ.val rfl rfl rfl (Yld.move rfl rfl) ?_; refine WQ.val rfl rfl rfl (Yld.nilCheck rfl rfl) ?_; refine WQ.val rfl rfl rfl (Yld.fieldAddr rfl ty_fd_37_2 rfl) ?_; refine WQ.val rfl rfl rfl (Yld.ld (v := .pointer (some ⟨l, 0, none⟩)) rfl ty_sc_30 rfl rfl) ?_; refine WQ.nil ?_; refine WP.loud rfl rfl ?_; refine Op.cl (cac_New (t := t) (l := l)) rfl Tryz.func9 rfl rfl rfl rfl ?_; rintro v J Lst - ⟨rfl, st, rfl, rfl⟩
 try simp only [nf]
 refine WP.mv rfl rfl ?_; refine WP.nil ?_; refine WP.sub [(0, _), (1, _), (2, _), (3, _), (4, _), (5, _), (16, _)] ?_ ⟨rfl, rfl, rfl, rfl, rfl, rfl, rfl, trivial⟩
 refine WP.next (WP.seq (WP.seq ?_))
 refine WP.region [0, 1, 2, 3, 4, 5, 6, 7, 8, 9] rfl ?_; refine WP.mv rfl rfl ?_; refine WP.vl rfl (Yld.eqlNil rfl ty_pt_26 rfl rfl) ?_; refine WP.mv rfl rfl ?_; refine WP.valG rfl rfl rfl rfl rfl rfl rfl (Yld.move rfl rfl) ?_; refine WP.valG rfl rfl rfl rfl rfl rfl rfl (Yld.neq rfl rfl rfl false (decide_eq_false (by simp))) ?_; refine WP.vl rfl (Yld.pickF rfl rfl rfl) ?_; refine WP.mv rfl rfl ?_; refine WP.valG rfl rfl rfl rfl rfl rfl rfl (Yld.move rfl rfl) ?_; refine WP.valG rfl rfl rfl rfl rfl rfl rfl (Yld.neq rfl rfl rfl false (decide_eq_false (by simp))) ?_; refine WP.vl rfl (Yld.pickF rfl rfl rfl) ?_; refine WP.nil ?_; refine WP.sub [(0, _), (1, _), (2, _), (3, _), (4, _), (5, _), (16, _), (53, _)] ?_ ⟨rfl, rfl, rfl, rfl, rfl, rfl, rfl, rfl, trivial⟩
 refine WP.next ?_; refine WP.condF rfl ?_; refine WP.skip (WP.next (WP.seq ?_))
 refine WP.perm _ (show Take _ [(st, _)] _ from zT).perm ?_; refine WP.share (fun Ja hJa hst_a => ?_)
 try simp only [nf]
 refine WP.perm _ (show Take _ [(x, _)] _ from zT).perm ?_; refine WP.share (fun J_0 hJb_0 hrg_0 => ?_)
 try simp only [nf]
 have hst_0 := hJb_0.2 _ _ hst_a
 have hJ80 := Imm.le_trans hJa hJb_0
 have hT_0 := hT8.mono hJ80
 have hlg_0 := hl.mono (Imm.le_trans hJ1 (Imm.le_trans hJ18 hJ80))
 have hW1 : W1 [(true, [97, 98, 99])] 1 ≠ [] := by rw [W1_1]; simp
 obtain ⟨g0, er0⟩ := FlG.one (m := 20) (full := false) (e := { newE [(true, [97, 98, 99])] with tok := 2 }) (by decide) (hxx0 ▸ w_0) (by decide) he_0 rfl rfl rfl
 rw [← hxx0] at g0
 refine WP.region [0, 1, 2, 3] rfl ?_; refine WP.mv rfl rfl ?_; refine WP.loud rfl rfl ?_; refine Op.cl (cac_NewFlush (s := st) (p := 1) (b := false)) rfl Tryz.func14 rfl rfl rfl rfl ?_; rintro v J Ln0 - ⟨rfl, m0, f0, rfl, hf0⟩
 try simp only [nf]
 refine WP.loud rfl rfl ?_; refine Op.cl (law_count (z := .fl (fl0 1 false)) hst_0 hT_0 hlg_0 ⟨f0, hf0⟩ w_0 hW1 (FlI.new _ _ _ _ _) (by decide : bdA.b ≤ 1099511627776) (by omega)) rfl Tryz.func19 rfl rfl rfl rfl ?_; rintro v J_1 Lc0 hJc_1 ⟨n0, z0, tb_1, xx_1, Lm0, Lt0, Ll0, rfl, hc0, rfl, hm0, hT_1, hlg_1, w_1, hg0, hi0, hp0, htk_1⟩
 try simp only [nf]
 have hst_1 := hJc_1.2 _ _ hst_0
 have hrg_1 := hJc_1.2 _ _ hrg_0
 have hb0 := CountsF.bound (f := 99) (z := .fl (fl0 1 false)) w_0 hW1 (FlI.new _ _ _ _ _) (Nat.le_trans (Fl.mu_bd _ _ _).2 (by decide)) hc0
 obtain ⟨q0, qs0, r0, qr0, qb0, hx1⟩ := fl_run g0 (j := 4) (k := 0) (f := 95) (z2 := fl0 1 false) rfl (by decide) (Fl4.start g0) hc0
 have he_1 := Swapped.tok qs0
 refine WP.mv rfl rfl ?_; refine WP.nil ?_; refine WP.sub [(0, _), (1, _), (2, _), (3, _), (4, _), (5, _), (6, _), (16, _), (53, _)] ?_ ⟨rfl, rfl, rfl, rfl, rfl, rfl, rfl, rfl, rfl, trivial⟩
 refine WP.next (WP.seq ?_)
 refine WP.region [0, 1, 2, 3] rfl ?_; refine WP.mv rfl rfl ?_; refine WP.loud rfl rfl ?_; refine Op.cl (cac_NewFlush (s := st) (p := 1) (b := false)) rfl Tryz.func14 rfl rfl rfl rfl ?_; rintro v J Ln1 - ⟨rfl, m1, f1, rfl, hf1⟩
 try simp only [nf]
 refine WP.loud rfl rfl ?_; refine Op.cl (law_count (z := .fl (fl0 1 false)) hst_1 hT_1 hlg_1 ⟨f1, hf1⟩ w_1 hW1 (FlI.new _ _ _ _ _) (by decide : bdA.b ≤ 1099511627776) (by omega)) rfl Tryz.func19 rfl rfl rfl rfl ?_; rintro v J_2 Lc1 hJc_2 ⟨n1, z1, tb_2, xx_2, Lm1, Lt1, Ll1, rfl, hc1, rfl, hm1, hT_2, hlg_2, w_2, hg1, hi1, hp1, htk_2⟩
 try simp only [nf]
 have hst_2 := hJc_2.2 _ _ hst_1
 have hrg_2 := hJc_2.2 _ _ hrg_1
 have hb1 := CountsF.bound (f := 99) (z := .fl (fl0 1 false)) w_1 hW1 (FlI.new _ _ _ _ _) (Nat.le_trans (Fl.mu_bd _ _ _).2 (by decide)) hc1
 obtain ⟨q1, hq1, hx2⟩ := fl_idle he_1 (.inr rfl) (f := 98) hc1
 have he_2 := he_1
 rw [← hq1] at he_2
 refine WP.mv rfl rfl ?_; refine WP.nil ?_; refine WP.sub [(0, _), (1, _), (2, _), (3, _), (4, _), (5, _), (6, _), (7, _), (16, _), (53, _)] ?_ ⟨rfl, rfl, rfl, rfl, rfl, rfl, rfl, rfl, rfl, rfl, trivial⟩
 refine WP.next (WP.seq ?_)
 refine WP.region [0, 1, 2, 3] rfl ?_; refine WP.mv rfl rfl ?_; refine WP.loud rfl rfl ?_; refine Op.cl (cac_NewEvict (s := st) (p := 1)) rfl Tryz.func16 rfl rfl rfl rfl ?_; rintro v J Ln2 - ⟨rfl, m2, f2, rfl, hf2⟩
 try simp only [nf]
 refine WP.loud rfl rfl ?_; refine Op.cl (law_count (z := .ec (ec0 1)) hst_2 hT_2 hlg_2 ⟨f2, hf2⟩ w_2 hW1 (EcI.new _ _ _ _) (by decide : bdA.b ≤ 1099511627776) (by omega)) rfl Tryz.func19 rfl rfl rfl rfl ?_; rintro v J_3 Lc2 hJc_3 ⟨n2, z2, tb_3, xx_3, Lm2, Lt2, Ll2, rfl, hc2, rfl, hm2, hT_3, hlg_3, w_3, hg2, hi2, hp2, htk_3⟩
 try simp only [nf]
 have hst_3 := hJc_3.2 _ _ hst_2
 have hrg_3 := hJc_3.2 _ _ hrg_2
 have hb2 := CountsF.bound (f := 99) (z := .ec (ec0 1)) w_2 hW1 (EcI.new _ _ _ _) (Nat.le_trans (Ec.mu_bd _ _ _).2 (by decide)) hc2
 obtain ⟨q2, qs2, hx3⟩ := ec_run1 w_2 hW1 he_2 (show [(true, [97, 98, 99])] ≠ [] by simp) rfl (z := ec0 1) rfl rfl (f := 97) hc2
 obtain ⟨ey, he_3, hy1, hy2⟩ : ∃ e, tb_3.ent 1 = some e ∧ e.nodes = [] ∧ e.place = 8 := ⟨_, Swapped.tok qs2, rfl, by show (xx_0.pl : Int) = 8; rw [hxx0]; rfl⟩
 refine WP.mv rfl rfl ?_; refine WP.nil ?_; refine WP.sub [(0, _), (1, _), (2, _), (3, _), (4, _), (5, _), (6, _), (7, _), (8, _), (16, _), (53, _)] ?_ ⟨rfl, rfl, rfl, rfl, rfl, rfl, rfl, rfl, rfl, rfl, rfl, trivial⟩
 refine WP.next (WP.seq ?_)
 refine WP.region [0, 1, 2, 3, 4, 5, 6, 7, 8, 9, 10] rfl ?_; refine WP.mv rfl rfl ?_; refine WP.vl rfl (Yld.nilCheck rfl rfl) ?_; refine WP.vl rfl (Yld.fieldAddr rfl ty_fd_37_3 rfl) ?_; refine WP.vl rfl (Yld.load (v := .pointer (some ⟨t, 0, none⟩)) rfl ty_sc_31 rfl (There.i hrg_3) rfl) ?_; refine WP.loud rfl rfl ?_; refine Op.cl (tabT_LoadE hT_3 he_3) rfl Tryz.func20 rfl rfl rfl rfl ?_; rintro v J12 Lt12 hJ12 ⟨csy, rfl, hre5, hT_3b⟩
 try simp only [nf]
 obtain ⟨vn5, vw5, nv5, rfl, q51, q52, q53⟩ := id hre5.ex
 obtain ⟨An5, cn5, rfl, _⟩ := q51.slice'
 obtain ⟨Aw5, cw5, rfl, _⟩ := q53.slice'
 have hst_3 := hJ12.2 _ _ hst_3
 have hrg_3 := hJ12.2 _ _ hrg_3
 have hlg_3 := hlg_3.mono hJ12
 have hT_3 := hT_3b
 refine WP.mv rfl rfl ?_; iterate 2 refine WP.vl rfl (Yld.extract rfl rfl rfl) ?_
 refine WP.loud rfl rfl ?_; refine Op.alloc rfl rfl rfl ty_zr_50 (fun b12 => ?_)
 refine WP.loud rfl rfl ?_; refine Op.sA rfl rfl ty_sz_50 rfl rfl rfl rfl rfl ?_; refine WP.mv rfl rfl ?_; refine WP.nil ?_; refine WP.sub [(0, _), (1, _), (2, _), (3, _), (4, _), (5, _), (6, _), (7, _), (8, _), (9, _), (10, _), (16, _), (53, _)] ?_ ⟨rfl, rfl, rfl, rfl, rfl, rfl, rfl, rfl, rfl, rfl, rfl, rfl, rfl, trivial⟩
 refine WP.next (WP.seq ?_)
 refine WP.region [0, 1, 2, 3] rfl ?_; refine WP.mv rfl rfl ?_; refine WP.loud rfl rfl ?_; refine Op.cl (cac_NewFault (s := st) (l := l) (p := 1)) rfl Tryz.func15 rfl rfl rfl rfl ?_; rintro v J Ln3 - ⟨rfl, m3, f3, rfl, hf3⟩
 try simp only [nf]
 refine WP.loud rfl rfl ?_; refine Op.cl (law_count (z := .fa (fa0 1)) hst_3 hT_3 hlg_3 ⟨f3, hf3⟩ w_3 hW1 (FaI.new _ _ _ _) (by decide : bdA.b ≤ 1099511627776) (by omega)) rfl Tryz.func19 rfl rfl rfl rfl ?_; rintro v J_4 Lc3 hJc_4 ⟨n3, z3, tb_4, xx_4, Lm3, Lt3, Ll3, rfl, hc3, rfl, hm3, hT_4, hlg_4, w_4, hg3, hi3, hp3, htk_4⟩
 try simp only [nf]
 have hst_4 := hJc_4.2 _ _ hst_3
 have hrg_4 := hJc_4.2 _ _ hrg_3
 have hb3 := CountsF.bound (f := 99) (z := .fa (fa0 1)) w_3 hW1 (FaI.new _ _ _ _) (Nat.le_trans (Nat.le_of_eq (Fa.mu1 rfl)) (by decide)) hc3
 obtain ⟨hx4, ez, he_4, hz1, _⟩ := fa_in (f := 99) w_3 hW1 (FaI.new _ _ _ _) (by decide) (fun h => absurd rfl h) (Nat.le_trans (Nat.le_of_eq (Fa.mu1 rfl)) (by decide)) hc3
 have hxx3 : xx_3 = xx_0.push r0 := hx3.trans (hx2.trans hx1)
 have hrec : RecAt xx_3 1 ey.place.toNat ⟨1, 0, [(true, [97, 98, 99])]⟩ := ⟨⟨0, by rw [hxx3, hxx0]; exact Nat.zero_lt_one, by rw [hxx3, hxx0, hy2]; rfl, by simp only [hxx3, hxx0]; exact qr0, by simp only [hxx3, hxx0]; rw [← er0]; exact qb0⟩, (er0 ▸ rcOf_may g0.w.lg g0.ok (by decide) g0.nd g0.kp), (er0 ▸ g0.sz), rfl, by rw [hy2]; decide⟩
 have q3 : n3 = 3 := ((fa_three w_3 hW1 he_3 hy1 (f := 97) hc3 hb3.1).2 ⟨_, hrec, rfl⟩).resolve_left (by decide)
 have hz2 : ez.nodes = [(true, [97, 98, 99])] := ((w_4.held hW1 he_4).ok.nds.resolve_left hz1).trans (W1_1 _)
 refine WP.mv rfl rfl ?_; refine WP.nil ?_; refine WP.sub [(0, _), (1, _), (2, _), (3, _), (4, _), (5, _), (6, _), (7, _), (8, _), (9, _), (10, _), (11, _), (16, _), (53, _)] ?_ ⟨rfl, rfl, rfl, rfl, rfl, rfl, rfl, rfl, rfl, rfl, rfl, rfl, rfl, rfl, trivial⟩
 refine WP.next (WP.seq ?_)
 refine WP.region [0, 1, 2, 3, 4, 5, 6, 7, 8, 9, 10] rfl ?_; refine WP.mv rfl rfl ?_; refine WP.vl rfl (Yld.nilCheck rfl rfl) ?_; refine WP.vl rfl (Yld.fieldAddr rfl ty_fd_37_3 rfl) ?_; refine WP.vl rfl (Yld.load (v := .pointer (some ⟨t, 0, none⟩)) rfl ty_sc_31 rfl (There.i hrg_4) rfl) ?_; refine WP.loud rfl rfl ?_; refine Op.cl (tabT_LoadE hT_4 he_4) rfl Tryz.func20 rfl rfl rfl rfl ?_; rintro v J14 Lt14 hJ14 ⟨csz, rfl, hre6, hT_4b⟩
 try simp only [nf]
 have hre6' := hre6
 obtain ⟨vn6, vw6, nv6, rfl, q61, q62, q63⟩ := id hre6.ex
 obtain ⟨An6, cn6, rfl, _⟩ := q61.slice'
 obtain ⟨Aw6, cw6, rfl, _⟩ := q63.slice'
 have hl6 : ez.nodes.length = 1 := by rw [hz2]; rfl
 refine WP.mv rfl rfl ?_; iterate 2 refine WP.vl rfl (Yld.extract rfl rfl rfl) ?_
 refine WP.loud rfl rfl ?_; refine Op.alloc rfl rfl rfl ty_zr_50 (fun b14 => ?_)
 refine WP.loud rfl rfl ?_; refine Op.sA rfl rfl ty_sz_50 rfl rfl rfl rfl rfl ?_; refine WP.mv rfl rfl ?_; refine WP.nil ?_; refine WP.sub [(0, _), (1, _), (2, _), (3, _), (4, _), (5, _), (6, _), (7, _), (8, _), (9, _), (10, _), (11, _), (12, _), (13, _), (16, _), (53, _)] ?_ ⟨rfl, rfl, rfl, rfl, rfl, rfl, rfl, rfl, rfl, rfl, rfl, rfl, rfl, rfl, rfl, rfl, trivial⟩
 refine WP.next (WP.seq ?_)
 refine WP.region [0, 1, 2, 3, 4, 5, 6, 7, 8, 9, 10, 11, 12, 13, 14, 15, 16, 17, 18, 19, 20, 21, 22, 23, 24, 25, 26, 27, 28, 29, 30, 31, 32, 33, 34, 35, 36, 37, 38, 39, 40, 41, 42, 43, 44, 45, 46, 47, 48, 49, 50, 51, 52, 53] rfl ?_; refine WP.mv rfl rfl ?_; refine WP.vl rfl (Yld.eql rfl rfl rfl true (decide_eq_true (by omega))) ?_; refine WP.mv rfl rfl ?_; refine WP.valG rfl rfl rfl rfl rfl rfl rfl (Yld.move rfl rfl) ?_; refine WP.valG rfl rfl rfl rfl rfl rfl rfl (Yld.eql rfl rfl rfl true (decide_eq_true (by omega))) ?_; refine WP.vl rfl (Yld.pickT rfl rfl rfl) ?_; refine WP.mv rfl rfl ?_; refine WP.valG rfl rfl rfl rfl rfl rfl rfl (Yld.move rfl rfl) ?_; refine WP.valG rfl rfl rfl rfl rfl rfl rfl (Yld.eql rfl rfl rfl true (decide_eq_true (by omega))) ?_; refine WP.vl rfl (Yld.pickT rfl rfl rfl) ?_; refine WP.mv rfl rfl ?_; refine WP.valG rfl rfl rfl rfl rfl rfl rfl (Yld.move rfl rfl) ?_; refine WP.valG rfl rfl rfl rfl rfl rfl rfl (Yld.eql rfl rfl rfl true (decide_eq_true (by omega))) ?_; refine WP.vl rfl (Yld.pickT rfl rfl rfl) ?_; refine WP.mv rfl rfl ?_; refine WP.valG rfl rfl rfl rfl rfl rfl rfl (Yld.move rfl rfl) ?_; refine WP.valG rfl rfl rfl rfl rfl rfl rfl (Yld.eql rfl rfl rfl true (decide_eq_true (by rfl))) ?_; refine WP.vl rfl (Yld.pickT rfl rfl rfl) ?_; refine WP.mv rfl rfl ?_; refine WP.valG rfl rfl rfl rfl rfl rfl rfl (Yld.move rfl rfl) ?_; refine WP.valG rfl rfl rfl rfl rfl rfl rfl (Yld.eql rfl rfl rfl true (decide_eq_true (by rfl))) ?_; refine WP.vl rfl (Yld.pickT rfl rfl rfl) ?_
 refine WP.mv rfl rfl ?_; refine WP.valG rfl rfl rfl rfl rfl rfl rfl (Yld.fieldAddr rfl ty_fd_50_1 rfl) ?_; refine WP.valG rfl rfl rfl rfl rfl rfl rfl (Yld.ld (v := .slice An5 ey.nodes.length cn5) rfl ty_sc_45 rfl rfl) ?_; refine WP.valG rfl rfl rfl rfl rfl rfl rfl (Yld.len rfl ty_sl_45 rfl) ?_; refine WP.valG rfl rfl rfl rfl rfl rfl rfl (Yld.eql rfl rfl rfl true (decide_eq_true (by rw [hy1]; rfl))) ?_; refine WP.vl rfl (Yld.pickT rfl rfl rfl) ?_; refine WP.mv rfl rfl ?_; refine WP.valG rfl rfl rfl rfl rfl rfl rfl (Yld.fieldAddr rfl ty_fd_50_2 rfl) ?_; refine WP.valG rfl rfl rfl rfl rfl rfl rfl (Yld.ld (v := .int .i64 ey.place) rfl ty_sc_3 rfl rfl) ?_; refine WP.valG rfl rfl rfl rfl rfl rfl rfl (Yld.eql rfl rfl rfl true (decide_eq_true (by exact hy2))) ?_; refine WP.vl rfl (Yld.pickT rfl rfl rfl) ?_; refine WP.mv rfl rfl ?_; refine WP.valG rfl rfl rfl rfl rfl rfl rfl (Yld.fieldAddr rfl ty_fd_50_1 rfl) ?_; refine WP.valG rfl rfl rfl rfl rfl rfl rfl (Yld.ld (v := .slice An6 ez.nodes.length cn6) rfl ty_sc_45 rfl rfl) ?_; refine WP.valG rfl rfl rfl rfl rfl rfl rfl (Yld.len rfl ty_sl_45 rfl) ?_; refine WP.valG rfl rfl rfl rfl rfl rfl rfl (Yld.eql rfl rfl rfl true (decide_eq_true (by rw [hl6]; rfl))) ?_; refine WP.vl rfl (Yld.pickT rfl rfl rfl) ?_; refine WP.mv rfl rfl ?_; refine WP.valG rfl rfl rfl rfl rfl rfl rfl (Yld.fieldAddr rfl ty_fd_50_1 rfl) ?_; refine WP.valG rfl rfl rfl rfl rfl rfl rfl (Yld.ld (v := .slice An6 ez.nodes.length cn6) rfl ty_sc_45 rfl rfl) ?_; obtain ⟨bn6, kn6, Tn6, frn6, arn6, rfl, hbn6, hseg6, _⟩ := q61.elem (i := 0) (by rw [hl6]; decide)
 have hin6 : 0 < nv6.length := by rw [q62.len, hl6]; decide
 have hf6 := flat_seg ndV_len hin6 []
 rw [List.append_nil, Nat.zero_add] at hf6
 rw [hf6] at hseg6
 obtain ⟨hc60, hc61⟩ := nd_cells hseg6
 obtain ⟨d6, hd61, hd62⟩ := q62.at_ 0 _ (List.getElem?_eq_getElem hin6)
 have hd6 : d6 = [97, 98, 99] := by rw [hz2] at hd61; exact (Prod.mk.inj (Option.some.inj hd61)).2.symm
 subst hd6
 refine WP.valG rfl rfl rfl rfl rfl rfl rfl (Yld.indexAddr (i := 0) rfl ty_sl_45 rfl rfl (by rw [hl6]; decide)) ?_; refine WP.valG rfl rfl rfl rfl rfl rfl rfl (Yld.fieldAddr rfl ty_fd_70_1 rfl) ?_; refine WP.valG rfl rfl rfl rfl rfl rfl rfl (Yld.loadC rfl ty_sc_47 rfl (There.i hbn6) hc61) ?_; refine WP.valG rfl rfl rfl rfl rfl rfl rfl (Yld.str (e := 5) rfl zK zK zK rfl (hd62.mono (fun b o h => There.i h))) ?_; refine WP.valG rfl rfl rfl rfl rfl rfl rfl (Yld.eqlStr rfl rfl rfl true (by decide)) ?_; refine WP.vl rfl (Yld.pickT rfl rfl rfl) ?_; refine WP.mv rfl rfl ?_; refine WP.valG rfl rfl rfl rfl rfl rfl rfl (Yld.ldg (vs := [.int .u64 (ez.tok : Int), .slice (some ⟨bn6, kn6, none⟩) ez.nodes.length cn6, .int .i64 ez.place, .int .i64 ez.no, .int .i64 ez.low, .int .i64 ez.kept, .int .i64 ez.txn, .int .i64 ez.lead, .slice Aw6 ez.with_.length cw6]) rfl ty_ag_50 rfl rfl rfl) ?_; refine WP.loudG rfl rfl rfl rfl rfl ?_; refine Op.cl (cac_Bytes hre6' ((w_4.held hW1 he_4).ok.sized (by decide : bdA.b ≤ 1099511627776)) (by rw [hl6]; decide)) rfl Tryz.func21 rfl rfl rfl rfl ?_; rintro v J L15 - ⟨rfl, rfl, rfl⟩
 try simp only [nf]
 rw [hz2]
 refine WP.valG rfl rfl rfl rfl rfl rfl rfl (Yld.eql rfl rfl rfl true (decide_eq_true (by decide))) ?_; refine WP.vl rfl (Yld.pickT rfl rfl rfl) ?_; refine WP.mv rfl rfl ?_; refine WP.nil ?_; refine WP.sub [(0, _), (1, _), (2, _), (3, _), (4, _), (5, _), (6, _), (7, _), (8, _), (9, _), (10, _), (11, _), (12, _), (13, _), (16, _), (53, _)] ?_ ⟨rfl, rfl, rfl, rfl, rfl, rfl, rfl, rfl, rfl, rfl, rfl, rfl, rfl, rfl, rfl, rfl, trivial⟩
 refine WP.next (WP.ret ?_)
 refine WP.fn .ret (.inr rfl) (res1 rfl rfl) [] (Imm.le_trans hJ1 (Imm.le_trans hJ18 (Imm.le_trans hJ80 (Imm.le_trans hJc_1 (Imm.le_trans hJc_2 (Imm.le_trans hJc_3 (Imm.le_trans hJ12 (Imm.le_trans hJc_4 hJ14)))))))) ?_; exact ⟨rfl, rfl⟩


end Go.Hp
