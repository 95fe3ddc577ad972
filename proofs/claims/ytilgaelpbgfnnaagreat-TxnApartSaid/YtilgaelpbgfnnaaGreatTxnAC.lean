import Derived.Test.YtilgaelpbgfnnaaGreatTxnAA
set_option linter.unusedVariables false
set_option linter.unusedSimpArgs false
namespace Go.Hp
open Go Go.Proofs

inductive IsGrs (J : Imm) (l t : Nat) : List (Nat × Gp) → Chunks → Prop
 | nil : IsGrs J l t [] []
 | cons {g : Nat} {z : Gp} {gs : List (Nat × Gp)} {L1 L2 : Chunks} (h : IsGr J g l t z L1) (k : IsGrs J l t gs L2) : IsGrs J l t ((g, z) :: gs) (L1 ++ L2)
theorem IsGrs.mono {I J : Imm} {l t : Nat} {gs : List (Nat × Gp)} {L : Chunks} (h : IsGrs I l t gs L) (hJ : I.le J) : IsGrs J l t gs L := by
 induction h with
 | nil => exact .nil
 | cons h _ ih => exact .cons (h.mono hJ) ih
theorem IsGrs.snoc {J : Imm} {l t : Nat} {gs : List (Nat × Gp)} {L Lg : Chunks} {g : Nat} {z : Gp} (h : IsGrs J l t gs L) (k : IsGr J g l t z Lg) : IsGrs J l t (gs ++ [(g, z)]) (L ++ Lg) := by
 induction h with
 | nil => have := IsGrs.cons k (.nil (J := J) (l := l) (t := t)); rw [List.append_nil] at this; exact this
 | cons h _ ih => rw [List.cons_append, List.append_assoc]; exact .cons h ih
theorem IsGrs.at_ {J : Imm} {l t : Nat} {gs : List (Nat × Gp)} {L : Chunks} (h : IsGrs J l t gs L) : ∀ {k : Nat} (hk : k < gs.length), ∃ A Lg B, L = A ++ (Lg ++ B) ∧ IsGr J gs[k].1 l t gs[k].2 Lg ∧ ∀ (J2 : Imm) (z2 : Gp) (Lg2 : Chunks), J.le J2 → IsGr J2 gs[k].1 l t z2 Lg2 → IsGrs J2 l t (gs.set k (gs[k].1, z2)) (A ++ (Lg2 ++ B)) := by
 induction h with
 | nil => intro k hk; exact absurd hk (Nat.not_lt_zero _)
 | @cons g z gs L1 L2 h k ih =>
  intro i hi
  cases i with
  | zero =>
   refine ⟨[], L1, L2, rfl, h, fun J2 z2 Lg2 hJ h2 => ?_⟩
   exact IsGrs.cons (g := g) (z := z2) (L1 := Lg2) (L2 := L2) h2 (k.mono hJ)
  | succ i =>
   obtain ⟨A, Lg, B, rfl, h1, h2⟩ := ih (k := i) (by simpa using hi)
   refine ⟨L1 ++ A, Lg, B, by simp, h1, fun J2 z2 Lg2 hJ h3 => ?_⟩
   have := IsGrs.cons (h.mono hJ) (h2 J2 z2 Lg2 hJ h3)
   rw [List.append_assoc]
   exact this
def sumF (f : Gp → Nat) : List (Nat × Gp) → Nat
 | [] => 0
 | x :: l => f x.2 + sumF f l
theorem sumF_set (f : Gp → Nat) : ∀ (l : List (Nat × Gp)) (k : Nat) (hk : k < l.length) (g : Nat) (z : Gp), sumF f (l.set k (g, z)) + f l[k].2 = sumF f l + f z
 | x :: l, 0, _, g, z => by simp only [List.set_cons_zero, sumF, List.getElem_cons_zero]; omega
 | x :: l, k + 1, hk, g, z => by
  have := sumF_set f l k (by simpa using hk) g z
  simp only [List.set_cons_succ, sumF, List.getElem_cons_succ]; omega
theorem sumF_le (f : Gp → Nat) {m : Nat} (hf : ∀ z, f z ≤ m) : ∀ l : List (Nat × Gp), sumF f l ≤ m * l.length
 | [] => Nat.zero_le _
 | x :: l => by
  have := sumF_le f hf l
  have := hf x.2
  simp only [sumF, List.length_cons]; rw [Nat.mul_succ]; omega
theorem sumF_app (f : Gp → Nat) (l m : List (Nat × Gp)) : sumF f (l ++ m) = sumF f l + sumF f m := by
 induction l with
 | nil => simp [sumF]
 | cons x l ih => simp only [List.cons_append, sumF, ih]; omega
theorem sumF_get (f : Gp → Nat) : ∀ (l : List (Nat × Gp)) (k : Nat) (hk : k < l.length), f l[k].2 ≤ sumF f l
 | x :: l, 0, _ => by simp only [sumF, List.getElem_cons_zero]; omega
 | x :: l, k + 1, hk => by
  have := sumF_get f l k (by simpa using hk)
  simp only [sumF, List.getElem_cons_succ]; omega
def apR (k : Nat) : List Pr := twoP ((2 * k + 1 : Nat) : Int) ((2 * k + 2 : Nat) : Int) (UInt8.ofNat k) (UInt8.ofNat (k + 100))
theorem apR_wf {k : Nat} (h : k < 20) : Wf (apR k) := wf_two (by omega) (by omega) (by omega)
theorem apR_pg {k : Nat} {p : Int} (h : p ∈ pgs (apR k)) : p = ((2 * k + 1 : Nat) : Int) ∨ p = ((2 * k + 2 : Nat) : Int) := by
 rcases List.mem_cons.1 h with h | h
 ·exact .inl h
 ·exact .inr (List.mem_singleton.1 h)
theorem apR_ne {j k : Nat} (h : j ≠ k) {r : Pr} (hr : r ∈ apR j) : r.page ∉ pgs (apR k) := fun hm => by
 have h1 := apR_pg (pgs_mem hr)
 have h2 := apR_pg hm
 omega
/-- Groups of two pages each. -/
structure AInv (m : Nat) (x : Lg) (tb : Tb) (gs : List (Nat × Gp)) : Prop where
 len : gs.length = m
 m20 : m ≤ 20
 ph : ∀ (k : Nat) (h : k < gs.length), Ph (apR k) (2 * k + 1) x tb gs[k].2 ∧ PhC (apR k) (2 * k + 1) gs[k].2
 lg : LgB x
 rcs : x.rs.length = sumF Gp.V gs
 tok : tb.tok ≤ 2 * m + sumF (fun z => z.W 2) gs
 apart : ∀ (i j : Nat) (hi : i < gs.length) (hj : j < gs.length), i ≠ j → 2 ≤ gs[i].2.at_ → 2 ≤ gs[j].2.at_ → gs[i].2.c.txn ≠ gs[j].2.c.txn
theorem Ph.tx {rs : List Pr} {T : Nat} {x : Lg} {tb : Tb} {z : Gp} (hp : Ph rs T x tb z) (h : 2 ≤ z.at_) : 1 ≤ z.c.txn ∧ z.c.txn ≤ (x.no : Int) := by
 cases hp <;> first | assumption | (exfalso; omega)
theorem AInv.small {m : Nat} {x : Lg} {tb : Tb} {gs : List (Nat × Gp)} (h : AInv m x tb gs) : x.rs.length ≤ 40 ∧ tb.tok ≤ 120 := by
 have h1 := sumF_le Gp.V Gp.V_le gs
 have h2 := sumF_le (fun z => z.W 2) (fun z => z.W_le 2) gs
 have h3 := h.rcs; have h4 := h.tok; have h5 := h.m20; have h6 := h.len
 rw [h6] at h1 h2
 omega
theorem AInv.evo {m : Nat} {x x' : Lg} {tb tb' : Tb} {gs : List (Nat × Gp)} (h : AInv m x tb gs) {k : Nat} (hk : k < gs.length) {z' : Gp} (he : Evo (apR k) (2 * k + 1) x tb gs[k].2 z' x' tb') : AInv m x' tb' (gs.set k (gs[k].1, z')) := by
 have hl := he.len; have ht := he.tok
 have s1 := sumF_set Gp.V gs k hk gs[k].1 z'
 have s2 := sumF_set (fun z => z.W 2) gs k hk gs[k].1 z'
 have hr := h.rcs; have htk := h.tok
 have hne : ∀ (j : Nat) (hj : j < gs.length), j ≠ k → 2 ≤ z'.at_ → 2 ≤ gs[j].2.at_ → z'.c.txn ≠ gs[j].2.c.txn := fun j hj hjk q1 q2 e => by
  have hx := (h.ph j hj).1.tx q2
  rcases he.txn with ⟨e1, _, e2⟩ | ⟨e1, _⟩
  ·exact h.apart k j hk hj (Ne.symm hjk) (e2 q1) q2 (by rw [← e1]; exact e)
  ·omega
 refine ⟨by rw [List.length_set]; exact h.len, h.m20, fun j hj => ?_, he.lg, by omega, ?_, fun i j hi hj hij => ?_⟩
 ·rw [List.length_set] at hj
  by_cases e : j = k
  ·subst e
   rw [List.getElem_set_self]; exact ⟨he.ph, he.c⟩
  ·rw [List.getElem_set_ne (Ne.symm e)]
   refine ⟨(h.ph j hj).1.stay (apR_wf (by have := h.m20; have := h.len; omega)) he.no (fun r hr => he.ent _ (apR_ne e hr)), (h.ph j hj).2⟩
 ·have e2 : (apR k).length = 2 := rfl
  rw [e2] at ht
  omega
 ·have hi := hi; have hj := hj
  have hi2 : i < gs.length := by rwa [List.length_set] at hi
  have hj2 : j < gs.length := by rwa [List.length_set] at hj
  by_cases e : i = k
  ·subst e
   rw [List.getElem_set_self, List.getElem_set_ne hij]
   exact fun q1 q2 => hne j hj2 (Ne.symm hij) q1 q2
  ·rw [List.getElem_set_ne (Ne.symm e)]
   by_cases e2 : j = k
   ·subst e2
    rw [List.getElem_set_self]
    exact fun q1 q2 e => hne i hi2 hij q2 q1 e.symm
   ·rw [List.getElem_set_ne (Ne.symm e2)]
    exact h.apart i j hi2 hj2 hij
theorem Ph.mu_le {k : Nat} {T : Nat} {x : Lg} {tb : Tb} {z : Gp} (hp : Ph (apR k) T x tb z) : z.mu (apR k).length x ≤ 299 := by
 have e2 : (apR k).length = 2 := rfl
 have e1 : (apR k).tail.length = 1 := rfl
 rw [e2]
 cases hp with
 | c0 h _ => simp [Gp.mu, h]
 | c1 h _ _ => simp only [Gp.mu, h]; simp; split <;> omega
 | c2 h _ _ j hj hl _ _ =>
  have h1 : z.left.length ≤ 1 := by rw [← prs_len, hl, List.length_drop]; omega
  simp [Gp.mu, h]; omega
 | c3 h _ _ _ _ => simp [Gp.mu, h]
 | c4 h _ _ _ =>
  rcases h with h | h
  ·simp [Gp.mu, h]
  ·simp only [Gp.mu, h]; simp; split <;> omega
 | c6 h _ j hj hc _ _ _ =>
  have h1 : z.c.clear.length ≤ 2 := by rw [hc]; unfold pgs; rw [List.length_map, List.length_drop]; have : (rotL (apR k)).length = 2 := rfl; omega
  rcases h with h | h <;> simp [Gp.mu, h] <;> omega
 | c9 h _ _ _ => simp [Gp.mu, h]
/-- One more group, on pages that nobody has. -/
theorem AInv.more {m : Nat} {x : Lg} {tb tb' : Tb} {gs : List (Nat × Gp)} (h : AInv m x tb gs) (h20 : m < 20) (hx : x.rs.length = 0) (ht : tb.tok = 2 * m) (ht' : tb'.tok = 2 * m + 2) (he : ∀ p : Int, p ≤ 2 * (m : Int) → tb'.ent p = tb.ent p) {e : Ent} (h1 : tb'.ent ((2 * m + 1 : Nat) : Int) = some e) (h2 : e.tok = 2 * m + 1) {g : Nat} {ps : List (Pr × Value)} (hps : prs ps = apR m) : AInv (m + 1) x tb' (gs ++ [(g, ⟨0, cm0, 2 * m + 1, ps, [], 0, []⟩)]) := by
 have hlen := h.len
 have hV : ∀ (j : Nat) (hj : j < gs.length), gs[j].2.V = 0 := fun j hj => by have := sumF_get Gp.V gs j hj; have := h.rcs; omega
 have hat : ∀ (j : Nat) (hj : j < gs.length), gs[j].2.at_ < 2 := fun j hj => by
  have := hV j hj
  unfold Gp.V at this
  split at this
  ·omega
  ·split at this <;> cases this
 have hold : ∀ (j : Nat) (hj : j < (gs ++ [(g, (⟨0, cm0, 2 * m + 1, ps, [], 0, []⟩ : Gp))]).length), (gs ++ [(g, (⟨0, cm0, 2 * m + 1, ps, [], 0, []⟩ : Gp))])[j].2.at_ < 2 := fun j hj => by
  by_cases e : j < gs.length
  ·rw [List.getElem_append_left e]; exact hat j e
  ·rw [List.getElem_append_right (by omega)]
   simp only [List.length_append, List.length_cons, List.length_nil] at hj
   have : j - gs.length = 0 := by omega
   simp [this]
 refine ⟨by simp [hlen], by omega, fun j hj => ?_, h.lg, ?_, ?_, fun i j hi hj hij q1 _ => absurd (hold i hi) (by omega)⟩
 ·by_cases e : j < gs.length
  ·rw [List.getElem_append_left e]
   refine ⟨(h.ph j e).1.stay (apR_wf (by omega)) (Nat.le_refl _) (fun r hr => he _ ?_), (h.ph j e).2⟩
   have := apR_pg (pgs_mem hr); omega
  ·simp only [List.length_append, List.length_cons, List.length_nil] at hj
   obtain rfl : j = gs.length := by omega
   rw [List.getElem_append_right (Nat.le_refl _)]
   simp only [Nat.sub_self, List.getElem_cons_zero]
   rw [hlen]
   exact Evo.start hps ⟨_, h1, h2⟩
 ·rw [sumF_app, h.rcs]; rfl
 ·have h3 := h.tok
  rw [sumF_app]
  show tb'.tok ≤ 2 * (m + 1) + (sumF (fun z => z.W 2) gs + (0 + 0))
  omega

theorem mod_nat {a : Int} {m : Nat} (h : 0 < m) : (¬ a.tmod (m : Int) < 0 → ∃ k : Nat, a.tmod (m : Int) = (k : Int) ∧ k < m) ∧ (a.tmod (m : Int) < 0 → ∃ k : Nat, a.tmod (m : Int) + (m : Int) = (k : Int) ∧ k < m) := by
 have h1 := Int.tmod_lt_of_pos a (show (0 : Int) < m by omega)
 have h2 := Int.lt_tmod_of_pos a (show (0 : Int) < m by omega)
 exact ⟨fun h => ⟨(a.tmod (m : Int)).toNat, by omega, by omega⟩, fun h => ⟨(a.tmod (m : Int) + (m : Int)).toNat, by omega, by omega⟩⟩


theorem one_at {J : Imm} {A : Option Addr} {m c : Nat} {cs : List Value} (h : SlRd (Im J) (.slice A m c) cs.length 1 cs) {i : Nat} (hi : i < cs.length) : ∃ b k T fr arr, A = some ⟨b, k, none⟩ ∧ J.blk b = some (.cells arr T fr) ∧ arr[k + i * 1]? = some cs[i] := by
 obtain ⟨b, k, c', T, fr, arr, e, hc, hb, hcd⟩ := h.get (by omega)
 refine ⟨b, k, T, fr, arr, by injection e, hb, ?_⟩
 have := take_cells hcd i cs[i] (by simp [hi]) hi
 rw [Array.getElem?_toList] at this
 rwa [Nat.mul_one]
def ptrsV (gs : List (Nat × Gp)) : List Value := gs.map fun g => .pointer (some ⟨g.1, 0, none⟩)
theorem ptrsV_len (gs : List (Nat × Gp)) : (ptrsV gs).length = gs.length := List.length_map _
theorem ptrsV_of {gs hs : List (Nat × Gp)} (h : hs.map (·.1) = gs.map (·.1)) : ptrsV hs = ptrsV gs := by
 have e : ∀ l : List (Nat × Gp), ptrsV l = (l.map (·.1)).map fun g => .pointer (some ⟨g, 0, none⟩) := fun l => by simp [ptrsV]
 rw [e, e, h]
theorem map_fst_set {gs : List (Nat × Gp)} {k : Nat} (hk : k < gs.length) (z : Gp) : (gs.set k (gs[k].1, z)).map (·.1) = gs.map (·.1) := by
 rw [List.map_set]
 have h : (gs.map (·.1))[k]'(by simpa using hk) = gs[k].1 := by simp
 rw [← h, List.set_getElem_self]
theorem fst_len {gs hs : List (Nat × Gp)} (h : hs.map (·.1) = gs.map (·.1)) : hs.length = gs.length := by
 have := congrArg List.length h; simpa using this
def KPost (l s d n t m : Nat) (y : Dk) (fs : List Nat) (Q : List (Nat × Gp) → Prop) (J : Imm) (L' : Chunks) : Prop := ∃ gs2 x2 tb2 L2 Lt2 Ll2, L' = L2 ++ (Lt2 ++ Ll2) ∧ IsGrs J l t gs2 L2 ∧ IsT J t tb2 Lt2 ∧ IsLog J l s d n x2 y Ll2 ∧ AInv m x2 tb2 gs2 ∧ gs2.map (·.1) = fs ∧ Q gs2
theorem AInv.pre {m : Nat} {x : Lg} {tb : Tb} {gs : List (Nat × Gp)} (h : AInv m x tb gs) {k : Nat} (hk : k < gs.length) : gs[k].2.pre tb := by
 have h1 := h.small; have h2 := h.len; have h3 := h.m20
 exact (h.ph k hk).1.pre (apR_wf (by omega)) (h.ph k hk).2 h.lg (by omega) (by omega)

theorem txn_StepK {I : Imm} {l t s d n m : Nat} {gs : List (Nat × Gp)} {x : Lg} {y : Dk} {tb : Tb} {L Lt Ll : Chunks} (hgs : IsGrs I l t gs L) (hT : IsT I t tb Lt) (hlg : IsLog I l s d n x y Ll) (hinv : AInv m x tb gs) {k : Nat} (hk : k < gs.length) : Spec Tryz.prog 15 [.pointer (some ⟨gs[k].1, 0, none⟩)] I (L ++ (Lt ++ Ll)) (fun v J L' => ∃ b, v = .bool b ∧ KPost l s d n t m y (gs.map (·.1)) (fun _ => True) J L') := by
 obtain ⟨A, Lg, B, hL, hg, hback⟩ := hgs.at_ hk
 refine Spec.reorder (txn_Step hg hT hlg (hinv.pre hk)) (G := A ++ B) (by rw [hL]; exact perm_mid _ _ _ _) ?_
 rintro v J L1 hJ ⟨b, z2, x2, tb2, Lg2, Lt2, Ll2, hst, rfl, rfl, hg2, hT2, hl2⟩
 have h1 := hinv.small; have h2 := hinv.len; have h3 := hinv.m20
 have hw := hst.went (apR_wf (by omega)) (hinv.ph k hk).2 hinv.lg (by omega) (hinv.ph k hk).1
 exact ⟨_, perm_mid A Lg2 B (Lt2 ++ Ll2), b, rfl, _, x2, tb2, _, Lt2, Ll2, rfl, hback J z2 Lg2 hJ hg2, hT2, hl2, hinv.evo hk ((Evo.refl (hinv.ph k hk).1 (hinv.ph k hk).2 hinv.lg).went hw), map_fst_set hk z2, trivial⟩
theorem txn_runK {I : Imm} {l t s d n m : Nat} {gs : List (Nat × Gp)} {x : Lg} {y : Dk} {tb : Tb} {L Lt Ll : Chunks} (hgs : IsGrs I l t gs L) (hT : IsT I t tb Lt) (hlg : IsLog I l s d n x y Ll) (hinv : AInv m x tb gs) {k : Nat} (hk : k < gs.length) (h9 : ∀ (j : Nat) (h : j < gs.length), j < k → gs[j].2.at_ = 9) : Spec Tryz.prog 16 [.pointer (some ⟨gs[k].1, 0, none⟩)] I (L ++ (Lt ++ Ll)) (fun v J L' => v = .tuple #[] ∧ KPost l s d n t m y (gs.map (·.1)) (fun hs => ∀ (j : Nat) (h : j < hs.length), j < k + 1 → hs[j].2.at_ = 9) J L') := by
 obtain ⟨A, Lg, B, hL, hg, hback⟩ := hgs.at_ hk
 have h1 := hinv.small; have h2 := hinv.len; have h3 := hinv.m20
 refine Spec.reorder (txn_runGroup hg hT hlg (apR_wf (by omega)) (hinv.ph k hk).1 (hinv.ph k hk).2 hinv.lg (by omega) (by have e2 : (apR k).length = 2 := rfl; rw [e2]; omega) (hinv.ph k hk).1.mu_le) (G := A ++ B) (by rw [hL]; exact perm_mid _ _ _ _) ?_
 rintro v J L1 hJ ⟨z2, x2, tb2, Lg2, Lt2, Ll2, rfl, rfl, hg2, hT2, hl2, hev, hz9⟩
 refine ⟨_, perm_mid A Lg2 B (Lt2 ++ Ll2), rfl, _, x2, tb2, _, Lt2, Ll2, rfl, hback J z2 Lg2 hJ hg2, hT2, hl2, hinv.evo hk hev, map_fst_set hk z2, fun j hj hjk => ?_⟩
 have hj' := hj
 rw [List.length_set] at hj'
 by_cases e : j = k
 ·subst e; rw [List.getElem_set_self]; exact hz9
 ·rw [List.getElem_set_ne (Ne.symm e)]; exact h9 j hj' (by omega)
theorem txn_GotK {I : Imm} {l t : Nat} {gs : List (Nat × Gp)} {L : Chunks} (hgs : IsGrs I l t gs L) {k : Nat} (hk : k < gs.length) : Spec Tryz.prog 17 [.pointer (some ⟨gs[k].1, 0, none⟩)] I L (fun v J L' => v = .tuple #[.int .i64 (if gs[k].2.c.e ≠ 0 then 0 else gs[k].2.c.txn), .int .i64 gs[k].2.c.e] ∧ I = J ∧ L' = L) := by
 obtain ⟨A, Lg, B, hL, hg, hback⟩ := hgs.at_ hk
 refine Spec.reorder (txn_Got hg) (G := A ++ B) (by have := perm_mid A Lg B []; rw [List.append_nil, List.append_nil] at this; rw [hL]; exact this) ?_
 rintro v J L1 hJ ⟨rfl, rfl, rfl⟩
 exact ⟨L, by have := perm_mid A L1 B []; rw [List.append_nil, List.append_nil] at this; rw [hL]; exact this, rfl, rfl, rfl⟩
/-- An entry of one node with one byte, read. -/
theorem one_node {J : Imm} {e : Ent} {cs : List Value} (h : REnt J e cs) {b : UInt8} (he : e.nodes = [(true, [b])]) : ∃ bn kn c Ad cd Aw cw T fr arr, cs = entV e (.slice (some ⟨bn, kn, none⟩) 1 c) (.slice Aw e.with_.length cw) ∧ J.blk bn = some (.cells arr T fr) ∧ arr[kn + 0 * 2 + 1]? = some (.slice Ad 1 cd) ∧ SlRd (Im J) (.slice Ad 1 cd) 1 1 (bytesV [b]) := by
 obtain ⟨vn, vw, nv, rfl, q1, q2, q3⟩ := h.ex
 obtain ⟨Aw, cw, rfl, _⟩ := q3.slice'
 rw [he] at q1 q2
 have hl := q2.len
 match nv, hl with
 | [(bb, vd)], _ =>
  obtain ⟨d, h1, h2⟩ := q2.at_ 0 (bb, vd) rfl
  injection h1 with h1
  injection h1 with h1 h3
  subst h3
  obtain ⟨Ad, cd, rfl, _⟩ := h2.slice'
  obtain ⟨bn, kn, c, T, fr, arr, rfl, hc, hb, hcd⟩ := q1.get Nat.one_pos
  refine ⟨bn, kn, c, Ad, cd, Aw, cw, T, fr, arr, rfl, hb, ?_, h2⟩
  have := take_cells hcd 1 (.slice Ad 1 cd) rfl (by show 1 < 2; decide)
  rw [Array.getElem?_toList] at this
  exact this
theorem clr_at {m : Nat} {x : Lg} {tb : Tb} {gs : List (Nat × Gp)} (h : AInv m x tb gs) {i : Nat} (hi : i < gs.length) (h9 : gs[i].2.at_ = 9) : gs[i].2.c.e = 0 ∧
  (∃ e, tb.ent ((2 * i + 1 : Nat) : Int) = some e ∧ e.nodes = [(true, [UInt8.ofNat i])] ∧ e.no = gs[i].2.c.txn ∧ e.txn = 0) ∧ ∃ e, tb.ent ((2 * i + 2 : Nat) : Int) = some e ∧ e.nodes = [(true, [UInt8.ofNat (i + 100)])] ∧ e.no = gs[i].2.c.txn ∧ e.txn = 0 := by
 obtain ⟨_, _, he, hc⟩ := (h.ph i hi).1.i9 (by omega)
 obtain ⟨e1, a1, b1, c1⟩ := hc _ (.head _)
 obtain ⟨e2, a2, b2, c2⟩ := hc _ (.tail _ (.head _))
 exact ⟨he, ⟨e1, a1, b1.nodes, b1.no, c1⟩, ⟨e2, a2, b2.nodes, b2.no, c2⟩⟩
structure BuX where
 i : Nat
 J : Imm
 tb : Tb
 gs : List (Nat × Gp)
 v : Value
 Lo : Chunks
 L : Chunks
 Lt : Chunks
structure PkX where
 i : Nat
 J : Imm
 x : Lg
 tb : Tb
 gs : List (Nat × Gp)
 L : Chunks
 Lt : Chunks
 Ll : Chunks
structure FnX where
 i : Nat
 J : Imm
 Lt : Chunks
structure NgX where
 g : Nat
 ps : List (Pr × Value)
 J : Imm
 L : Chunks
set_option maxHeartbeats 2000000 in
theorem txn_TxnApart {I : Imm} {mi : Int} {ps : List Int} {vp : Value} (hps : SlRd (Im I) vp ps.length 1 (ps.map (Value.int .i64))) (hln : ps.length ≤ 140737488351232) : Spec Tryz.prog 3 [.int .i64 mi, vp] I [] (fun v J L => v = .bool true ∧ L = []) := by
 obtain ⟨Ap, cp, rfl, _, _, _⟩ := id hps
 refine Spec.of Tryz.func3 rfl Tryz.ntmps3 (Nat.le_of_ble_eq_true rfl) (fun F => ?_)
 try simp only [nf]
 dsimp only [argsEnv]
 refine WP.seq ?_
 refine WP.region [0] rfl ?_
 refine WP.mv rfl rfl ?_
 refine WP.nil ?_
 refine WP.next ?_
 refine WP.seq ?_
 refine WP.region [0, 1] rfl ?_
 refine WP.loud rfl rfl ?_
 refine Op.cl txn_awake rfl Tryz.func9 rfl rfl rfl rfl ?_
 rintro v Ja L1 hJa ⟨rfl, rfl⟩
 try simp only [nf]
 have hps := hps.mono (fun b o h => hJa.2 b o h)
 refine WP.mv rfl rfl ?_
 refine WP.nil ?_
 refine WP.sub [(0, _), (1, _), (4, _), (5, _)] ?_ ⟨rfl, rfl, rfl, rfl, trivial⟩
 refine WP.next ?_
 refine WP.seq ?_
 refine WP.region [0, 1] rfl ?_
 refine WP.loud rfl rfl ?_
 refine Op.cl (txn_Begun (m := 58) (by decide) (by decide)) rfl Tryz.func10 rfl rfl rfl rfl ?_
 rintro v J Lb - ⟨rfl, x, d, s, l, t, q, rt, rm, r9, tb0, Ll, Lt0, rfl, rfl, hl, hT0, hk0, hn0, hs0, hg0⟩
 try simp only [nf]
 refine WP.mv rfl rfl ?_
 refine WP.nil ?_
 refine WP.sub [(0, _), (1, _), (4, _), (5, _), (6, _)] ?_ ⟨rfl, rfl, rfl, rfl, rfl, trivial⟩
 refine WP.next ?_
 refine WP.seq ?_
 refine WP.seq ?_
 refine WP.region [0, 1, 2, 3, 4, 5] rfl ?_
 refine WP.mv rfl rfl ?_
 refine WP.vl rfl (Yld.not rfl rfl) ?_
 refine WP.mv rfl rfl ?_
 refine WP.valG rfl rfl rfl rfl rfl rfl rfl (Yld.move rfl rfl) ?_
 refine WP.valG rfl rfl rfl rfl rfl rfl rfl (Yld.eqlNil rfl ty_pt_24 rfl rfl) ?_
 refine WP.vl rfl (Yld.pickF rfl rfl rfl) ?_
 refine WP.nil ?_
 refine WP.sub [(0, _), (1, _), (4, _), (5, _), (6, _), (36, _)] ?_ ⟨rfl, rfl, rfl, rfl, rfl, rfl, trivial⟩
 refine WP.next ?_
 refine WP.condF rfl ?_
 refine WP.skip ?_
 refine WP.next ?_
 refine WP.seq ?_
 refine WP.seq ?_
 refine WP.region [0, 1, 2, 3, 4, 5] rfl ?_
 refine WP.mv rfl rfl ?_
 refine WP.split rfl rfl rfl rfl (Yld.lss rfl rfl rfl) (fun hm1 => ?_) (fun hm1 => ?_)
 ·refine WP.mv rfl rfl ?_
  refine WP.passG rfl rfl rfl rfl rfl rfl rfl rfl ?_
  refine WP.passG rfl rfl rfl rfl rfl rfl rfl rfl ?_
  refine WP.vl rfl (Yld.pickT rfl rfl rfl) ?_
  refine WP.nil ?_
  refine WP.sub [(0, _), (1, _), (4, _), (5, _), (6, _), (36, _), (42, _)] ?_ ⟨rfl, rfl, rfl, rfl, rfl, rfl, rfl, trivial⟩
  refine WP.next ?_
  refine WP.condT rfl ?_
  refine WP.seq ?_
  refine WP.region [0] rfl ?_
  refine WP.mv rfl rfl ?_
  refine WP.nil ?_
  refine WP.next ?_
  refine WP.ret ?_
  refine WP.fn .ret (.inr rfl) (res1 rfl rfl) [] hJa ?_
  exact ⟨rfl, rfl⟩
 ·refine WP.mv rfl rfl ?_
  refine WP.valG rfl rfl rfl rfl rfl rfl rfl (Yld.move rfl rfl) ?_
  refine WP.splitG rfl rfl rfl rfl rfl rfl rfl (Yld.gtr rfl rfl rfl) (fun hm2 => ?_) (fun hm2 => ?_)
  ·refine WP.vl rfl (Yld.pickF rfl rfl rfl) ?_
   refine WP.nil ?_
   refine WP.sub [(0, _), (1, _), (4, _), (5, _), (6, _), (36, _), (42, _)] ?_ ⟨rfl, rfl, rfl, rfl, rfl, rfl, rfl, trivial⟩
   refine WP.next ?_
   refine WP.condT rfl ?_
   refine WP.seq ?_
   refine WP.region [0] rfl ?_
   refine WP.mv rfl rfl ?_
   refine WP.nil ?_
   refine WP.next ?_
   refine WP.ret ?_
   refine WP.fn .ret (.inr rfl) (res1 rfl rfl) [] hJa ?_
   exact ⟨rfl, rfl⟩
  ·refine WP.vl rfl (Yld.pickF rfl rfl rfl) ?_
   refine WP.nil ?_
   refine WP.sub [(0, _), (1, _), (4, _), (5, _), (6, _), (36, _), (42, _)] ?_ ⟨rfl, rfl, rfl, rfl, rfl, rfl, rfl, trivial⟩
   refine WP.next ?_
   refine WP.condF rfl ?_
   refine WP.skip ?_
   refine WP.next ?_
   refine WP.seq ?_
   obtain ⟨m, rfl⟩ : ∃ m : Nat, mi = (m : Int) := ⟨mi.toNat, by omega⟩
   obtain ⟨x0, hx0⟩ : ∃ u, u = (⟨1, ⟨58, 1, 1⟩, 0, 8, [], 0, 0, 8⟩ : Lg) := ⟨_, rfl⟩
   rw [← hx0] at hl
   have hlb0 : LgB x0 := by rw [hx0]; exact ⟨rfl, rfl, ⟨58, 1, by decide, rfl⟩, fun r h => by cases h⟩
   have hup0 : tb0.upto (2 * 0) := fun k => by rw [hg0]; constructor; (intro h; cases h); (intro h; omega)
   have hr0 : x0.rs.length = 0 := by rw [hx0]; rfl
   have hinv0 : AInv 0 x0 tb0 [] := ⟨rfl, Nat.zero_le _, fun k h => absurd h (Nat.not_lt_zero _), hlb0, hr0, by rw [hk0]; exact Nat.zero_le _, fun i j h => absurd h (Nat.not_lt_zero _)⟩
   refine WP.region [0] rfl ?_
   refine WP.mv rfl rfl ?_
   refine WP.nil ?_
   refine WP.next ?_
   refine WP.seq ?_
   refine WP.seq ?_
   refine WP.region [0] rfl ?_
   refine WP.mv rfl rfl ?_
   refine WP.nil ?_
   refine WP.next ?_
   refine WP.block ?_
   refine WP.loop (X := BuX) (fun u : BuX => [(0, .int .i64 (m : Int)), (1, .slice Ap ps.length cp), (4, .bool false), (6, .pointer (some ⟨x, 0, none⟩)), (7, u.v), (8, .int .i64 (u.i : Int))]) (fun u => u.J) (fun u : BuX => (x, row 38 [.pointer (some ⟨d, 0, none⟩), .pointer (some ⟨s, 0, none⟩), .pointer (some ⟨l, 0, none⟩), .pointer (some ⟨t, 0, none⟩), .pointer (some ⟨q, 0, none⟩), .pointer (some ⟨rt, 0, none⟩), .pointer (some ⟨rm, 0, none⟩), .pointer (some ⟨r9, 0, none⟩)]) :: (u.Lo ++ (u.L ++ (u.Lt ++ (Ll ++ F))))) (fun u : BuX => Ja.le u.J ∧ IsGrs u.J l t u.gs u.L ∧ IsT u.J t u.tb u.Lt ∧ AInv u.i x0 u.tb u.gs ∧ u.tb.tok = 2 * u.i ∧ u.tb.upto (2 * u.i) ∧ u.i ≤ m ∧ Own 46 1 u.v (ptrsV u.gs) u.i u.Lo) (fun u => m - u.i) ⟨0, Ja, tb0, [], .slice none 0 0, [], [], Lt0⟩ ⟨Imm.le_refl _, .nil, hT0, hinv0, hk0, hup0, Nat.zero_le _, .none0⟩ ⟨rfl, rfl, rfl, rfl, rfl, rfl, trivial⟩ rfl (by (try simp only [List.append_eq, List.cons_append, List.nil_append, List.append_assoc]); repeat (first | exact Rm.chunk | exact Rm.here | exact Rm.nil0 | apply Rm.skip | apply Rm.skipS | apply PX.cons | (apply PX.done; (repeat (first | exact Leave.done | apply Leave.drop | apply Leave.dropS)); done) | apply PX.app)) ?_
   rintro ⟨i, J, tb, gs, vo, Lo, L1, Lt⟩ ⟨hJ, hgs, hT, hinv, htk, hup, hle, ho⟩; dsimp only at hJ hgs hT hinv htk hup hle ho; obtain ⟨Ao, co, rfl, _⟩ := ho.slice
   try dsimp only
   try simp only [nf]
   refine WP.seq ?_
   refine WP.seq ?_
   refine WP.region [0, 1, 2] rfl ?_
   iterate 2 refine WP.mv rfl rfl ?_
   refine WP.split rfl rfl rfl rfl (Yld.lss rfl rfl rfl) (fun hlt => ?_) (fun hlt => ?_)
   ·refine WP.nil ?_
    refine WP.sub [(0, _), (1, _), (4, _), (6, _), (7, _), (8, _), (45, _)] ?_ ⟨rfl, rfl, rfl, rfl, rfl, rfl, rfl, trivial⟩
    refine WP.next ?_
    refine WP.condT rfl ?_
    refine WP.skip ?_
    refine WP.next ?_
    refine WP.seq ?_
    refine WP.block ?_
    refine WP.seq ?_
    refine WP.region [0, 1, 2, 3, 4, 5, 6, 7, 8, 9] rfl ?_
    refine WP.mv rfl rfl ?_
    refine WP.vl rfl (Yld.nilCheck rfl rfl) ?_
    refine WP.vl rfl (Yld.fieldAddr rfl ty_fd_38_3 rfl) ?_
    refine WP.vl rfl (Yld.ld (v := .pointer (some ⟨t, 0, none⟩)) rfl ty_sc_32 rfl rfl) ?_
    refine WP.loud rfl rfl ?_
    refine Op.cl (tabT_AllocN hT (by omega) (m := 2 * i) (by omega) hup) rfl Tryz.func11 rfl rfl rfl rfl ?_
    rintro v J1 Lt1 hJ1 ⟨tb1, rfl, hu1, hup1, hT1⟩
    try simp only [nf]
    have hk1 := hu1.tok
    refine WP.mv rfl rfl ?_
    refine WP.vl rfl (Yld.extract rfl rfl rfl) ?_
    refine WP.vl rfl (Yld.extract rfl rfl rfl) ?_
    iterate 2 refine WP.mv rfl rfl ?_
    refine WP.nil ?_
    refine WP.sub [(0, _), (1, _), (4, _), (6, _), (7, _), (8, _), (9, _), (10, _), (45, _)] ?_ ⟨rfl, rfl, rfl, rfl, rfl, rfl, rfl, rfl, rfl, trivial⟩
    refine WP.next ?_
    refine WP.seq ?_
    refine WP.region [0, 1, 2, 3, 4, 5, 6, 7, 8, 9] rfl ?_
    refine WP.mv rfl rfl ?_
    refine WP.vl rfl (Yld.nilCheck rfl rfl) ?_
    refine WP.vl rfl (Yld.fieldAddr rfl ty_fd_38_3 rfl) ?_
    refine WP.vl rfl (Yld.ld (v := .pointer (some ⟨t, 0, none⟩)) rfl ty_sc_32 rfl rfl) ?_
    refine WP.loud rfl rfl ?_
    refine Op.cl (tabT_AllocN hT1 (by omega) (m := 2 * i + 1) (by omega) hup1) rfl Tryz.func11 rfl rfl rfl rfl ?_
    rintro v J2 Lt2 hJ2 ⟨tb2, rfl, hu2, hup2', hT2⟩
    try simp only [nf]
    have hk2 := hu2.tok
    have hup2 : tb2.upto (2 * (i + 1)) := hup2'
    have htk2 : tb2.tok = 2 * (i + 1) := by omega
    obtain ⟨e1, he1, het, hen⟩ : ∃ e1, tb2.ent ((2 * i + 1 : Nat) : Int) = some e1 ∧ e1.tok = 2 * i + 1 ∧ True := ⟨_, by rw [hu2.ent, if_neg (by omega), hu1.ent, if_pos rfl], by show tb.tok + 1 = _; omega, trivial⟩
    have hent : ∀ p : Int, p ≤ 2 * (i : Int) → tb2.ent p = tb.ent p := fun p hp => by rw [hu2.ent, if_neg (by omega), hu1.ent, if_neg (by omega)]
    refine WP.mv rfl rfl ?_
    refine WP.vl rfl (Yld.extract rfl rfl rfl) ?_
    refine WP.vl rfl (Yld.extract rfl rfl rfl) ?_
    iterate 2 refine WP.mv rfl rfl ?_
    refine WP.nil ?_
    refine WP.sub [(0, _), (1, _), (4, _), (6, _), (7, _), (8, _), (9, _), (10, _), (11, _), (12, _), (45, _)] ?_ ⟨rfl, rfl, rfl, rfl, rfl, rfl, rfl, rfl, rfl, rfl, rfl, trivial⟩
    refine WP.next ?_
    refine WP.seq ?_
    refine WP.region [0, 1, 2, 3, 4, 5, 6, 7, 8, 9, 10, 11] rfl ?_
    refine WP.mv rfl rfl ?_
    refine WP.vl rfl (Yld.nilCheck rfl rfl) ?_
    refine WP.vl rfl (Yld.fieldAddr rfl ty_fd_38_3 rfl) ?_
    refine WP.vl rfl (Yld.ld (v := .pointer (some ⟨t, 0, none⟩)) rfl ty_sc_32 rfl rfl) ?_
    refine WP.mv rfl rfl ?_
    refine WP.loud rfl rfl ?_
    refine Op.cl (tabT_LoadE hT2 he1) rfl Tryz.func12 rfl rfl rfl rfl ?_
    rintro v J3 Lt3 hJ3 ⟨cs, rfl, hre, hT3⟩
    try simp only [nf]
    obtain ⟨vn1, vw1, nv1, rfl, q1, q2, q3⟩ := id hre.ex
    obtain ⟨An1, cn1, rfl, _⟩ := q1.slice'
    obtain ⟨Aw1, cw1, rfl, _⟩ := q3.slice'
    refine WP.mv rfl rfl ?_
    refine WP.vl rfl (Yld.extract rfl rfl rfl) ?_
    refine WP.vl rfl (Yld.extract rfl rfl rfl) ?_
    refine WP.loud rfl rfl ?_
    refine Op.alloc rfl rfl rfl ty_zr_43 (fun b13 => ?_)
    refine WP.loud rfl rfl ?_
    refine Op.sA rfl rfl ty_sz_43 rfl rfl rfl rfl rfl ?_
    refine WP.mv rfl rfl ?_
    refine WP.nil ?_
    refine WP.sub [(0, _), (1, _), (4, _), (6, _), (7, _), (8, _), (9, _), (10, _), (11, _), (12, _), (13, _), (14, _), (45, _)] ?_ ⟨rfl, rfl, rfl, rfl, rfl, rfl, rfl, rfl, rfl, rfl, rfl, rfl, rfl, trivial⟩
    refine WP.next ?_
    refine WP.seq ?_
    refine WP.seq ?_
    refine WP.region [0, 1, 2, 3, 4, 5, 6, 7, 8, 9] rfl ?_
    refine WP.mv rfl rfl ?_
    refine WP.vl rfl (Yld.neq rfl rfl rfl false (decide_eq_false (by simp))) ?_
    refine WP.mv rfl rfl ?_
    refine WP.valG rfl rfl rfl rfl rfl rfl rfl (Yld.move rfl rfl) ?_
    refine WP.valG rfl rfl rfl rfl rfl rfl rfl (Yld.neq rfl rfl rfl false (decide_eq_false (by simp))) ?_
    refine WP.vl rfl (Yld.pickF rfl rfl rfl) ?_
    refine WP.mv rfl rfl ?_
    refine WP.valG rfl rfl rfl rfl rfl rfl rfl (Yld.move rfl rfl) ?_
    refine WP.valG rfl rfl rfl rfl rfl rfl rfl (Yld.neq rfl rfl rfl false (decide_eq_false (by simp))) ?_
    refine WP.vl rfl (Yld.pickF rfl rfl rfl) ?_
    refine WP.nil ?_
    refine WP.sub [(0, _), (1, _), (4, _), (6, _), (7, _), (8, _), (9, _), (10, _), (11, _), (12, _), (13, _), (14, _), (45, _), (82, _)] ?_ ⟨rfl, rfl, rfl, rfl, rfl, rfl, rfl, rfl, rfl, rfl, rfl, rfl, rfl, rfl, trivial⟩
    refine WP.next ?_
    refine WP.condF rfl ?_
    refine WP.skip ?_
    refine WP.next ?_
    refine WP.cut (X := NgX) (fun u : NgX => [(0, .int .i64 (m : Int)), (1, .slice Ap ps.length cp), (4, .bool false), (6, .pointer (some ⟨x, 0, none⟩)), (7, .slice Ao i co), (8, .int .i64 (i : Int)), (15, .pointer (some ⟨u.g, 0, none⟩))]) (fun u => u.J) (fun u : NgX => (x, row 38 [.pointer (some ⟨d, 0, none⟩), .pointer (some ⟨s, 0, none⟩), .pointer (some ⟨l, 0, none⟩), .pointer (some ⟨t, 0, none⟩), .pointer (some ⟨q, 0, none⟩), .pointer (some ⟨rt, 0, none⟩), .pointer (some ⟨rm, 0, none⟩), .pointer (some ⟨r9, 0, none⟩)]) :: (Lo ++ (L1 ++ (u.L ++ (Lt3 ++ (Ll ++ F)))))) (fun u : NgX => J3.le u.J ∧ prs u.ps = apR i ∧ IsGr u.J u.g l t ⟨0, cm0, 2 * i + 1, u.ps, [], 0, []⟩ u.L) ?_ ?_
    ·skip
     refine WD.start Tryzmixed 24 (fun c o => (c = x ∧ o = row 38 [.pointer (some ⟨d, 0, none⟩), .pointer (some ⟨s, 0, none⟩), .pointer (some ⟨l, 0, none⟩), .pointer (some ⟨t, 0, none⟩), .pointer (some ⟨q, 0, none⟩), .pointer (some ⟨rt, 0, none⟩), .pointer (some ⟨rm, 0, none⟩), .pointer (some ⟨r9, 0, none⟩)]) ∨ (c = b13 ∧ o = row 43 (entV e1 (.slice An1 e1.nodes.length cn1) (.slice Aw1 e1.with_.length cw1)))) (fun _ _ => False) (by rintro _ _ (⟨rfl, rfl⟩ | ⟨rfl, rfl⟩) <;> exact (by repeat (first | exact There.h | exact There.i (by assumption) | apply There.t | apply There.s))) (fun _ _ h => h.elim) 26 [false, false, false, false, false, false, false, false, false, false, false, false, false, false, false, false, false, false, false, false, false, false, false, false, false, false] rfl rfl ?_
     refine WD.val (i := 0) rfl rfl rfl rfl (by kernel_rfl) rfl (Yld.move rfl rfl) ?_
     refine WD.val (i := 1) rfl rfl rfl rfl (by kernel_rfl) rfl (Yld.nilCheck rfl rfl) ?_
     refine WD.val (i := 2) rfl rfl rfl rfl (by kernel_rfl) rfl (Yld.fieldAddr rfl ty_fd_38_2 rfl) ?_
     refine WD.val1 (i := 3) rfl rfl rfl rfl (by kernel_rfl) rfl (by kernel_rfl) (Yld.load (v := .pointer (some ⟨l, 0, none⟩)) rfl ty_sc_31 rfl (.inl (.inl ⟨rfl, rfl⟩)) rfl) ?_
     refine WD.val (i := 4) rfl rfl rfl rfl (by kernel_rfl) rfl (Yld.move rfl rfl) ?_
     refine WD.val (i := 5) rfl rfl rfl rfl (by kernel_rfl) rfl (Yld.nilCheck rfl rfl) ?_
     refine WD.val (i := 6) rfl rfl rfl rfl (by kernel_rfl) rfl (Yld.fieldAddr rfl ty_fd_38_3 rfl) ?_
     refine WD.val1 (i := 7) rfl rfl rfl rfl (by kernel_rfl) rfl (by kernel_rfl) (Yld.load (v := .pointer (some ⟨t, 0, none⟩)) rfl ty_sc_32 rfl (.inl (.inl ⟨rfl, rfl⟩)) rfl) ?_
     refine WD.val (i := 8) rfl rfl rfl rfl (by kernel_rfl) rfl (Yld.fieldAddr rfl ty_fd_43_0 rfl) ?_
     refine WD.val1 (i := 9) rfl rfl rfl rfl (by kernel_rfl) rfl (by kernel_rfl) (Yld.load (v := .int .u64 (e1.tok : Int)) rfl ty_sc_40 rfl (.inl (.inr ⟨rfl, rfl⟩)) rfl) ?_
     refine WD.val (i := 10) rfl rfl rfl rfl (by kernel_rfl) rfl (Yld.move rfl rfl) ?_
     refine WD.val (i := 11) rfl rfl rfl rfl (by kernel_rfl) rfl (Yld.move rfl rfl) ?_
     refine WD.val (i := 12) rfl rfl rfl rfl (by kernel_rfl) rfl (Yld.convN8 i rfl ty_un_3 ty_ik_5 rfl) ?_
     refine WD.val (i := 16) rfl rfl rfl rfl (by kernel_rfl) rfl (Yld.move rfl rfl) ?_
     refine WD.val (i := 17) rfl rfl rfl rfl (by kernel_rfl) rfl (Yld.move rfl rfl) ?_
     refine WD.val (i := 18) rfl rfl rfl rfl (by kernel_rfl) rfl (Yld.add64 rfl rfl rfl (by omega)) ?_
     rw [show (i : Int) + 100 = ((i + 100 : Nat) : Int) from rfl]
     refine WD.val (i := 19) rfl rfl rfl rfl (by kernel_rfl) rfl (Yld.convN8 (i + 100) rfl ty_un_3 ty_ik_5 rfl) ?_
     refine WD.both (i := 13) (j := 20) (by kernel_rfl) rfl rfl ?_ ?_
     ·refine WP.oper rfl rfl ?_
      refine Op.buildSlice rfl ty_sl_49 ty_el2_49 rfl rfl rfl rfl (vs := [_]) rfl (segs := [(0, [_])]) (cs := bytesV [UInt8.ofNat (i)]) rfl rfl (by repeat (first | exact SetSeg.nil | apply SetSeg.one | exact SetAt.zero | apply SetAt.succ)) (fun ba => ?_)
      refine WD.go (.inr (by rintro _ _ (⟨rfl, rfl⟩ | ⟨rfl, rfl⟩) <;> exact (by repeat (first | exact There.h | exact There.i (by assumption) | apply There.t | apply There.s)))) (fun _ _ h => h.elim) ?_
      refine WD.both (i := 14) (j := 20) (by kernel_rfl) rfl rfl ?_ ?_
      ·refine WP.oper rfl rfl ?_
       refine Op.cl (txn_PageO (b := ba) (d := [UInt8.ofNat i])) rfl Tryz.func14 rfl rfl rfl rfl ?_
       rintro v J14 L14 hJ14 ⟨rfl, hr14⟩
       try simp only [nf]
       obtain ⟨A14, c14, rfl⟩ := hr14.sl
       refine WD.go (.inr (by rintro _ _ (⟨rfl, rfl⟩ | ⟨rfl, rfl⟩) <;> exact (by repeat (first | exact There.h | exact There.i (by assumption) | apply There.t | apply There.s)))) (fun _ _ h => h.elim) ?_
       refine WD.val (i := 15) rfl rfl rfl rfl (by kernel_rfl) rfl (Yld.buildS (pl := [(0, 0, 1), (2, 2, 1)]) rfl ty_zr_51 ty_zd_51 (by kernel_rfl) rfl (vs := [_, _]) rfl (segs := [(0, [_]), (2, [_])]) rfl rfl (by repeat (first | exact SetSeg.nil | apply SetSeg.one | exact SetAt.zero | apply SetAt.succ))) ?_
       refine WD.loud (i := 20) (by kernel_rfl) rfl rfl rfl ?_
       refine Op.buildSlice rfl ty_sl_49 ty_el2_49 rfl rfl rfl rfl (vs := [_]) rfl (segs := [(0, [_])]) (cs := bytesV [UInt8.ofNat (i + 100)]) rfl rfl (by repeat (first | exact SetSeg.nil | apply SetSeg.one | exact SetAt.zero | apply SetAt.succ)) (fun bb => ?_)
       refine WD.go (.inr (by rintro _ _ (⟨rfl, rfl⟩ | ⟨rfl, rfl⟩) <;> exact (by repeat (first | exact There.h | exact There.i (by assumption) | apply There.t | apply There.s)))) (fun _ _ h => h.elim) ?_
       refine WD.loud (i := 21) (by kernel_rfl) rfl rfl rfl ?_
       refine Op.cl (txn_PageO (b := bb) (d := [UInt8.ofNat (i + 100)])) rfl Tryz.func14 rfl rfl rfl rfl ?_
       rintro v J21 L21 hJ21 ⟨rfl, hr21⟩
       try simp only [nf]
       obtain ⟨A21, c21, rfl⟩ := hr21.sl
       refine WD.go (.inr (by rintro _ _ (⟨rfl, rfl⟩ | ⟨rfl, rfl⟩) <;> exact (by repeat (first | exact There.h | exact There.i (by assumption) | apply There.t | apply There.s)))) (fun _ _ h => h.elim) ?_
       refine WD.val (i := 22) rfl rfl rfl rfl (by kernel_rfl) rfl (Yld.buildS (pl := [(0, 0, 1), (2, 2, 1)]) rfl ty_zr_51 ty_zd_51 (by kernel_rfl) rfl (vs := [_, _]) rfl (segs := [(0, [_]), (2, [_])]) rfl rfl (by repeat (first | exact SetSeg.nil | apply SetSeg.one | exact SetAt.zero | apply SetAt.succ))) ?_
       refine WD.loud (i := 23) (by kernel_rfl) rfl rfl rfl ?_
       refine Op.buildSlice rfl ty_sl_52 ty_el2_52 rfl rfl rfl rfl (vs := [_, _]) rfl (segs := [(0, [.int .i64 ((2 * i + 1 : Nat) : Int), .int .i64 0, .slice A14 1 c14]), (3, [.int .i64 ((2 * i + 1 + 1 : Nat) : Int), .int .i64 0, .slice A21 1 c21])]) (cs := prC (twoV ((2 * i + 1 : Nat) : Int) ((2 * i + 2 : Nat) : Int) (UInt8.ofNat i) (UInt8.ofNat (i + 100)) (.slice A14 1 c14) (.slice A21 1 c21))) rfl rfl (.seg (Nat.le_of_ble_eq_true rfl) rfl (.seg (Nat.le_of_ble_eq_true rfl) rfl .nil)) (fun bp => ?_)
       refine WD.go (.inr (by rintro _ _ (⟨rfl, rfl⟩ | ⟨rfl, rfl⟩) <;> exact (by repeat (first | exact There.h | exact There.i (by assumption) | apply There.t | apply There.s)))) (fun _ _ h => h.elim) ?_
       refine WD.loud (i := 24) (by kernel_rfl) rfl rfl rfl ?_
       refine Op.cl (txn_NewO (b := bp) (tok := e1.tok) (pages := twoV ((2 * i + 1 : Nat) : Int) ((2 * i + 2 : Nat) : Int) (UInt8.ofNat i) (UInt8.ofNat (i + 100)) (.slice A14 1 c14) (.slice A21 1 c21)) (two_el (hr14.mono hJ21) hr21) (by show 2 ≤ _; decide) two_sz) rfl Tryz.func13 rfl rfl rfl rfl ?_
       rintro v J24 Lg0 hJ24 ⟨g, pl, Lg, rfl, hpl, rfl, hgr⟩
       try simp only [nf]
       refine WD.go (.inl rfl) (fun _ _ h => h.elim) ?_
       refine WD.val (i := 25) rfl rfl rfl rfl (by kernel_rfl) rfl (Yld.assign rfl rfl) ?_
       refine WD.done (by kernel_rfl) ?_
       refine WP.sub [(0, _), (1, _), (4, _), (6, _), (7, _), (8, _), (9, _), (10, _), (11, _), (12, _), (13, _), (14, _), (15, _), (45, _), (82, _)] ?_ ⟨rfl, rfl, rfl, rfl, rfl, rfl, rfl, rfl, rfl, rfl, rfl, rfl, rfl, rfl, rfl, trivial⟩
       exact WP.meet (⟨g, pl, J24, _⟩ : NgX) ⟨Imm.le_trans hJ14 (Imm.le_trans hJ21 hJ24), hpl, het ▸ hgr⟩ ⟨rfl, rfl, rfl, rfl, rfl, rfl, rfl, trivial⟩ rfl (by (try simp only [List.append_eq, List.cons_append, List.nil_append, List.append_assoc]); repeat (first | exact Rm.chunk | exact Rm.here | exact Rm.nil0 | apply Rm.skip | apply Rm.skipS | apply PX.cons | (apply PX.done; (repeat (first | exact Leave.done | apply Leave.drop | apply Leave.dropS)); done) | apply PX.app))
      ·refine WP.oper rfl rfl ?_
       refine Op.buildSlice rfl ty_sl_49 ty_el2_49 rfl rfl rfl rfl (vs := [_]) rfl (segs := [(0, [_])]) (cs := bytesV [UInt8.ofNat (i + 100)]) rfl rfl (by repeat (first | exact SetSeg.nil | apply SetSeg.one | exact SetAt.zero | apply SetAt.succ)) (fun bb => ?_)
       refine WD.go (.inr (by rintro _ _ (⟨rfl, rfl⟩ | ⟨rfl, rfl⟩) <;> exact (by repeat (first | exact There.h | exact There.i (by assumption) | apply There.t | apply There.s)))) (fun _ _ h => h.elim) ?_
       refine WD.loud (i := 14) (by kernel_rfl) rfl rfl rfl ?_
       refine Op.cl (txn_PageO (b := ba) (d := [UInt8.ofNat i])) rfl Tryz.func14 rfl rfl rfl rfl ?_
       rintro v J14 L14 hJ14 ⟨rfl, hr14⟩
       try simp only [nf]
       obtain ⟨A14, c14, rfl⟩ := hr14.sl
       refine WD.go (.inr (by rintro _ _ (⟨rfl, rfl⟩ | ⟨rfl, rfl⟩) <;> exact (by repeat (first | exact There.h | exact There.i (by assumption) | apply There.t | apply There.s)))) (fun _ _ h => h.elim) ?_
       refine WD.val (i := 15) rfl rfl rfl rfl (by kernel_rfl) rfl (Yld.buildS (pl := [(0, 0, 1), (2, 2, 1)]) rfl ty_zr_51 ty_zd_51 (by kernel_rfl) rfl (vs := [_, _]) rfl (segs := [(0, [_]), (2, [_])]) rfl rfl (by repeat (first | exact SetSeg.nil | apply SetSeg.one | exact SetAt.zero | apply SetAt.succ))) ?_
       refine WD.loud (i := 21) (by kernel_rfl) rfl rfl rfl ?_
       refine Op.cl (txn_PageO (b := bb) (d := [UInt8.ofNat (i + 100)])) rfl Tryz.func14 rfl rfl rfl rfl ?_
       rintro v J21 L21 hJ21 ⟨rfl, hr21⟩
       try simp only [nf]
       obtain ⟨A21, c21, rfl⟩ := hr21.sl
       refine WD.go (.inr (by rintro _ _ (⟨rfl, rfl⟩ | ⟨rfl, rfl⟩) <;> exact (by repeat (first | exact There.h | exact There.i (by assumption) | apply There.t | apply There.s)))) (fun _ _ h => h.elim) ?_
       refine WD.val (i := 22) rfl rfl rfl rfl (by kernel_rfl) rfl (Yld.buildS (pl := [(0, 0, 1), (2, 2, 1)]) rfl ty_zr_51 ty_zd_51 (by kernel_rfl) rfl (vs := [_, _]) rfl (segs := [(0, [_]), (2, [_])]) rfl rfl (by repeat (first | exact SetSeg.nil | apply SetSeg.one | exact SetAt.zero | apply SetAt.succ))) ?_
       refine WD.loud (i := 23) (by kernel_rfl) rfl rfl rfl ?_
       refine Op.buildSlice rfl ty_sl_52 ty_el2_52 rfl rfl rfl rfl (vs := [_, _]) rfl (segs := [(0, [.int .i64 ((2 * i + 1 : Nat) : Int), .int .i64 0, .slice A14 1 c14]), (3, [.int .i64 ((2 * i + 1 + 1 : Nat) : Int), .int .i64 0, .slice A21 1 c21])]) (cs := prC (twoV ((2 * i + 1 : Nat) : Int) ((2 * i + 2 : Nat) : Int) (UInt8.ofNat i) (UInt8.ofNat (i + 100)) (.slice A14 1 c14) (.slice A21 1 c21))) rfl rfl (.seg (Nat.le_of_ble_eq_true rfl) rfl (.seg (Nat.le_of_ble_eq_true rfl) rfl .nil)) (fun bp => ?_)
       refine WD.go (.inr (by rintro _ _ (⟨rfl, rfl⟩ | ⟨rfl, rfl⟩) <;> exact (by repeat (first | exact There.h | exact There.i (by assumption) | apply There.t | apply There.s)))) (fun _ _ h => h.elim) ?_
       refine WD.loud (i := 24) (by kernel_rfl) rfl rfl rfl ?_
       refine Op.cl (txn_NewO (b := bp) (tok := e1.tok) (pages := twoV ((2 * i + 1 : Nat) : Int) ((2 * i + 2 : Nat) : Int) (UInt8.ofNat i) (UInt8.ofNat (i + 100)) (.slice A14 1 c14) (.slice A21 1 c21)) (two_el (hr14.mono hJ21) hr21) (by show 2 ≤ _; decide) two_sz) rfl Tryz.func13 rfl rfl rfl rfl ?_
       rintro v J24 Lg0 hJ24 ⟨g, pl, Lg, rfl, hpl, rfl, hgr⟩
       try simp only [nf]
       refine WD.go (.inl rfl) (fun _ _ h => h.elim) ?_
       refine WD.val (i := 25) rfl rfl rfl rfl (by kernel_rfl) rfl (Yld.assign rfl rfl) ?_
       refine WD.done (by kernel_rfl) ?_
       refine WP.sub [(0, _), (1, _), (4, _), (6, _), (7, _), (8, _), (9, _), (10, _), (11, _), (12, _), (13, _), (14, _), (15, _), (45, _), (82, _)] ?_ ⟨rfl, rfl, rfl, rfl, rfl, rfl, rfl, rfl, rfl, rfl, rfl, rfl, rfl, rfl, rfl, trivial⟩
       exact WP.meet (⟨g, pl, J24, _⟩ : NgX) ⟨Imm.le_trans hJ14 (Imm.le_trans hJ21 hJ24), hpl, het ▸ hgr⟩ ⟨rfl, rfl, rfl, rfl, rfl, rfl, rfl, trivial⟩ rfl (by (try simp only [List.append_eq, List.cons_append, List.nil_append, List.append_assoc]); repeat (first | exact Rm.chunk | exact Rm.here | exact Rm.nil0 | apply Rm.skip | apply Rm.skipS | apply PX.cons | (apply PX.done; (repeat (first | exact Leave.done | apply Leave.drop | apply Leave.dropS)); done) | apply PX.app))
     ·refine WP.oper rfl rfl ?_
      refine Op.buildSlice rfl ty_sl_49 ty_el2_49 rfl rfl rfl rfl (vs := [_]) rfl (segs := [(0, [_])]) (cs := bytesV [UInt8.ofNat (i + 100)]) rfl rfl (by repeat (first | exact SetSeg.nil | apply SetSeg.one | exact SetAt.zero | apply SetAt.succ)) (fun bb => ?_)
      refine WD.go (.inr (by rintro _ _ (⟨rfl, rfl⟩ | ⟨rfl, rfl⟩) <;> exact (by repeat (first | exact There.h | exact There.i (by assumption) | apply There.t | apply There.s)))) (fun _ _ h => h.elim) ?_
      refine WD.loud (i := 13) (by kernel_rfl) rfl rfl rfl ?_
      refine Op.buildSlice rfl ty_sl_49 ty_el2_49 rfl rfl rfl rfl (vs := [_]) rfl (segs := [(0, [_])]) (cs := bytesV [UInt8.ofNat (i)]) rfl rfl (by repeat (first | exact SetSeg.nil | apply SetSeg.one | exact SetAt.zero | apply SetAt.succ)) (fun ba => ?_)
      refine WD.go (.inr (by rintro _ _ (⟨rfl, rfl⟩ | ⟨rfl, rfl⟩) <;> exact (by repeat (first | exact There.h | exact There.i (by assumption) | apply There.t | apply There.s)))) (fun _ _ h => h.elim) ?_
      refine WD.loud (i := 14) (by kernel_rfl) rfl rfl rfl ?_
      refine Op.cl (txn_PageO (b := ba) (d := [UInt8.ofNat i])) rfl Tryz.func14 rfl rfl rfl rfl ?_
      rintro v J14 L14 hJ14 ⟨rfl, hr14⟩
      try simp only [nf]
      obtain ⟨A14, c14, rfl⟩ := hr14.sl
      refine WD.go (.inr (by rintro _ _ (⟨rfl, rfl⟩ | ⟨rfl, rfl⟩) <;> exact (by repeat (first | exact There.h | exact There.i (by assumption) | apply There.t | apply There.s)))) (fun _ _ h => h.elim) ?_
      refine WD.val (i := 15) rfl rfl rfl rfl (by kernel_rfl) rfl (Yld.buildS (pl := [(0, 0, 1), (2, 2, 1)]) rfl ty_zr_51 ty_zd_51 (by kernel_rfl) rfl (vs := [_, _]) rfl (segs := [(0, [_]), (2, [_])]) rfl rfl (by repeat (first | exact SetSeg.nil | apply SetSeg.one | exact SetAt.zero | apply SetAt.succ))) ?_
      refine WD.loud (i := 21) (by kernel_rfl) rfl rfl rfl ?_
      refine Op.cl (txn_PageO (b := bb) (d := [UInt8.ofNat (i + 100)])) rfl Tryz.func14 rfl rfl rfl rfl ?_
      rintro v J21 L21 hJ21 ⟨rfl, hr21⟩
      try simp only [nf]
      obtain ⟨A21, c21, rfl⟩ := hr21.sl
      refine WD.go (.inr (by rintro _ _ (⟨rfl, rfl⟩ | ⟨rfl, rfl⟩) <;> exact (by repeat (first | exact There.h | exact There.i (by assumption) | apply There.t | apply There.s)))) (fun _ _ h => h.elim) ?_
      refine WD.val (i := 22) rfl rfl rfl rfl (by kernel_rfl) rfl (Yld.buildS (pl := [(0, 0, 1), (2, 2, 1)]) rfl ty_zr_51 ty_zd_51 (by kernel_rfl) rfl (vs := [_, _]) rfl (segs := [(0, [_]), (2, [_])]) rfl rfl (by repeat (first | exact SetSeg.nil | apply SetSeg.one | exact SetAt.zero | apply SetAt.succ))) ?_
      refine WD.loud (i := 23) (by kernel_rfl) rfl rfl rfl ?_
      refine Op.buildSlice rfl ty_sl_52 ty_el2_52 rfl rfl rfl rfl (vs := [_, _]) rfl (segs := [(0, [.int .i64 ((2 * i + 1 : Nat) : Int), .int .i64 0, .slice A14 1 c14]), (3, [.int .i64 ((2 * i + 1 + 1 : Nat) : Int), .int .i64 0, .slice A21 1 c21])]) (cs := prC (twoV ((2 * i + 1 : Nat) : Int) ((2 * i + 2 : Nat) : Int) (UInt8.ofNat i) (UInt8.ofNat (i + 100)) (.slice A14 1 c14) (.slice A21 1 c21))) rfl rfl (.seg (Nat.le_of_ble_eq_true rfl) rfl (.seg (Nat.le_of_ble_eq_true rfl) rfl .nil)) (fun bp => ?_)
      refine WD.go (.inr (by rintro _ _ (⟨rfl, rfl⟩ | ⟨rfl, rfl⟩) <;> exact (by repeat (first | exact There.h | exact There.i (by assumption) | apply There.t | apply There.s)))) (fun _ _ h => h.elim) ?_
      refine WD.loud (i := 24) (by kernel_rfl) rfl rfl rfl ?_
      refine Op.cl (txn_NewO (b := bp) (tok := e1.tok) (pages := twoV ((2 * i + 1 : Nat) : Int) ((2 * i + 2 : Nat) : Int) (UInt8.ofNat i) (UInt8.ofNat (i + 100)) (.slice A14 1 c14) (.slice A21 1 c21)) (two_el (hr14.mono hJ21) hr21) (by show 2 ≤ _; decide) two_sz) rfl Tryz.func13 rfl rfl rfl rfl ?_
      rintro v J24 Lg0 hJ24 ⟨g, pl, Lg, rfl, hpl, rfl, hgr⟩
      try simp only [nf]
      refine WD.go (.inl rfl) (fun _ _ h => h.elim) ?_
      refine WD.val (i := 25) rfl rfl rfl rfl (by kernel_rfl) rfl (Yld.assign rfl rfl) ?_
      refine WD.done (by kernel_rfl) ?_
      refine WP.sub [(0, _), (1, _), (4, _), (6, _), (7, _), (8, _), (9, _), (10, _), (11, _), (12, _), (13, _), (14, _), (15, _), (45, _), (82, _)] ?_ ⟨rfl, rfl, rfl, rfl, rfl, rfl, rfl, rfl, rfl, rfl, rfl, rfl, rfl, rfl, rfl, trivial⟩
      exact WP.meet (⟨g, pl, J24, _⟩ : NgX) ⟨Imm.le_trans hJ14 (Imm.le_trans hJ21 hJ24), hpl, het ▸ hgr⟩ ⟨rfl, rfl, rfl, rfl, rfl, rfl, rfl, trivial⟩ rfl (by (try simp only [List.append_eq, List.cons_append, List.nil_append, List.append_assoc]); repeat (first | exact Rm.chunk | exact Rm.here | exact Rm.nil0 | apply Rm.skip | apply Rm.skipS | apply PX.cons | (apply PX.done; (repeat (first | exact Leave.done | apply Leave.drop | apply Leave.dropS)); done) | apply PX.app))
    ·rintro ⟨g, pl, J4, Lg⟩ ⟨hJ4, hpl, hgr⟩; dsimp only at hJ4 hpl hgr
     refine WP.seq ?_
     refine WP.seq ?_
     refine WP.region [0, 1] rfl ?_
     refine WP.mv rfl rfl ?_
     refine WP.vl rfl (Yld.eqlNil rfl ty_pt_46 rfl rfl) ?_
     refine WP.nil ?_
     refine WP.sub [(0, _), (1, _), (4, _), (6, _), (7, _), (8, _), (15, _), (109, _)] ?_ ⟨rfl, rfl, rfl, rfl, rfl, rfl, rfl, rfl, trivial⟩
     refine WP.next ?_
     refine WP.condF rfl ?_
     refine WP.skip ?_
     refine WP.next ?_
     refine WP.region [0, 1, 2, 3, 4] rfl ?_
     iterate 2 refine WP.mv rfl rfl ?_
     refine WP.loud rfl rfl ?_
     refine Op.buildSlice rfl ty_sl_26 ty_el2_26 rfl rfl rfl rfl (vs := [_]) rfl (segs := [(0, [_])]) (cs := [.pointer (some ⟨g, 0, none⟩)]) rfl rfl (by repeat (first | exact SetSeg.nil | apply SetSeg.one | exact SetAt.zero | apply SetAt.succ)) (fun bq => ?_)
     refine WP.loud rfl rfl ?_
     refine Op.append (m := 1) rfl ty_sl_26 ty_el_26 rfl rfl rfl rfl rfl ho (SlRd.lit (m := 1) (by repeat (first | exact There.h | exact There.i (by assumption) | apply There.t | apply There.s)) rfl (Nat.le_refl _)) (by repeat (first | exact Take.nil | with_reducible apply Take.cons | apply Take.app | exact Rm.chunk | exact Rm.here | exact Rm.nil0 | apply Rm.skip | apply Rm.skipS | (focus (apply Take.all; (repeat (first | exact Rm.chunk | exact Rm.here | exact Rm.nil0 | apply Rm.skip | apply Rm.skipS)); done)) | apply Take.cons)) rfl (by omega) (by omega) (fun vq Lq hq => ?_)
     try simp only [nf]
     obtain ⟨Aq, cq, rfl, _⟩ := hq.slice
     refine WP.mv rfl rfl ?_
     refine WP.nil ?_
     refine WP.sub [(0, _), (1, _), (4, _), (6, _), (7, _), (8, _), (15, _), (109, _)] ?_ ⟨rfl, rfl, rfl, rfl, rfl, rfl, rfl, rfl, trivial⟩
     have hJn := Imm.le_trans hJ1 (Imm.le_trans hJ2 (Imm.le_trans hJ3 hJ4))
     obtain ⟨Jn, hJne⟩ : ∃ u, u = J4 := ⟨_, rfl⟩
     rw [← hJne] at hJn hgr ⊢
     have hT3n : IsT Jn t tb2 Lt3 := by rw [hJne]; exact hT3.mono hJ4
     have hinv2 := hinv.more (g := g) (by omega) hr0 htk (by omega) hent he1 het hpl
     have hown2 : Own 46 1 (.slice Aq (i + 1) cq) (ptrsV (gs ++ [(g, (⟨0, cm0, 2 * i + 1, pl, [], 0, []⟩ : Gp))])) (i + 1) Lq := by rw [show ptrsV (gs ++ [(g, (⟨0, cm0, 2 * i + 1, pl, [], 0, []⟩ : Gp))]) = ptrsV gs ++ [.pointer (some ⟨g, 0, none⟩)] by simp [ptrsV]]; exact hq
     refine WP.leave ?_
     refine WP.next ?_
     refine WP.region [0, 1, 2] rfl ?_
     refine WP.mv rfl rfl ?_
     refine WP.vl rfl (Yld.add64 rfl rfl rfl (by omega)) ?_
     refine WP.mv rfl rfl ?_
     refine WP.nil ?_
     refine WP.sub [(0, _), (1, _), (4, _), (6, _), (7, _), (8, _), (15, _), (109, _)] ?_ ⟨rfl, rfl, rfl, rfl, rfl, rfl, rfl, rfl, trivial⟩
     exact WP.again ⟨i + 1, Jn, tb2, gs ++ [(g, ⟨0, cm0, 2 * i + 1, pl, [], 0, []⟩)], .slice Aq (i + 1) cq, Lq, L1 ++ Lg, Lt3⟩ ⟨Imm.le_trans hJ hJn, (hgs.mono hJn).snoc hgr, hT3n, hinv2, htk2, hup2, (show i + 1 ≤ m by omega), hown2⟩ (show m - (i + 1) < m - i by omega) ⟨rfl, rfl, rfl, rfl, rfl, rfl, trivial⟩ rfl (by (try simp only [List.append_eq, List.cons_append, List.nil_append, List.append_assoc]); repeat (first | exact Rm.chunk | exact Rm.here | exact Rm.nil0 | apply Rm.skip | apply Rm.skipS | apply PX.cons | (apply PX.done; (repeat (first | exact Leave.done | apply Leave.drop | apply Leave.dropS)); done) | apply PX.app))
   ·obtain rfl : i = m := by omega
    refine WP.shO ho (fun J1 hJ1 hls => ?_)
    obtain ⟨fs, hfs⟩ : ∃ u, u = gs.map (·.1) := ⟨_, rfl⟩
    have hinvg := hinv
    have hlenf : gs.length = i := hinv.len
    refine WP.nil ?_
    refine WP.sub [(0, _), (1, _), (4, _), (6, _), (7, _), (8, _), (45, _)] ?_ ⟨rfl, rfl, rfl, rfl, rfl, rfl, rfl, trivial⟩
    refine WP.next ?_
    refine WP.condF rfl ?_
    refine WP.exit ?_
    refine WP.thenE ?_
    refine WP.thenE ?_
    refine WP.hit ?_
    refine WP.next ?_
    refine WP.seq ?_
    refine WP.seq ?_
    refine WP.region [0] rfl ?_
    refine WP.mv rfl rfl ?_
    refine WP.nil ?_
    refine WP.next ?_
    refine WP.block ?_
    refine WP.loop (X := PkX) (fun u : PkX => [(0, .int .i64 (i : Int)), (1, .slice Ap ps.length cp), (4, .bool false), (6, .pointer (some ⟨x, 0, none⟩)), (7, .slice Ao i co), (16, .int .i64 (u.i : Int))]) (fun u => u.J) (fun u : PkX => (x, row 38 [.pointer (some ⟨d, 0, none⟩), .pointer (some ⟨s, 0, none⟩), .pointer (some ⟨l, 0, none⟩), .pointer (some ⟨t, 0, none⟩), .pointer (some ⟨q, 0, none⟩), .pointer (some ⟨rt, 0, none⟩), .pointer (some ⟨rm, 0, none⟩), .pointer (some ⟨r9, 0, none⟩)]) :: (u.L ++ (u.Lt ++ (u.Ll ++ F)))) (fun u : PkX => J1.le u.J ∧ IsGrs u.J l t u.gs u.L ∧ IsT u.J t u.tb u.Lt ∧ IsLog u.J l s d (8 + 32 * 58) u.x (Dk.new (8 + 32 * 58)) u.Ll ∧ AInv i u.x u.tb u.gs ∧ u.gs.map (·.1) = gs.map (·.1) ∧ u.i ≤ ps.length) (fun u => ps.length - u.i) ⟨0, J1, x0, tb, gs, L1, Lt, Ll⟩ ⟨Imm.le_refl _, hgs.mono hJ1, hT.mono hJ1, hl.mono (Imm.le_trans hJ hJ1), hinv, rfl, Nat.zero_le _⟩ ⟨rfl, rfl, rfl, rfl, rfl, rfl, trivial⟩ rfl (by (try simp only [List.append_eq, List.cons_append, List.nil_append, List.append_assoc]); repeat (first | exact Rm.chunk | exact Rm.here | exact Rm.nil0 | apply Rm.skip | apply Rm.skipS | apply PX.cons | (apply PX.done; (repeat (first | exact Leave.done | apply Leave.drop | apply Leave.dropS)); done) | apply PX.app)) ?_
    rintro ⟨j, J2, x2, tb2, gs2, L2, Lt2, Ll2⟩ ⟨hJ2, hgs2, hT2, hl2, hinv2, hmp, hle2⟩; dsimp only at hJ2 hgs2 hT2 hl2 hinv2 hmp hle2; have hlen2 := hinv2.len
    try dsimp only
    try simp only [nf]
    refine WP.seq ?_
    refine WP.seq ?_
    refine WP.region [0, 1, 2, 3] rfl ?_
    iterate 2 refine WP.mv rfl rfl ?_
    refine WP.vl rfl (Yld.len rfl ty_sl_22 rfl) ?_
    refine WP.split rfl rfl rfl rfl (Yld.lss rfl rfl rfl) (fun hlt2 => ?_) (fun hlt2 => ?_)
    ·have hj : j < ps.length := by omega
     have hps2 := hps.mono (fun b o h => hJ.2 b o h)
     have hps3 := hps2.mono (fun b o h => (Imm.le_trans hJ1 hJ2).2 b o h)
     obtain ⟨bp, kp, Tp, fp, arp, ep, hbp, hcp⟩ := ints_at hps3 hj
     obtain ⟨hk1, hk2⟩ := mod_nat (a := ps[j]) (m := i) (by omega)
     refine WP.nil ?_
     refine WP.sub [(0, _), (1, _), (4, _), (6, _), (7, _), (16, _), (117, _)] ?_ ⟨rfl, rfl, rfl, rfl, rfl, rfl, rfl, trivial⟩
     refine WP.next ?_
     refine WP.condT rfl ?_
     refine WP.skip ?_
     refine WP.next ?_
     refine WP.seq ?_
     refine WP.block ?_
     refine WP.seq ?_
     refine WP.region [0, 1, 2, 3, 4, 5, 6] rfl ?_
     iterate 2 refine WP.mv rfl rfl ?_
     refine WP.vl rfl (Yld.indexAddr (i := j) rfl ty_sl_22 (congrArg (fun a => some (Value.slice a ps.length cp)) ep) rfl hj) ?_
     refine WP.vl rfl (Yld.loadC rfl ty_sc_3 rfl (There.i hbp) hcp) ?_
     refine WP.mv rfl rfl ?_
     refine WP.vl rfl (Yld.remT rfl rfl rfl ⟨by omega, by omega⟩) ?_
     refine WP.mv rfl rfl ?_
     refine WP.nil ?_
     refine WP.sub [(0, _), (1, _), (4, _), (6, _), (7, _), (16, _), (17, _), (117, _)] ?_ ⟨rfl, rfl, rfl, rfl, rfl, rfl, rfl, rfl, trivial⟩
     refine WP.next ?_
     refine WP.cut (X := Nat) (fun k : Nat => [(0, .int .i64 (i : Int)), (1, .slice Ap ps.length cp), (4, .bool false), (6, .pointer (some ⟨x, 0, none⟩)), (7, .slice Ao i co), (16, .int .i64 (j : Int)), (17, .int .i64 (k : Int))]) (fun _ => J2) (fun _ : Nat => (x, row 38 [.pointer (some ⟨d, 0, none⟩), .pointer (some ⟨s, 0, none⟩), .pointer (some ⟨l, 0, none⟩), .pointer (some ⟨t, 0, none⟩), .pointer (some ⟨q, 0, none⟩), .pointer (some ⟨rt, 0, none⟩), .pointer (some ⟨rm, 0, none⟩), .pointer (some ⟨r9, 0, none⟩)]) :: (L2 ++ (Lt2 ++ (Ll2 ++ F)))) (fun k : Nat => k < i) ?_ ?_
     ·skip
      refine WP.seq ?_
      refine WP.region [0, 1] rfl ?_
      refine WP.mv rfl rfl ?_
      refine WP.split rfl rfl rfl rfl (Yld.lss rfl rfl rfl) (fun hneg => ?_) (fun hneg => ?_)
      ·obtain ⟨k, hkv, hk⟩ := hk2 hneg
       refine WP.nil ?_
       refine WP.sub [(0, _), (1, _), (4, _), (6, _), (7, _), (16, _), (17, _), (117, _), (127, _)] ?_ ⟨rfl, rfl, rfl, rfl, rfl, rfl, rfl, rfl, rfl, trivial⟩
       refine WP.next ?_
       refine WP.condT rfl ?_
       refine WP.region [0, 1, 2, 3] rfl ?_
       iterate 2 refine WP.mv rfl rfl ?_
       refine WP.vl rfl (Yld.add64 rfl rfl rfl (by omega)) ?_
       rw [hkv]
       refine WP.mv rfl rfl ?_
       refine WP.nil ?_
       refine WP.sub [(0, _), (1, _), (4, _), (6, _), (7, _), (16, _), (17, _), (117, _), (127, _)] ?_ ⟨rfl, rfl, rfl, rfl, rfl, rfl, rfl, rfl, rfl, trivial⟩
       exact WP.meet k hk ⟨rfl, rfl, rfl, rfl, rfl, rfl, rfl, trivial⟩ rfl (by (try simp only [List.append_eq, List.cons_append, List.nil_append, List.append_assoc]); repeat (first | exact Rm.chunk | exact Rm.here | exact Rm.nil0 | apply Rm.skip | apply Rm.skipS | apply PX.cons | (apply PX.done; (repeat (first | exact Leave.done | apply Leave.drop | apply Leave.dropS)); done) | apply PX.app))
      ·obtain ⟨k, hkv, hk⟩ := hk1 hneg
       rw [hkv]
       refine WP.nil ?_
       refine WP.sub [(0, _), (1, _), (4, _), (6, _), (7, _), (16, _), (17, _), (117, _), (127, _)] ?_ ⟨rfl, rfl, rfl, rfl, rfl, rfl, rfl, rfl, rfl, trivial⟩
       refine WP.next ?_
       refine WP.condF rfl ?_
       refine WP.skip ?_
       exact WP.meet k hk ⟨rfl, rfl, rfl, rfl, rfl, rfl, rfl, trivial⟩ rfl (by (try simp only [List.append_eq, List.cons_append, List.nil_append, List.append_assoc]); repeat (first | exact Rm.chunk | exact Rm.here | exact Rm.nil0 | apply Rm.skip | apply Rm.skipS | apply PX.cons | (apply PX.done; (repeat (first | exact Leave.done | apply Leave.drop | apply Leave.dropS)); done) | apply PX.app))
     ·intro k hk; have hkg : k < gs2.length := (by omega)
      obtain ⟨bl, kl, Tl, fl, arl, el, hbl, hcl⟩ := one_at (show SlRd (Im J2) (.slice Ao i co) (ptrsV gs2).length 1 (ptrsV gs2) by rw [ptrsV_of hmp, ptrsV_len, hlenf]; exact hls.mono (fun b o h => hJ2.2 b o h)) (show k < (ptrsV gs2).length by rw [ptrsV_len]; exact hkg)
      rw [show (ptrsV gs2)[k]'(by rw [ptrsV_len]; exact hkg) = .pointer (some ⟨(gs2[k]).1, 0, none⟩) by simp [ptrsV]] at hcl
      refine WP.region [0, 1, 2, 3, 4, 5, 6, 7] rfl ?_
      iterate 2 refine WP.mv rfl rfl ?_
      refine WP.vl rfl (Yld.indexAddr (i := k) rfl ty_sl_26 (congrArg (fun a => some (Value.slice a i co)) el) rfl (by omega)) ?_
      refine WP.vl rfl (Yld.loadC rfl ty_sc_46 rfl (There.i hbl) hcl) ?_
      refine WP.vl rfl (Yld.nilCheck rfl rfl) ?_
      refine WP.vl rfl (Yld.fieldAddr rfl ty_fd_60_0 rfl) ?_
      refine WP.vl rfl (Yld.fieldAddr rfl ty_fd_58_0 rfl) ?_
      refine WP.loud rfl rfl ?_
      refine Op.cl (txn_StepK hgs2 hT2 hl2 hinv2 hkg) rfl Tryz.func15 rfl rfl rfl rfl ?_
      rintro v J3 L9 hJ3 ⟨bb, rfl, gs3, x3, tb3, L3, Lt3, Ll3, rfl, hgs3, hT3, hl3, hinv3, hmp3, _⟩
      try simp only [nf]
      try simp only [nf]
      refine WP.nil ?_
      refine WP.sub [(0, _), (1, _), (4, _), (6, _), (7, _), (16, _), (17, _)] ?_ ⟨rfl, rfl, rfl, rfl, rfl, rfl, rfl, trivial⟩
      refine WP.leave ?_
      refine WP.next ?_
      refine WP.region [0, 1, 2] rfl ?_
      refine WP.mv rfl rfl ?_
      refine WP.vl rfl (Yld.add64 rfl rfl rfl (by omega)) ?_
      refine WP.mv rfl rfl ?_
      refine WP.nil ?_
      refine WP.sub [(0, _), (1, _), (4, _), (6, _), (7, _), (16, _), (17, _)] ?_ ⟨rfl, rfl, rfl, rfl, rfl, rfl, rfl, trivial⟩
      exact WP.again ⟨j + 1, J3, x3, tb3, gs3, L3, Lt3, Ll3⟩ ⟨Imm.le_trans hJ2 hJ3, hgs3, hT3, hl3, hinv3, hmp3.trans hmp, (show j + 1 ≤ ps.length by omega)⟩ (show ps.length - (j + 1) < ps.length - j by omega) ⟨rfl, rfl, rfl, rfl, rfl, rfl, trivial⟩ rfl (by (try simp only [List.append_eq, List.cons_append, List.nil_append, List.append_assoc]); repeat (first | exact Rm.chunk | exact Rm.here | exact Rm.nil0 | apply Rm.skip | apply Rm.skipS | apply PX.cons | (apply PX.done; (repeat (first | exact Leave.done | apply Leave.drop | apply Leave.dropS)); done) | apply PX.app))
    ·refine WP.nil ?_
     refine WP.sub [(0, _), (1, _), (4, _), (6, _), (7, _), (16, _), (117, _)] ?_ ⟨rfl, rfl, rfl, rfl, rfl, rfl, rfl, trivial⟩
     refine WP.next ?_
     refine WP.condF rfl ?_
     refine WP.exit ?_
     refine WP.thenE ?_
     refine WP.thenE ?_
     refine WP.hit ?_
     refine WP.next ?_
     refine WP.seq ?_
     refine WP.seq ?_
     refine WP.region [0] rfl ?_
     refine WP.mv rfl rfl ?_
     refine WP.nil ?_
     refine WP.next ?_
     refine WP.block ?_
     refine WP.loop (X := PkX) (fun u : PkX => [(0, .int .i64 (i : Int)), (1, .slice Ap ps.length cp), (4, .bool false), (6, .pointer (some ⟨x, 0, none⟩)), (7, .slice Ao i co), (18, .int .i64 (u.i : Int))]) (fun u => u.J) (fun u : PkX => (x, row 38 [.pointer (some ⟨d, 0, none⟩), .pointer (some ⟨s, 0, none⟩), .pointer (some ⟨l, 0, none⟩), .pointer (some ⟨t, 0, none⟩), .pointer (some ⟨q, 0, none⟩), .pointer (some ⟨rt, 0, none⟩), .pointer (some ⟨rm, 0, none⟩), .pointer (some ⟨r9, 0, none⟩)]) :: (u.L ++ (u.Lt ++ (u.Ll ++ F)))) (fun u : PkX => J1.le u.J ∧ IsGrs u.J l t u.gs u.L ∧ IsT u.J t u.tb u.Lt ∧ IsLog u.J l s d (8 + 32 * 58) u.x (Dk.new (8 + 32 * 58)) u.Ll ∧ AInv i u.x u.tb u.gs ∧ u.gs.map (·.1) = gs.map (·.1) ∧ u.i ≤ i ∧ ∀ (k : Nat) (h : k < u.gs.length), k < u.i → u.gs[k].2.at_ = 9) (fun u => i - u.i) ⟨0, J2, x2, tb2, gs2, L2, Lt2, Ll2⟩ ⟨hJ2, hgs2, hT2, hl2, hinv2, hmp, Nat.zero_le _, fun k h hk => absurd hk (Nat.not_lt_zero _)⟩ ⟨rfl, rfl, rfl, rfl, rfl, rfl, trivial⟩ rfl (by (try simp only [List.append_eq, List.cons_append, List.nil_append, List.append_assoc]); repeat (first | exact Rm.chunk | exact Rm.here | exact Rm.nil0 | apply Rm.skip | apply Rm.skipS | apply PX.cons | (apply PX.done; (repeat (first | exact Leave.done | apply Leave.drop | apply Leave.dropS)); done) | apply PX.app)) ?_
     rintro ⟨k, J4, x4, tb4, gs4, L4, Lt4, Ll4⟩ ⟨hJ4, hgs4, hT4, hl4, hinv4, hmp4, hle4, h9⟩; dsimp only at hJ4 hgs4 hT4 hl4 hinv4 hmp4 hle4 h9; have hlen4 := hinv4.len
     try dsimp only
     try simp only [nf]
     refine WP.seq ?_
     refine WP.seq ?_
     refine WP.region [0, 1, 2] rfl ?_
     iterate 2 refine WP.mv rfl rfl ?_
     refine WP.split rfl rfl rfl rfl (Yld.lss rfl rfl rfl) (fun hlt4 => ?_) (fun hlt4 => ?_)
     ·have hkg : k < gs4.length := by omega
      obtain ⟨bl, kl, Tl, fl, arl, el, hbl, hcl⟩ := one_at (show SlRd (Im J4) (.slice Ao i co) (ptrsV gs4).length 1 (ptrsV gs4) by rw [ptrsV_of hmp4, ptrsV_len, hlenf]; exact hls.mono (fun b o h => hJ4.2 b o h)) (show k < (ptrsV gs4).length by rw [ptrsV_len]; exact hkg)
      rw [show (ptrsV gs4)[k]'(by rw [ptrsV_len]; exact hkg) = .pointer (some ⟨(gs4[k]).1, 0, none⟩) by simp [ptrsV]] at hcl
      refine WP.nil ?_
      refine WP.sub [(0, _), (1, _), (4, _), (6, _), (7, _), (18, _), (141, _)] ?_ ⟨rfl, rfl, rfl, rfl, rfl, rfl, rfl, trivial⟩
      refine WP.next ?_
      refine WP.condT rfl ?_
      refine WP.skip ?_
      refine WP.next ?_
      refine WP.seq ?_
      refine WP.block ?_
      refine WP.region [0, 1, 2, 3, 4] rfl ?_
      iterate 2 refine WP.mv rfl rfl ?_
      refine WP.vl rfl (Yld.indexAddr (i := k) rfl ty_sl_26 (congrArg (fun a => some (Value.slice a i co)) el) rfl (by omega)) ?_
      refine WP.vl rfl (Yld.loadC rfl ty_sc_46 rfl (There.i hbl) hcl) ?_
      refine WP.loud rfl rfl ?_
      refine Op.cl (txn_runK hgs4 hT4 hl4 hinv4 hkg h9) rfl Tryz.func16 rfl rfl rfl rfl ?_
      rintro v J3 L9 hJ3 ⟨rfl, gs3, x3, tb3, L3, Lt3, Ll3, rfl, hgs3, hT3, hl3, hinv3, hmp3, hq9⟩
      try simp only [nf]
      try simp only [nf]
      refine WP.nil ?_
      refine WP.sub [(0, _), (1, _), (4, _), (6, _), (7, _), (18, _), (141, _)] ?_ ⟨rfl, rfl, rfl, rfl, rfl, rfl, rfl, trivial⟩
      refine WP.leave ?_
      refine WP.next ?_
      refine WP.region [0, 1, 2] rfl ?_
      refine WP.mv rfl rfl ?_
      refine WP.vl rfl (Yld.add64 rfl rfl rfl (by omega)) ?_
      refine WP.mv rfl rfl ?_
      refine WP.nil ?_
      refine WP.sub [(0, _), (1, _), (4, _), (6, _), (7, _), (18, _), (141, _)] ?_ ⟨rfl, rfl, rfl, rfl, rfl, rfl, rfl, trivial⟩
      exact WP.again ⟨k + 1, J3, x3, tb3, gs3, L3, Lt3, Ll3⟩ ⟨Imm.le_trans hJ4 hJ3, hgs3, hT3, hl3, hinv3, hmp3.trans hmp4, (show k + 1 ≤ i by omega), hq9⟩ (show i - (k + 1) < i - k by omega) ⟨rfl, rfl, rfl, rfl, rfl, rfl, trivial⟩ rfl (by (try simp only [List.append_eq, List.cons_append, List.nil_append, List.append_assoc]); repeat (first | exact Rm.chunk | exact Rm.here | exact Rm.nil0 | apply Rm.skip | apply Rm.skipS | apply PX.cons | (apply PX.done; (repeat (first | exact Leave.done | apply Leave.drop | apply Leave.dropS)); done) | apply PX.app))
     ·obtain rfl : k = i := by omega
      have h9a : ∀ (j : Nat) (h : j < gs4.length), gs4[j].2.at_ = 9 := fun j h => h9 j h (by omega)
      refine WP.nil ?_
      refine WP.sub [(0, _), (1, _), (4, _), (6, _), (7, _), (18, _), (141, _)] ?_ ⟨rfl, rfl, rfl, rfl, rfl, rfl, rfl, trivial⟩
      refine WP.next ?_
      refine WP.condF rfl ?_
      refine WP.exit ?_
      refine WP.thenE ?_
      refine WP.thenE ?_
      refine WP.hit ?_
      refine WP.next ?_
      refine WP.seq ?_
      refine WP.seq ?_
      refine WP.region [0] rfl ?_
      refine WP.mv rfl rfl ?_
      refine WP.nil ?_
      refine WP.next ?_
      refine WP.block ?_
      refine WP.loop (X := FnX) (fun u : FnX => [(0, .int .i64 (k : Int)), (1, .slice Ap ps.length cp), (4, .bool false), (6, .pointer (some ⟨x, 0, none⟩)), (7, .slice Ao k co), (19, .int .i64 (u.i : Int))]) (fun u => u.J) (fun u : FnX => (x, row 38 [.pointer (some ⟨d, 0, none⟩), .pointer (some ⟨s, 0, none⟩), .pointer (some ⟨l, 0, none⟩), .pointer (some ⟨t, 0, none⟩), .pointer (some ⟨q, 0, none⟩), .pointer (some ⟨rt, 0, none⟩), .pointer (some ⟨rm, 0, none⟩), .pointer (some ⟨r9, 0, none⟩)]) :: (L4 ++ (u.Lt ++ (Ll4 ++ F)))) (fun u : FnX => J4.le u.J ∧ IsT u.J t tb4 u.Lt ∧ u.i ≤ k) (fun u => k - u.i) ⟨0, J4, Lt4⟩ ⟨Imm.le_refl _, hT4, Nat.zero_le _⟩ ⟨rfl, rfl, rfl, rfl, rfl, rfl, trivial⟩ rfl (by (try simp only [List.append_eq, List.cons_append, List.nil_append, List.append_assoc]); repeat (first | exact Rm.chunk | exact Rm.here | exact Rm.nil0 | apply Rm.skip | apply Rm.skipS | apply PX.cons | (apply PX.done; (repeat (first | exact Leave.done | apply Leave.drop | apply Leave.dropS)); done) | apply PX.app)) ?_
      rintro ⟨j, J5, Lt5⟩ ⟨hJ5, hT5, hle5⟩; dsimp only at hJ5 hT5 hle5; have hgs5 := hgs4.mono hJ5
      try dsimp only
      try simp only [nf]
      refine WP.seq ?_
      refine WP.seq ?_
      refine WP.region [0, 1, 2] rfl ?_
      iterate 2 refine WP.mv rfl rfl ?_
      refine WP.split rfl rfl rfl rfl (Yld.lss rfl rfl rfl) (fun hlt5 => ?_) (fun hlt5 => ?_)
      ·have hjg : j < gs4.length := by omega
       obtain ⟨hze, ⟨f1, hf1, hfn1, hfo1, hft1⟩, ⟨f2, hf2, hfn2, hfo2, hft2⟩⟩ := clr_at hinv4 hjg (h9a j hjg)
       have hJ15 := Imm.le_trans hJ4 hJ5
       obtain ⟨bl, kl, Tl, fl, arl, el, hbl, hcl⟩ := one_at (show SlRd (Im J5) (.slice Ao k co) (ptrsV gs4).length 1 (ptrsV gs4) by rw [ptrsV_of hmp4, ptrsV_len, hlenf]; exact hls.mono (fun b o h => hJ15.2 b o h)) (show j < (ptrsV gs4).length by rw [ptrsV_len]; exact hjg)
       rw [show (ptrsV gs4)[j]'(by rw [ptrsV_len]; exact hjg) = .pointer (some ⟨(gs4[j]).1, 0, none⟩) by simp [ptrsV]] at hcl
       refine WP.nil ?_
       refine WP.sub [(0, _), (1, _), (4, _), (6, _), (7, _), (19, _), (151, _)] ?_ ⟨rfl, rfl, rfl, rfl, rfl, rfl, rfl, trivial⟩
       refine WP.next ?_
       refine WP.condT rfl ?_
       refine WP.skip ?_
       refine WP.next ?_
       refine WP.seq ?_
       refine WP.block ?_
       refine WP.seq ?_
       refine WP.region [0, 1, 2, 3, 4, 5, 6, 7, 8, 9] rfl ?_
       iterate 2 refine WP.mv rfl rfl ?_
       refine WP.vl rfl (Yld.indexAddr (i := j) rfl ty_sl_26 (congrArg (fun a => some (Value.slice a k co)) el) rfl (by omega)) ?_
       refine WP.vl rfl (Yld.loadC rfl ty_sc_46 rfl (There.i hbl) hcl) ?_
       refine WP.loud rfl rfl ?_
       refine Op.cl (txn_GotK hgs5 hjg) rfl Tryz.func17 rfl rfl rfl rfl ?_
       rintro v J L4 - ⟨rfl, rfl, rfl⟩
       try simp only [nf]
       rw [if_neg (fun h => h hze)]
       refine WP.mv rfl rfl ?_
       refine WP.vl rfl (Yld.extract rfl rfl rfl) ?_
       refine WP.vl rfl (Yld.extract rfl rfl rfl) ?_
       iterate 2 refine WP.mv rfl rfl ?_
       refine WP.nil ?_
       refine WP.sub [(0, _), (1, _), (4, _), (6, _), (7, _), (19, _), (20, _), (21, _), (151, _)] ?_ ⟨rfl, rfl, rfl, rfl, rfl, rfl, rfl, rfl, rfl, trivial⟩
       refine WP.next ?_
       refine WP.seq ?_
       refine WP.seq ?_
       refine WP.region [0, 1] rfl ?_
       refine WP.mv rfl rfl ?_
       refine WP.vl rfl (Yld.neq rfl rfl rfl false (decide_eq_false (by exact fun h => h hze))) ?_
       refine WP.nil ?_
       refine WP.sub [(0, _), (1, _), (4, _), (6, _), (7, _), (19, _), (20, _), (21, _), (151, _), (163, _)] ?_ ⟨rfl, rfl, rfl, rfl, rfl, rfl, rfl, rfl, rfl, rfl, trivial⟩
       refine WP.next ?_
       refine WP.condF rfl ?_
       refine WP.skip ?_
       refine WP.next ?_
       refine WP.seq ?_
       refine WP.seq ?_
       refine WP.region [0] rfl ?_
       refine WP.mv rfl rfl ?_
       refine WP.nil ?_
       refine WP.next ?_
       refine WP.block ?_
       refine WP.loop (X := Nat × Chunks) (fun u : Nat × Chunks => [(0, .int .i64 (k : Int)), (1, .slice Ap ps.length cp), (4, .bool false), (6, .pointer (some ⟨x, 0, none⟩)), (7, .slice Ao k co), (19, .int .i64 (j : Int)), (20, .int .i64 gs4[j].2.c.txn), (22, .int .i64 (u.1 : Int))]) (fun _ => J5) (fun u : Nat × Chunks => (x, row 38 [.pointer (some ⟨d, 0, none⟩), .pointer (some ⟨s, 0, none⟩), .pointer (some ⟨l, 0, none⟩), .pointer (some ⟨t, 0, none⟩), .pointer (some ⟨q, 0, none⟩), .pointer (some ⟨rt, 0, none⟩), .pointer (some ⟨rm, 0, none⟩), .pointer (some ⟨r9, 0, none⟩)]) :: (L4 ++ (Lt5 ++ (Ll4 ++ F)))) (fun u : Nat × Chunks => u.1 ≤ j) (fun u : Nat × Chunks => j - u.1) (0, []) (Nat.zero_le _) ⟨rfl, rfl, rfl, rfl, rfl, rfl, rfl, rfl, trivial⟩ rfl (by (try simp only [List.append_eq, List.cons_append, List.nil_append, List.append_assoc]); repeat (first | exact Rm.chunk | exact Rm.here | exact Rm.nil0 | apply Rm.skip | apply Rm.skipS | apply PX.cons | (apply PX.done; (repeat (first | exact Leave.done | apply Leave.drop | apply Leave.dropS)); done) | apply PX.app)) ?_
       rintro ⟨p, _⟩ hp; dsimp only at hp
       try dsimp only
       try simp only [nf]
       refine WP.seq ?_
       refine WP.seq ?_
       refine WP.region [0, 1, 2] rfl ?_
       iterate 2 refine WP.mv rfl rfl ?_
       refine WP.split rfl rfl rfl rfl (Yld.lss rfl rfl rfl) (fun hlt6 => ?_) (fun hlt6 => ?_)
       ·have hpg : p < gs4.length := by omega
        obtain ⟨bl, kl, Tl, fl, arl, el, hbl, hcl⟩ := one_at (show SlRd (Im J5) (.slice Ao k co) (ptrsV gs4).length 1 (ptrsV gs4) by rw [ptrsV_of hmp4, ptrsV_len, hlenf]; exact hls.mono (fun b o h => hJ15.2 b o h)) (show p < (ptrsV gs4).length by rw [ptrsV_len]; exact hpg)
        rw [show (ptrsV gs4)[p]'(by rw [ptrsV_len]; exact hpg) = .pointer (some ⟨(gs4[p]).1, 0, none⟩) by simp [ptrsV]] at hcl
        refine WP.nil ?_
        refine WP.sub [(0, _), (1, _), (4, _), (6, _), (7, _), (19, _), (20, _), (22, _), (166, _)] ?_ ⟨rfl, rfl, rfl, rfl, rfl, rfl, rfl, rfl, rfl, trivial⟩
        refine WP.next ?_
        refine WP.condT rfl ?_
        refine WP.skip ?_
        refine WP.next ?_
        refine WP.seq ?_
        refine WP.block ?_
        refine WP.seq ?_
        refine WP.region [0, 1, 2, 3, 4, 5, 6, 7, 8, 9] rfl ?_
        iterate 2 refine WP.mv rfl rfl ?_
        refine WP.vl rfl (Yld.indexAddr (i := p) rfl ty_sl_26 (congrArg (fun a => some (Value.slice a k co)) el) rfl (by omega)) ?_
        refine WP.vl rfl (Yld.loadC rfl ty_sc_46 rfl (There.i hbl) hcl) ?_
        refine WP.loud rfl rfl ?_
        refine Op.cl (txn_GotK hgs5 hpg) rfl Tryz.func17 rfl rfl rfl rfl ?_
        rintro v J L4 - ⟨rfl, rfl, rfl⟩
        try simp only [nf]
        have hzp := (clr_at hinv4 hpg (h9a p hpg)).1
        rw [if_neg (fun h => h hzp)]
        refine WP.mv rfl rfl ?_
        refine WP.vl rfl (Yld.extract rfl rfl rfl) ?_
        refine WP.vl rfl (Yld.extract rfl rfl rfl) ?_
        iterate 2 refine WP.mv rfl rfl ?_
        refine WP.nil ?_
        refine WP.sub [(0, _), (1, _), (4, _), (6, _), (7, _), (19, _), (20, _), (22, _), (23, _), (166, _)] ?_ ⟨rfl, rfl, rfl, rfl, rfl, rfl, rfl, rfl, rfl, rfl, trivial⟩
        refine WP.next ?_
        refine WP.seq ?_
        refine WP.region [0, 1, 2] rfl ?_
        iterate 2 refine WP.mv rfl rfl ?_
        refine WP.vl rfl (Yld.eql rfl rfl rfl false (decide_eq_false (by exact hinv4.apart p j hpg hjg (by omega) (by rw [h9a p hpg]; decide) (by rw [h9a j hjg]; decide)))) ?_
        refine WP.nil ?_
        refine WP.sub [(0, _), (1, _), (4, _), (6, _), (7, _), (19, _), (20, _), (22, _), (23, _), (166, _), (179, _)] ?_ ⟨rfl, rfl, rfl, rfl, rfl, rfl, rfl, rfl, rfl, rfl, rfl, trivial⟩
        refine WP.next ?_
        refine WP.condF rfl ?_
        refine WP.skip ?_
        refine WP.leave ?_
        refine WP.next ?_
        refine WP.region [0, 1, 2] rfl ?_
        refine WP.mv rfl rfl ?_
        refine WP.vl rfl (Yld.add64 rfl rfl rfl (by omega)) ?_
        refine WP.mv rfl rfl ?_
        refine WP.nil ?_
        refine WP.sub [(0, _), (1, _), (4, _), (6, _), (7, _), (19, _), (20, _), (22, _), (23, _), (166, _), (179, _)] ?_ ⟨rfl, rfl, rfl, rfl, rfl, rfl, rfl, rfl, rfl, rfl, rfl, trivial⟩
        exact WP.again (p + 1, []) (show p + 1 ≤ j by omega) (show j - (p + 1) < j - p by omega) ⟨rfl, rfl, rfl, rfl, rfl, rfl, rfl, rfl, trivial⟩ rfl (by (try simp only [List.append_eq, List.cons_append, List.nil_append, List.append_assoc]); repeat (first | exact Rm.chunk | exact Rm.here | exact Rm.nil0 | apply Rm.skip | apply Rm.skipS | apply PX.cons | (apply PX.done; (repeat (first | exact Leave.done | apply Leave.drop | apply Leave.dropS)); done) | apply PX.app))
       ·refine WP.nil ?_
        refine WP.sub [(0, _), (1, _), (4, _), (6, _), (7, _), (19, _), (20, _), (22, _), (166, _)] ?_ ⟨rfl, rfl, rfl, rfl, rfl, rfl, rfl, rfl, rfl, trivial⟩
        refine WP.next ?_
        refine WP.condF rfl ?_
        refine WP.exit ?_
        refine WP.thenE ?_
        refine WP.thenE ?_
        refine WP.hit ?_
        refine WP.next ?_
        refine WP.seq ?_
        refine WP.region [0, 1, 2, 3, 4, 5, 6, 7, 8, 9, 10, 11, 12, 13] rfl ?_
        refine WP.mv rfl rfl ?_
        refine WP.vl rfl (Yld.nilCheck rfl rfl) ?_
        refine WP.vl rfl (Yld.fieldAddr rfl ty_fd_38_3 rfl) ?_
        refine WP.vl rfl (Yld.ld (v := .pointer (some ⟨t, 0, none⟩)) rfl ty_sc_32 rfl rfl) ?_
        refine WP.mv rfl rfl ?_
        refine WP.vl rfl (Yld.mul64 rfl rfl rfl (by omega)) ?_
        refine WP.vl rfl (Yld.add64 rfl rfl rfl (by omega)) ?_
        rw [show (2 : Int) * (j : Int) + 1 = ((2 * j + 1 : Nat) : Int) by omega]
        refine WP.loud rfl rfl ?_
        refine Op.cl (tabT_LoadE hT5 hf1) rfl Tryz.func12 rfl rfl rfl rfl ?_
        rintro v J6 Lt6 hJ6 ⟨cs1, rfl, hre1, hT1x⟩
        try simp only [nf]
        obtain ⟨bn1, kn1, cn1, Ad1, cd1, Aw1, cw1, Tn1, fn1, arn1, rfl, hbn1, hcn1, hdn1⟩ := one_node hre1 hfn1
        refine WP.mv rfl rfl ?_
        refine WP.vl rfl (Yld.extract rfl rfl rfl) ?_
        refine WP.vl rfl (Yld.extract rfl rfl rfl) ?_
        refine WP.loud rfl rfl ?_
        refine Op.alloc rfl rfl rfl ty_zr_43 (fun b25 => ?_)
        refine WP.loud rfl rfl ?_
        refine Op.sA rfl rfl ty_sz_43 rfl rfl rfl rfl rfl ?_
        refine WP.mv rfl rfl ?_
        refine WP.nil ?_
        refine WP.sub [(0, _), (1, _), (4, _), (6, _), (7, _), (19, _), (20, _), (22, _), (25, _), (26, _), (166, _)] ?_ ⟨rfl, rfl, rfl, rfl, rfl, rfl, rfl, rfl, rfl, rfl, rfl, trivial⟩
        refine WP.next ?_
        refine WP.seq ?_
        refine WP.region [0, 1, 2, 3, 4, 5, 6, 7, 8, 9, 10, 11, 12, 13] rfl ?_
        refine WP.mv rfl rfl ?_
        refine WP.vl rfl (Yld.nilCheck rfl rfl) ?_
        refine WP.vl rfl (Yld.fieldAddr rfl ty_fd_38_3 rfl) ?_
        refine WP.vl rfl (Yld.ld (v := .pointer (some ⟨t, 0, none⟩)) rfl ty_sc_32 rfl rfl) ?_
        refine WP.mv rfl rfl ?_
        refine WP.vl rfl (Yld.mul64 rfl rfl rfl (by omega)) ?_
        refine WP.vl rfl (Yld.add64 rfl rfl rfl (by omega)) ?_
        rw [show (2 : Int) * (j : Int) + 2 = ((2 * j + 2 : Nat) : Int) by omega]
        refine WP.loud rfl rfl ?_
        refine Op.cl (tabT_LoadE hT1x hf2) rfl Tryz.func12 rfl rfl rfl rfl ?_
        rintro v J7 Lt7 hJ7 ⟨cs2, rfl, hre2, hT2x⟩
        try simp only [nf]
        obtain ⟨bn2, kn2, cn2, Ad2, cd2, Aw2, cw2, Tn2, fn2, arn2, rfl, hbn2, hcn2, hdn2⟩ := one_node hre2 hfn2
        refine WP.mv rfl rfl ?_
        refine WP.vl rfl (Yld.extract rfl rfl rfl) ?_
        refine WP.vl rfl (Yld.extract rfl rfl rfl) ?_
        refine WP.loud rfl rfl ?_
        refine Op.alloc rfl rfl rfl ty_zr_43 (fun b27 => ?_)
        refine WP.loud rfl rfl ?_
        refine Op.sA rfl rfl ty_sz_43 rfl rfl rfl rfl rfl ?_
        refine WP.mv rfl rfl ?_
        refine WP.nil ?_
        refine WP.sub [(0, _), (1, _), (4, _), (6, _), (7, _), (19, _), (20, _), (22, _), (25, _), (26, _), (27, _), (28, _), (166, _)] ?_ ⟨rfl, rfl, rfl, rfl, rfl, rfl, rfl, rfl, rfl, rfl, rfl, rfl, rfl, trivial⟩
        refine WP.next ?_
        refine WP.seq ?_
        refine WD.start Tryzmixed 42 (fun _ _ => False) (fun c o => (c = b25 ∧ o = row 43 (entV f1 (.slice (some ⟨bn1, kn1, none⟩) 1 cn1) (.slice Aw1 f1.with_.length cw1))) ∨ (c = b27 ∧ o = row 43 (entV f2 (.slice (some ⟨bn2, kn2, none⟩) 1 cn2) (.slice Aw2 f2.with_.length cw2))) ∨ J7.blk c = some o) (fun _ _ h => h.elim) (by rintro _ _ (⟨rfl, rfl⟩ | ⟨rfl, rfl⟩ | h); exact (by repeat (first | exact There.h | exact There.i (by assumption) | apply There.t | apply There.s)); exact (by repeat (first | exact There.h | exact There.i (by assumption) | apply There.t | apply There.s)); exact There.i h) 65 [false, false, false, false, false, false, false, false, false, false, false, false, false, false, false, false, false, false, false, false, false, false, false, false, false, false, false, false, false, false, false, false, false, false, false, false, false, false, false, false, false, false, false, false, false, false, false, false, false, false, false, false, false, false, false, false, false, false, false, false, false, false, false, false, false] rfl rfl ?_
        refine WD.val (i := 0) rfl rfl rfl rfl (by kernel_rfl) rfl (Yld.move rfl rfl) ?_
        refine WD.val (i := 1) rfl rfl rfl rfl (by kernel_rfl) rfl (Yld.neq rfl rfl rfl false (decide_eq_false (by simp))) ?_
        refine WD.val (i := 2) rfl rfl rfl rfl (by kernel_rfl) rfl (Yld.move rfl rfl) ?_
        refine WD.valG (i := 3) rfl rfl rfl rfl rfl rfl rfl (by kernel_rfl) rfl (Yld.move rfl rfl) ?_
        refine WD.valG (i := 4) rfl rfl rfl rfl rfl rfl rfl (by kernel_rfl) rfl (Yld.neq rfl rfl rfl false (decide_eq_false (by simp))) ?_
        refine WD.val (i := 5) rfl rfl rfl rfl (by kernel_rfl) rfl (Yld.pickF rfl rfl rfl) ?_
        refine WD.val (i := 6) rfl rfl rfl rfl (by kernel_rfl) rfl (Yld.move rfl rfl) ?_
        refine WD.valG (i := 7) rfl rfl rfl rfl rfl rfl rfl (by kernel_rfl) rfl (Yld.fieldAddr rfl ty_fd_43_1 rfl) ?_
        refine WD.valG (i := 8) rfl rfl rfl rfl rfl rfl rfl (by kernel_rfl) rfl (Yld.load (v := .slice (some ⟨bn1, kn1, none⟩) 1 cn1) rfl ty_sc_41 rfl (.inl ⟨rfl, rfl⟩) rfl) ?_
        refine WD.valG (i := 9) rfl rfl rfl rfl rfl rfl rfl (by kernel_rfl) rfl (Yld.len rfl ty_sl_41 rfl) ?_
        refine WD.valG (i := 10) rfl rfl rfl rfl rfl rfl rfl (by kernel_rfl) rfl (Yld.neq rfl rfl rfl false (decide_eq_false (by simp))) ?_
        refine WD.val (i := 11) rfl rfl rfl rfl (by kernel_rfl) rfl (Yld.pickF rfl rfl rfl) ?_
        refine WD.val (i := 12) rfl rfl rfl rfl (by kernel_rfl) rfl (Yld.move rfl rfl) ?_
        refine WD.valG (i := 13) rfl rfl rfl rfl rfl rfl rfl (by kernel_rfl) rfl (Yld.fieldAddr rfl ty_fd_43_1 rfl) ?_
        refine WD.valG (i := 14) rfl rfl rfl rfl rfl rfl rfl (by kernel_rfl) rfl (Yld.load (v := .slice (some ⟨bn2, kn2, none⟩) 1 cn2) rfl ty_sc_41 rfl (.inr (.inl ⟨rfl, rfl⟩)) rfl) ?_
        refine WD.valG (i := 15) rfl rfl rfl rfl rfl rfl rfl (by kernel_rfl) rfl (Yld.len rfl ty_sl_41 rfl) ?_
        refine WD.valG (i := 16) rfl rfl rfl rfl rfl rfl rfl (by kernel_rfl) rfl (Yld.neq rfl rfl rfl false (decide_eq_false (by simp))) ?_
        refine WD.val (i := 17) rfl rfl rfl rfl (by kernel_rfl) rfl (Yld.pickF rfl rfl rfl) ?_
        refine WD.val (i := 18) rfl rfl rfl rfl (by kernel_rfl) rfl (Yld.move rfl rfl) ?_
        refine WD.valG (i := 19) rfl rfl rfl rfl rfl rfl rfl (by kernel_rfl) rfl (Yld.fieldAddr rfl ty_fd_43_1 rfl) ?_
        refine WD.valG (i := 20) rfl rfl rfl rfl rfl rfl rfl (by kernel_rfl) rfl (Yld.load (v := .slice (some ⟨bn1, kn1, none⟩) 1 cn1) rfl ty_sc_41 rfl (.inl ⟨rfl, rfl⟩) rfl) ?_
        refine WD.valG (i := 21) rfl rfl rfl rfl rfl rfl rfl (by kernel_rfl) rfl (Yld.indexAddr (i := 0) rfl ty_sl_41 rfl rfl (by decide)) ?_
        refine WD.valG (i := 22) rfl rfl rfl rfl rfl rfl rfl (by kernel_rfl) rfl (Yld.fieldAddr rfl ty_fd_63_1 rfl) ?_
        refine WD.valG (i := 23) rfl rfl rfl rfl rfl rfl rfl (by kernel_rfl) rfl (Yld.loadC rfl ty_sc_49 rfl (.inr (.inr (hJ7.2 _ _ hbn1))) hcn1) ?_
        refine WD.valG (i := 24) rfl rfl rfl rfl rfl rfl rfl (by kernel_rfl) rfl (Yld.str (e := 5) rfl (by kernel_rfl) (by kernel_rfl) (by kernel_rfl) rfl (hdn1.mono (fun b o h => .inr (.inr (hJ7.2 _ _ h))))) ?_
        refine WD.valG (i := 25) rfl rfl rfl rfl rfl rfl rfl (by kernel_rfl) rfl (Yld.move rfl rfl) ?_
        refine WD.valG (i := 26) rfl rfl rfl rfl rfl rfl rfl (by kernel_rfl) rfl (Yld.convN8 j rfl ty_un_3 ty_ik_5 rfl) ?_
        refine WD.loudG (i := 27) (by kernel_rfl) rfl rfl rfl rfl rfl rfl ?_
        refine Op.buildSlice rfl ty_sl_49 ty_el2_49 rfl rfl rfl rfl (vs := [_]) rfl (segs := [(0, [_])]) (cs := bytesV [UInt8.ofNat (j)]) rfl rfl (by repeat (first | exact SetSeg.nil | apply SetSeg.one | exact SetAt.zero | apply SetAt.succ)) (fun bs1 => ?_)
        refine WD.go (.inr (fun _ _ h => h.elim)) (by rintro _ _ (⟨rfl, rfl⟩ | ⟨rfl, rfl⟩ | h); exact (by repeat (first | exact There.h | exact There.i (by assumption) | apply There.t | apply There.s)); exact (by repeat (first | exact There.h | exact There.i (by assumption) | apply There.t | apply There.s)); exact There.i h) ?_
        refine WD.loudG (i := 28) (by kernel_rfl) rfl rfl rfl rfl rfl rfl ?_
        refine Op.ofY rfl rfl (Yld.str (e := 5) rfl (by kernel_rfl) (by kernel_rfl) (by kernel_rfl) rfl (SlRd.lit (m := 1) (cs := bytesV [UInt8.ofNat j]) (by repeat (first | exact There.h | exact There.i (by assumption) | apply There.t | apply There.s)) rfl (Nat.le_refl _))) ?_
        refine WD.go (.inr (fun _ _ h => h.elim)) (by rintro _ _ (⟨rfl, rfl⟩ | ⟨rfl, rfl⟩ | h); exact (by repeat (first | exact There.h | exact There.i (by assumption) | apply There.t | apply There.s)); exact (by repeat (first | exact There.h | exact There.i (by assumption) | apply There.t | apply There.s)); exact There.i h) ?_
        refine WD.valG (i := 29) rfl rfl rfl rfl rfl rfl rfl (by kernel_rfl) rfl (Yld.neqStr rfl rfl rfl false (by simp)) ?_
        refine WD.val (i := 30) rfl rfl rfl rfl (by kernel_rfl) rfl (Yld.pickF rfl rfl rfl) ?_
        refine WD.val (i := 31) rfl rfl rfl rfl (by kernel_rfl) rfl (Yld.move rfl rfl) ?_
        refine WD.valG (i := 32) rfl rfl rfl rfl rfl rfl rfl (by kernel_rfl) rfl (Yld.fieldAddr rfl ty_fd_43_1 rfl) ?_
        refine WD.valG (i := 33) rfl rfl rfl rfl rfl rfl rfl (by kernel_rfl) rfl (Yld.load (v := .slice (some ⟨bn2, kn2, none⟩) 1 cn2) rfl ty_sc_41 rfl (.inr (.inl ⟨rfl, rfl⟩)) rfl) ?_
        refine WD.valG (i := 34) rfl rfl rfl rfl rfl rfl rfl (by kernel_rfl) rfl (Yld.indexAddr (i := 0) rfl ty_sl_41 rfl rfl (by decide)) ?_
        refine WD.valG (i := 35) rfl rfl rfl rfl rfl rfl rfl (by kernel_rfl) rfl (Yld.fieldAddr rfl ty_fd_63_1 rfl) ?_
        refine WD.valG (i := 36) rfl rfl rfl rfl rfl rfl rfl (by kernel_rfl) rfl (Yld.loadC rfl ty_sc_49 rfl (.inr (.inr (hbn2))) hcn2) ?_
        refine WD.valG (i := 37) rfl rfl rfl rfl rfl rfl rfl (by kernel_rfl) rfl (Yld.str (e := 5) rfl (by kernel_rfl) (by kernel_rfl) (by kernel_rfl) rfl (hdn2.mono (fun b o h => .inr (.inr h)))) ?_
        refine WD.valG (i := 38) rfl rfl rfl rfl rfl rfl rfl (by kernel_rfl) rfl (Yld.move rfl rfl) ?_
        refine WD.valG (i := 39) rfl rfl rfl rfl rfl rfl rfl (by kernel_rfl) rfl (Yld.add64 rfl rfl rfl (by omega)) ?_
        rw [show (j : Int) + 100 = ((j + 100 : Nat) : Int) from rfl]
        refine WD.valG (i := 40) rfl rfl rfl rfl rfl rfl rfl (by kernel_rfl) rfl (Yld.convN8 (j + 100) rfl ty_un_3 ty_ik_5 rfl) ?_
        refine WD.loudG (i := 41) (by kernel_rfl) rfl rfl rfl rfl rfl rfl ?_
        refine Op.buildSlice rfl ty_sl_49 ty_el2_49 rfl rfl rfl rfl (vs := [_]) rfl (segs := [(0, [_])]) (cs := bytesV [UInt8.ofNat (j + 100)]) rfl rfl (by repeat (first | exact SetSeg.nil | apply SetSeg.one | exact SetAt.zero | apply SetAt.succ)) (fun bs2 => ?_)
        refine WD.go (.inr (fun _ _ h => h.elim)) (by rintro _ _ (⟨rfl, rfl⟩ | ⟨rfl, rfl⟩ | h); exact (by repeat (first | exact There.h | exact There.i (by assumption) | apply There.t | apply There.s)); exact (by repeat (first | exact There.h | exact There.i (by assumption) | apply There.t | apply There.s)); exact There.i h) ?_
        refine WD.loudG (i := 42) (by kernel_rfl) rfl rfl rfl rfl rfl rfl ?_
        refine Op.ofY rfl rfl (Yld.str (e := 5) rfl (by kernel_rfl) (by kernel_rfl) (by kernel_rfl) rfl (SlRd.lit (m := 1) (cs := bytesV [UInt8.ofNat (j + 100)]) (by repeat (first | exact There.h | exact There.i (by assumption) | apply There.t | apply There.s)) rfl (Nat.le_refl _))) ?_
        refine WD.go (.inl rfl) (by rintro _ _ (⟨rfl, rfl⟩ | ⟨rfl, rfl⟩ | h); exact (by repeat (first | exact There.h | exact There.i (by assumption) | apply There.t | apply There.s)); exact (by repeat (first | exact There.h | exact There.i (by assumption) | apply There.t | apply There.s)); exact There.i h) ?_
        refine WD.valG (i := 43) rfl rfl rfl rfl rfl rfl rfl (by kernel_rfl) rfl (Yld.neqStr rfl rfl rfl false (by simp)) ?_
        refine WD.val (i := 44) rfl rfl rfl rfl (by kernel_rfl) rfl (Yld.pickF rfl rfl rfl) ?_
        refine WD.val (i := 45) rfl rfl rfl rfl (by kernel_rfl) rfl (Yld.move rfl rfl) ?_
        refine WD.valG (i := 46) rfl rfl rfl rfl rfl rfl rfl (by kernel_rfl) rfl (Yld.fieldAddr rfl ty_fd_43_3 rfl) ?_
        refine WD.valG (i := 47) rfl rfl rfl rfl rfl rfl rfl (by kernel_rfl) rfl (Yld.load (v := .int .i64 f1.no) rfl ty_sc_3 rfl (.inl ⟨rfl, rfl⟩) rfl) ?_
        refine WD.valG (i := 48) rfl rfl rfl rfl rfl rfl rfl (by kernel_rfl) rfl (Yld.move rfl rfl) ?_
        refine WD.valG (i := 49) rfl rfl rfl rfl rfl rfl rfl (by kernel_rfl) rfl (Yld.neq rfl rfl rfl false (decide_eq_false (by exact fun h => h hfo1))) ?_
        refine WD.val (i := 50) rfl rfl rfl rfl (by kernel_rfl) rfl (Yld.pickF rfl rfl rfl) ?_
        refine WD.val (i := 51) rfl rfl rfl rfl (by kernel_rfl) rfl (Yld.move rfl rfl) ?_
        refine WD.valG (i := 52) rfl rfl rfl rfl rfl rfl rfl (by kernel_rfl) rfl (Yld.fieldAddr rfl ty_fd_43_3 rfl) ?_
        refine WD.valG (i := 53) rfl rfl rfl rfl rfl rfl rfl (by kernel_rfl) rfl (Yld.load (v := .int .i64 f2.no) rfl ty_sc_3 rfl (.inr (.inl ⟨rfl, rfl⟩)) rfl) ?_
        refine WD.valG (i := 54) rfl rfl rfl rfl rfl rfl rfl (by kernel_rfl) rfl (Yld.move rfl rfl) ?_
        refine WD.valG (i := 55) rfl rfl rfl rfl rfl rfl rfl (by kernel_rfl) rfl (Yld.neq rfl rfl rfl false (decide_eq_false (by exact fun h => h hfo2))) ?_
        refine WD.val (i := 56) rfl rfl rfl rfl (by kernel_rfl) rfl (Yld.pickF rfl rfl rfl) ?_
        refine WD.val (i := 57) rfl rfl rfl rfl (by kernel_rfl) rfl (Yld.move rfl rfl) ?_
        refine WD.valG (i := 58) rfl rfl rfl rfl rfl rfl rfl (by kernel_rfl) rfl (Yld.fieldAddr rfl ty_fd_43_6 rfl) ?_
        refine WD.valG (i := 59) rfl rfl rfl rfl rfl rfl rfl (by kernel_rfl) rfl (Yld.load (v := .int .i64 f1.txn) rfl ty_sc_3 rfl (.inl ⟨rfl, rfl⟩) rfl) ?_
        refine WD.valG (i := 60) rfl rfl rfl rfl rfl rfl rfl (by kernel_rfl) rfl (Yld.fieldAddr rfl ty_fd_43_6 rfl) ?_
        refine WD.valG (i := 61) rfl rfl rfl rfl rfl rfl rfl (by kernel_rfl) rfl (Yld.load (v := .int .i64 f2.txn) rfl ty_sc_3 rfl (.inr (.inl ⟨rfl, rfl⟩)) rfl) ?_
        refine WD.valG (i := 62) rfl rfl rfl rfl rfl rfl rfl (by kernel_rfl) rfl (Yld.add64 rfl rfl rfl (by rw [hft1, hft2]; decide)) ?_
        refine WD.valG (i := 63) rfl rfl rfl rfl rfl rfl rfl (by kernel_rfl) rfl (Yld.neq rfl rfl rfl false (decide_eq_false (by rw [hft1, hft2]; decide))) ?_
        refine WD.val (i := 64) rfl rfl rfl rfl (by kernel_rfl) rfl (Yld.pickF rfl rfl rfl) ?_
        refine WD.done (by kernel_rfl) ?_
        refine WP.sub [(0, _), (1, _), (4, _), (6, _), (7, _), (19, _), (20, _), (22, _), (25, _), (26, _), (27, _), (28, _), (166, _), (266, _)] ?_ ⟨rfl, rfl, rfl, rfl, rfl, rfl, rfl, rfl, rfl, rfl, rfl, rfl, rfl, rfl, trivial⟩
        refine WP.next ?_
        refine WP.condF rfl ?_
        refine WP.skip ?_
        refine WP.leave ?_
        refine WP.next ?_
        refine WP.region [0, 1, 2] rfl ?_
        refine WP.mv rfl rfl ?_
        refine WP.vl rfl (Yld.add64 rfl rfl rfl (by omega)) ?_
        refine WP.mv rfl rfl ?_
        refine WP.nil ?_
        refine WP.sub [(0, _), (1, _), (4, _), (6, _), (7, _), (19, _), (20, _), (22, _), (25, _), (26, _), (27, _), (28, _), (166, _), (266, _)] ?_ ⟨rfl, rfl, rfl, rfl, rfl, rfl, rfl, rfl, rfl, rfl, rfl, rfl, rfl, rfl, trivial⟩
        exact WP.again ⟨j + 1, J7, Lt7⟩ ⟨Imm.le_trans hJ5 (Imm.le_trans hJ6 hJ7), hT2x, (show j + 1 ≤ k by omega)⟩ (show k - (j + 1) < k - j by omega) ⟨rfl, rfl, rfl, rfl, rfl, rfl, trivial⟩ rfl (by (try simp only [List.append_eq, List.cons_append, List.nil_append, List.append_assoc]); repeat (first | exact Rm.chunk | exact Rm.here | exact Rm.nil0 | apply Rm.skip | apply Rm.skipS | apply PX.cons | (apply PX.done; (repeat (first | exact Leave.done | apply Leave.drop | apply Leave.dropS)); done) | apply PX.app))
      ·refine WP.nil ?_
       refine WP.sub [(0, _), (1, _), (4, _), (6, _), (7, _), (19, _), (151, _)] ?_ ⟨rfl, rfl, rfl, rfl, rfl, rfl, rfl, trivial⟩
       refine WP.next ?_
       refine WP.condF rfl ?_
       refine WP.exit ?_
       refine WP.thenE ?_
       refine WP.thenE ?_
       refine WP.hit ?_
       refine WP.next ?_
       refine WP.seq ?_
       refine WP.region [0] rfl ?_
       refine WP.mv rfl rfl ?_
       refine WP.nil ?_
       refine WP.next ?_
       refine WP.ret ?_
       refine WP.fn .ret (.inr rfl) (res1 rfl rfl) [] (Imm.le_trans hJa (Imm.le_trans hJ (Imm.le_trans hJ1 (Imm.le_trans hJ4 hJ5)))) ?_
       exact ⟨rfl, rfl⟩


end Go.Hp
