import Derived.Test.YtilgaelpbgfnnaaGreatTxnAA
set_option linter.unusedVariables false
set_option linter.unusedSimpArgs false
namespace Go.Hp
open Go Go.Proofs

inductive IsGrs (J : Imm) (l t : Nat) : List (Nat × Gp) → Chunks → Prop
 | nil : IsGrs J l t [] []
 | cons {g : Nat} {z : Gp} {gs : List (Nat × Gp)} {L1 L2 : Chunks} (h : IsGr J g l t z L1) (k : IsGrs J l t gs L2) : IsGrs J l t ((g, z) :: gs) (L1 ++ L2)
theorem IsGrs.mono {I J : Imm} {l t : Nat} {gs : List (Nat × Gp)} {L : Chunks} (h : IsGrs I l t gs L) (hJ : I.le J) : IsGrs J l t gs L := by
 induction h with
 | nil => exact .nil
 | cons h _ ih => exact .cons (h.mono hJ) ih
theorem IsGrs.snoc {J : Imm} {l t : Nat} {gs : List (Nat × Gp)} {L Lg : Chunks} {g : Nat} {z : Gp} (h : IsGrs J l t gs L) (k : IsGr J g l t z Lg) : IsGrs J l t (gs ++ [(g, z)]) (L ++ Lg) := by
 induction h with
 | nil => have := IsGrs.cons k (.nil (J := J) (l := l) (t := t)); rw [List.append_nil] at this; exact this
 | cons h _ ih => rw [List.cons_append, List.append_assoc]; exact .cons h ih
theorem IsGrs.at_ {J : Imm} {l t : Nat} {gs : List (Nat × Gp)} {L : Chunks} (h : IsGrs J l t gs L) : ∀ {k : Nat} (hk : k < gs.length), ∃ A Lg B, L = A ++ (Lg ++ B) ∧ IsGr J gs[k].1 l t gs[k].2 Lg ∧ ∀ (J2 : Imm) (z2 : Gp) (Lg2 : Chunks), J.le J2 → IsGr J2 gs[k].1 l t z2 Lg2 → IsGrs J2 l t (gs.set k (gs[k].1, z2)) (A ++ (Lg2 ++ B)) := by
 induction h with
 | nil => intro k hk; exact absurd hk (Nat.not_lt_zero _)
 | @cons g z gs L1 L2 h k ih =>
  intro i hi
  cases i with
  | zero =>
   refine ⟨[], L1, L2, rfl, h, fun J2 z2 Lg2 hJ h2 => ?_⟩
   exact IsGrs.cons (g := g) (z := z2) (L1 := Lg2) (L2 := L2) h2 (k.mono hJ)
  | succ i =>
   obtain ⟨A, Lg, B, rfl, h1, h2⟩ := ih (k := i) (by simpa using hi)
   refine ⟨L1 ++ A, Lg, B, by simp, h1, fun J2 z2 Lg2 hJ h3 => ?_⟩
   have := IsGrs.cons (h.mono hJ) (h2 J2 z2 Lg2 hJ h3)
   rw [List.append_assoc]
   exact this
def sumF (f : Gp → Nat) : List (Nat × Gp) → Nat
 | [] => 0
 | x :: l => f x.2 + sumF f l
theorem sumF_set (f : Gp → Nat) : ∀ (l : List (Nat × Gp)) (k : Nat) (hk : k < l.length) (g : Nat) (z : Gp), sumF f (l.set k (g, z)) + f l[k].2 = sumF f l + f z
 | x :: l, 0, _, g, z => by simp only [List.set_cons_zero, sumF, List.getElem_cons_zero]; omega
 | x :: l, k + 1, hk, g, z => by
  have := sumF_set f l k (by simpa using hk) g z
  simp only [List.set_cons_succ, sumF, List.getElem_cons_succ]; omega
theorem sumF_le (f : Gp → Nat) {m : Nat} (hf : ∀ z, f z ≤ m) : ∀ l : List (Nat × Gp), sumF f l ≤ m * l.length
 | [] => Nat.zero_le _
 | x :: l => by
  have := sumF_le f hf l
  have := hf x.2
  simp only [sumF, List.length_cons]; rw [Nat.mul_succ]; omega
def apR (k : Nat) : List Pr := twoP ((2 * k + 1 : Nat) : Int) ((2 * k + 2 : Nat) : Int) (UInt8.ofNat k) (UInt8.ofNat (k + 100))
theorem apR_wf {k : Nat} (h : k < 20) : Wf (apR k) := wf_two (by omega) (by omega) (by omega)
/-- Groups of two pages each. -/
structure AInv (m : Nat) (x : Lg) (tb : Tb) (gs : List (Nat × Gp)) : Prop where
 len : gs.length = m
 m20 : m ≤ 20
 ph : ∀ (k : Nat) (h : k < gs.length), Ph (apR k) (2 * k + 1) x tb gs[k].2 ∧ PhC (apR k) (2 * k + 1) gs[k].2
 lg : LgB x
 rcs : x.rs.length = sumF Gp.V gs
 tok : tb.tok ≤ 2 * m + sumF (fun z => z.W 2) gs
 apart : ∀ (i j : Nat) (hi : i < gs.length) (hj : j < gs.length), i ≠ j → 2 ≤ gs[i].2.at_ → 2 ≤ gs[j].2.at_ → gs[i].2.c.txn ≠ gs[j].2.c.txn
theorem AInv.small {m : Nat} {x : Lg} {tb : Tb} {gs : List (Nat × Gp)} (h : AInv m x tb gs) : x.rs.length ≤ 40 ∧ tb.tok ≤ 120 := by
 have h1 := sumF_le Gp.V Gp.V_le gs
 have h2 := sumF_le (fun z => z.W 2) (fun z => z.W_le 2) gs
 have h3 := h.rcs; have h4 := h.tok; have h5 := h.m20; have h6 := h.len
 rw [h6] at h1 h2
 omega
theorem Ph.mu_le {k : Nat} {T : Nat} {x : Lg} {tb : Tb} {z : Gp} (hp : Ph (apR k) T x tb z) : z.mu (apR k).length x ≤ 299 := by
 have e2 : (apR k).length = 2 := rfl
 have e1 : (apR k).tail.length = 1 := rfl
 rw [e2]
 cases hp with
 | c0 h _ => simp [Gp.mu, h]
 | c1 h _ _ => simp only [Gp.mu, h]; simp; split <;> omega
 | c2 h _ _ j hj hl _ _ =>
  have h1 : z.left.length ≤ 1 := by rw [← prs_len, hl, List.length_drop]; omega
  simp [Gp.mu, h]; omega
 | c3 h _ _ _ _ => simp [Gp.mu, h]
 | c4 h _ _ _ =>
  rcases h with h | h
  ·simp [Gp.mu, h]
  ·simp only [Gp.mu, h]; simp; split <;> omega
 | c6 h _ j hj hc _ _ _ =>
  have h1 : z.c.clear.length ≤ 2 := by rw [hc]; unfold pgs; rw [List.length_map, List.length_drop]; have : (rotL (apR k)).length = 2 := rfl; omega
  rcases h with h | h <;> simp [Gp.mu, h] <;> omega
 | c9 h _ _ _ => simp [Gp.mu, h]
theorem mod_nat {a : Int} {m : Nat} (h : 0 < m) : (¬ a.tmod (m : Int) < 0 → ∃ k : Nat, a.tmod (m : Int) = (k : Int) ∧ k < m) ∧ (a.tmod (m : Int) < 0 → ∃ k : Nat, a.tmod (m : Int) + (m : Int) = (k : Int) ∧ k < m) := by
 have h1 := Int.tmod_lt_of_pos a (show (0 : Int) < m by omega)
 have h2 := Int.lt_tmod_of_pos a (show (0 : Int) < m by omega)
 exact ⟨fun h => ⟨(a.tmod (m : Int)).toNat, by omega, by omega⟩, fun h => ⟨(a.tmod (m : Int) + (m : Int)).toNat, by omega, by omega⟩⟩


theorem one_at {J : Imm} {A : Option Addr} {m c : Nat} {cs : List Value} (h : SlRd (Im J) (.slice A m c) cs.length 1 cs) {i : Nat} (hi : i < cs.length) : ∃ b k T fr arr, A = some ⟨b, k, none⟩ ∧ J.blk b = some (.cells arr T fr) ∧ arr[k + i * 1]? = some cs[i] := by
 obtain ⟨b, k, c', T, fr, arr, e, hc, hb, hcd⟩ := h.get (by omega)
 refine ⟨b, k, T, fr, arr, by injection e, hb, ?_⟩
 have := take_cells hcd i cs[i] (by simp [hi]) hi
 rw [Array.getElem?_toList] at this
 rwa [Nat.mul_one]
def ptrsV (gs : List (Nat × Gp)) : List Value := gs.map fun g => .pointer (some ⟨g.1, 0, none⟩)
theorem ptrsV_len (gs : List (Nat × Gp)) : (ptrsV gs).length = gs.length := List.length_map _
theorem ptrsV_of {gs hs : List (Nat × Gp)} (h : hs.map (·.1) = gs.map (·.1)) : ptrsV hs = ptrsV gs := by
 have e : ∀ l : List (Nat × Gp), ptrsV l = (l.map (·.1)).map fun g => .pointer (some ⟨g, 0, none⟩) := fun l => by simp [ptrsV]
 rw [e, e, h]
theorem map_fst_set {gs : List (Nat × Gp)} {k : Nat} (hk : k < gs.length) (z : Gp) : (gs.set k (gs[k].1, z)).map (·.1) = gs.map (·.1) := by
 rw [List.map_set]
 have h : (gs.map (·.1))[k]'(by simpa using hk) = gs[k].1 := by simp
 rw [← h, List.set_getElem_self]
theorem AInv.pre {m : Nat} {x : Lg} {tb : Tb} {gs : List (Nat × Gp)} (h : AInv m x tb gs) {k : Nat} (hk : k < gs.length) : gs[k].2.pre tb := by
 have h1 := h.small; have h2 := h.len; have h3 := h.m20
 exact (h.ph k hk).1.pre (apR_wf (by omega)) (h.ph k hk).2 h.lg (by omega) (by omega)

theorem txn_GotK {I : Imm} {l t : Nat} {gs : List (Nat × Gp)} {L : Chunks} (hgs : IsGrs I l t gs L) {k : Nat} (hk : k < gs.length) : Spec Tryz.prog 17 [.pointer (some ⟨gs[k].1, 0, none⟩)] I L (fun v J L' => v = .tuple #[.int .i64 (if gs[k].2.c.e ≠ 0 then 0 else gs[k].2.c.txn), .int .i64 gs[k].2.c.e] ∧ I = J ∧ L' = L) := by
 obtain ⟨A, Lg, B, hL, hg, hback⟩ := hgs.at_ hk
 refine Spec.reorder (txn_Got hg) (G := A ++ B) (by have := perm_mid A Lg B []; rw [List.append_nil, List.append_nil] at this; rw [hL]; exact this) ?_; rintro v J L1 hJ ⟨rfl, rfl, rfl⟩
 exact ⟨L, by have := perm_mid A L1 B []; rw [List.append_nil, List.append_nil] at this; rw [hL]; exact this, rfl, rfl, rfl⟩
structure PkX where
 i : Nat
 J : Imm
 x : Lg
 tb : Tb
 gs : List (Nat × Gp)
 L : Chunks
 Lt : Chunks
 Ll : Chunks
end Go.Hp
