import Derived.Test.YtilgaelpbgfnnaaGreatTxhG
set_option linter.unusedVariables false
set_option linter.unusedSimpArgs false
namespace Go.Hp
open Go Go.Proofs

def bhP (k : Nat) : Pr := ⟨((k + 1 : Nat) : Int), 0, [(true, [UInt8.ofNat (k + 1)])]⟩
def bhR (n : Nat) : List Pr := (List.range n).map bhP
theorem bhR_len (n : Nat) : (bhR n).length = n := by unfold bhR; rw [List.length_map, List.length_range]
theorem bhR_mem {n : Nat} {r : Pr} : r ∈ bhR n ↔ ∃ k, k < n ∧ r = bhP k := by
 unfold bhR
 rw [List.mem_map]
 constructor
 ·rintro ⟨k, hk, rfl⟩; exact ⟨k, List.mem_range.1 hk, rfl⟩
 ·rintro ⟨k, hk, rfl⟩; exact ⟨k, List.mem_range.2 hk, rfl⟩
theorem bhR_hd {n : Nat} (h : 1 ≤ n) : hdP (bhR n) = bhP 0 := by
 obtain ⟨m, rfl⟩ : ∃ m, n = m + 1 := ⟨n - 1, by omega⟩
 unfold bhR; rw [List.range_succ_eq_map]; rfl
theorem bhR_nd (n : Nat) : (pgs (bhR n)).Nodup := by
 unfold pgs bhR
 rw [List.map_map]
 exact List.Pairwise.map _ (fun a b h e => h (by have e2 : ((a + 1 : Nat) : Int) = ((b + 1 : Nat) : Int) := e; omega)) List.nodup_range
theorem bhR_wf {n : Nat} (h1 : 1 ≤ n) (h8 : n ≤ 8) : Wf (bhR n) := wf_of (by rw [bhR_len]; exact h1) (by rw [bhR_len]; exact h8) (fun r hr => by
 obtain ⟨k, hk, rfl⟩ := bhR_mem.1 hr
 exact ⟨by show (1 : Int) ≤ ((k + 1 : Nat) : Int); omega, by show ((k + 1 : Nat) : Int) ≤ 512; omega, rfl, _, rfl⟩) (bhR_nd n)
/-- The pages as they were given out. -/
def bhT (n : Nat) (tb : Tb) : Prop := ∀ j, j < n → tb.ent ((j + 1 : Nat) : Int) = some { zeroEnt with tok := j + 1 }
theorem bhT.step {k : Nat} {tb tb2 : Tb} (h : bhT k tb) (hk : tb.tok = k) (hu : tb.Used tb2 ((k + 1 : Nat) : Int) zeroEnt) : bhT (k + 1) tb2 := fun j hj => by
 rw [hu.ent]
 by_cases e : j = k
 ·subst e; rw [if_pos rfl, hk]
 ·rw [if_neg (by omega)]; exact h j (by omega)
theorem SI.start {n : Nat} (h1 : 1 ≤ n) {tb : Tb} {x : Lg} {ps : List (Pr × Value)} (hps : prs ps = bhR n) (ht : bhT n tb) (hk : tb.tok = n) (hx : LgB x) (hx0 : x.rs = []) (hlo : x.lo = 0) : SI (bhR n) n x tb ⟨0, cm0, 1, ps, [], 0, []⟩ := by
 have hrw : ∀ r ∈ bhR n, raw tb r := fun r hr => by
  obtain ⟨k, hk, rfl⟩ := bhR_mem.1 hr
  exact ⟨_, ht k hk, rfl, rfl⟩
 have hd : hdP (bhR n) ∈ bhR n := by rw [bhR_hd h1]; exact bhR_mem.2 ⟨0, by omega, rfl⟩
 obtain ⟨hp, hc⟩ := Evo.start (x := x) (tb := tb) (T := 1) hps ⟨_, (by show tb.ent (hdP (bhR n)).page = _; rw [bhR_hd h1]; exact ht 0 (by omega)), rfl⟩
 exact ⟨hp, hc, hx, ⟨by rw [hx0]; rfl, fun q => absurd (show 2 ≤ 0 from q) (by decide)⟩, hlo, by rw [hk]; exact Nat.le_add_right _ _, (fun _ r hr => by rw [hx0] at hr; cases hr), fun _ => hrw _ hd, fun _ r hr => hrw r (List.mem_of_mem_tail hr), fun q => absurd (show 0 = 2 from q) (by decide)⟩
theorem SI.first {n : Nat} (h1 : 1 ≤ n) (h8 : n ≤ 8) {x : Lg} {tb : Tb} {z : Gp} (h : SI (bhR n) n x tb z) : ∃ e, tb.ent 1 = some e ∧ ((z.at_ ≤ 3 ∧ e.nodes = []) ∨ (4 ≤ z.at_ ∧ e.nodes = [(true, [UInt8.ofNat 1])] ∧ e.no = 1)) := by
 have wf := bhR_wf h1 h8
 have hh := bhR_hd h1
 by_cases h3 : z.at_ ≤ 3
 ·obtain ⟨e, q1, q2, q3⟩ := h.hd h3
  rw [hh] at q1
  exact ⟨e, q1, .inl ⟨h3, q3⟩⟩
 ·obtain ⟨e1, e2⟩ := h.al.2 (by omega)
  have hb := h.ph.bph wf (by omega)
  rw [e1, e2] at hb
  rcases hb.all _ (hd_mem wf) with ⟨e, q1, q2, _⟩ | ⟨e, q1, q2, _⟩ <;> rw [hh] at q1 q2 <;> exact ⟨e, q1, .inr ⟨by omega, q2.nodes, q2.no⟩⟩
theorem SI.bph {n : Nat} {x : Lg} {tb : Tb} {z : Gp} (h : SI (bhR n) n x tb z) (wf : Wf (bhR n)) (h4 : 4 ≤ z.at_) : Bph (bhR n) 1 8 x tb z.co := by
 obtain ⟨e1, e2⟩ := h.al.2 (by omega)
 have hb := h.ph.bph wf h4
 rwa [e1, e2] at hb
/-- Behind the Help: the group as it was, or as it has come to be. -/
def BX (n : Nat) (hp : Int) (came : Bool) (x : Lg) (tb : Tb) (z : Gp) : Prop :=
 (came = false ∧ SI (bhR n) n x tb z) ∨ (came = true ∧ Bph (bhR n) 1 8 x tb z.co ∧ PhC (bhR n) 1 z ∧ LgB x ∧ x.rs.length ≤ 4 ∧ tb.tok ≤ 100 ∧ ∀ k, k < n → ((k + 1 : Nat) : Int) = hp → clrd tb 1 8 (bhP k))
theorem BX.at_ {n : Nat} {hp : Int} {came : Bool} {x : Lg} {tb : Tb} {z : Gp} (h : BX n hp came x tb z) (hc : came = true) {k : Nat} (hk : k < n) : ∃ e, tb.ent ((k + 1 : Nat) : Int) = some e ∧ e.nodes = [(true, [UInt8.ofNat (k + 1)])] ∧ e.no = 1 ∧ (((k + 1 : Nat) : Int) = hp → e.txn = 0) := by
 rcases h with ⟨h, _⟩ | ⟨_, hb, _, _, _, _, hcl⟩
 ·rw [hc] at h; cases h
 ·by_cases e : ((k + 1 : Nat) : Int) = hp
  ·obtain ⟨f, q1, q2, q3⟩ := hcl k hk e
   exact ⟨f, q1, q2.nodes, q2.no, fun _ => q3⟩
  ·rcases hb.all _ (bhR_mem.2 ⟨k, hk, rfl⟩) with ⟨f, q1, q2, _⟩ | ⟨f, q1, q2, _⟩ <;> exact ⟨f, q1, q2.nodes, q2.no, fun q => absurd q e⟩
theorem HB.start {n : Nat} (h1 : 1 ≤ n) (h8 : n ≤ 8) {hp : Int} {x : Lg} {tb : Tb} {z : Gp} (h : SI (bhR n) n x tb z) (h4 : 4 ≤ z.at_) : HB (bhR n) 1 8 hp x tb 100 60 x tb ⟨0, cm0, hp⟩ := by
 have wf := bhR_wf h1 h8
 have q3 := h.tok
 have q4 := z.W_le (bhR n).length
 have q5 := bhR_len n
 exact ⟨h.lg, (h.bph wf h4).tb, fun _ _ q => q, Nat.le_refl _, (by rw [if_pos (show (0 : Nat) ≤ 5 by decide)]; exact Nat.le_refl _), by omega, .inl ⟨rfl, rfl, by omega, by omega⟩⟩
theorem LgB.bl {x : Lg} (h : LgB x) : ∀ r ∈ x.rs, r.b.length ≤ 1099511627776 := fun r hr => by
 have := h.one r hr
 unfold Rc.n kmany at this
 omega

end Go.Hp
