import Derived.Test.YtilgaelpbgfnnaaGreatTxhG
set_option linter.unusedVariables false
set_option linter.unusedSimpArgs false
namespace Go.Hp
open Go Go.Proofs

def bhP (k : Nat) : Pr := ⟨((k + 1 : Nat) : Int), 0, [(true, [UInt8.ofNat (k + 1)])]⟩
def bhR (n : Nat) : List Pr := (List.range n).map bhP
theorem bhR_len (n : Nat) : (bhR n).length = n := by unfold bhR; rw [List.length_map, List.length_range]
theorem bhR_succ (n : Nat) : bhR (n + 1) = bhR n ++ [bhP n] := by unfold bhR; rw [List.range_succ, List.map_append]; rfl
theorem bhR_mem {n : Nat} {r : Pr} : r ∈ bhR n ↔ ∃ k, k < n ∧ r = bhP k := by
 unfold bhR
 rw [List.mem_map]
 constructor
 ·rintro ⟨k, hk, rfl⟩; exact ⟨k, List.mem_range.1 hk, rfl⟩
 ·rintro ⟨k, hk, rfl⟩; exact ⟨k, List.mem_range.2 hk, rfl⟩
theorem bhR_hd {n : Nat} (h : 1 ≤ n) : hdP (bhR n) = bhP 0 := by
 obtain ⟨m, rfl⟩ : ∃ m, n = m + 1 := ⟨n - 1, by omega⟩
 unfold bhR; rw [List.range_succ_eq_map]; rfl
theorem bhR_nd (n : Nat) : (pgs (bhR n)).Nodup := by
 unfold pgs bhR
 rw [List.map_map]
 exact List.Pairwise.map _ (fun a b h e => h (by have e2 : ((a + 1 : Nat) : Int) = ((b + 1 : Nat) : Int) := e; omega)) List.nodup_range
theorem bhR_wf {n : Nat} (h1 : 1 ≤ n) (h8 : n ≤ 8) : Wf (bhR n) := wf_of (by rw [bhR_len]; exact h1) (by rw [bhR_len]; exact h8) (fun r hr => by
 obtain ⟨k, hk, rfl⟩ := bhR_mem.1 hr
 exact ⟨by show (1 : Int) ≤ ((k + 1 : Nat) : Int); omega, by show ((k + 1 : Nat) : Int) ≤ 512; omega, rfl, _, rfl⟩) (bhR_nd n)
theorem bhR_pg {n k : Nat} (h : k < n) : ((k + 1 : Nat) : Int) ∈ pgs (bhR n) := pgs_mem (r := bhP k) (bhR_mem.2 ⟨k, h, rfl⟩)
/-- The pages as they were given out. -/
def bhT (n : Nat) (tb : Tb) : Prop := ∀ j, j < n → tb.ent ((j + 1 : Nat) : Int) = some { zeroEnt with tok := j + 1 }
theorem bhT.step {k : Nat} {tb tb2 : Tb} (h : bhT k tb) (hk : tb.tok = k) (hu : tb.Used tb2 ((k + 1 : Nat) : Int) zeroEnt) : bhT (k + 1) tb2 := fun j hj => by
 rw [hu.ent]
 by_cases e : j = k
 ·subst e; rw [if_pos rfl, hk]
 ·rw [if_neg (by omega)]; exact h j (by omega)
theorem SI.start {n : Nat} (h1 : 1 ≤ n) {tb : Tb} {x : Lg} {ps : List (Pr × Value)} (hps : prs ps = bhR n) (ht : bhT n tb) (hk : tb.tok = n) (hx : LgB x) (hx0 : x.rs = []) (hlo : x.lo = 0) : SI (bhR n) n x tb ⟨0, cm0, 1, ps, [], 0, []⟩ := by
 have hrw : ∀ r ∈ bhR n, raw tb r := fun r hr => by
  obtain ⟨k, hk, rfl⟩ := bhR_mem.1 hr
  exact ⟨_, ht k hk, rfl, rfl⟩
 have hd : hdP (bhR n) ∈ bhR n := by rw [bhR_hd h1]; exact bhR_mem.2 ⟨0, by omega, rfl⟩
 obtain ⟨hp, hc⟩ := Evo.start (x := x) (tb := tb) (T := 1) hps ⟨_, (by show tb.ent (hdP (bhR n)).page = _; rw [bhR_hd h1]; exact ht 0 (by omega)), rfl⟩
 exact ⟨hp, hc, hx, ⟨by rw [hx0]; rfl, fun q => absurd (show 2 ≤ 0 from q) (by decide)⟩, hlo, by rw [hk]; exact Nat.le_add_right _ _, (fun _ r hr => by rw [hx0] at hr; cases hr), fun _ => hrw _ hd, fun _ r hr => hrw r (List.mem_of_mem_tail hr), fun q => absurd (show 0 = 2 from q) (by decide)⟩
theorem SI.first {n : Nat} (h1 : 1 ≤ n) (h8 : n ≤ 8) {x : Lg} {tb : Tb} {z : Gp} (h : SI (bhR n) n x tb z) : ∃ e, tb.ent 1 = some e ∧ ((z.at_ ≤ 3 ∧ e.nodes = []) ∨ (4 ≤ z.at_ ∧ e.nodes = [(true, [UInt8.ofNat 1])] ∧ e.no = 1)) := by
 have wf := bhR_wf h1 h8
 have hh := bhR_hd h1
 by_cases h3 : z.at_ ≤ 3
 ·obtain ⟨e, q1, q2, q3⟩ := h.hd h3
  rw [hh] at q1
  exact ⟨e, q1, .inl ⟨h3, q3⟩⟩
 ·obtain ⟨e1, e2⟩ := h.al.2 (by omega)
  have hb := h.ph.bph wf (by omega)
  rw [e1, e2] at hb
  rcases hb.all _ (hd_mem wf) with ⟨e, q1, q2, _⟩ | ⟨e, q1, q2, _⟩ <;> rw [hh] at q1 q2 <;> exact ⟨e, q1, .inr ⟨by omega, q2.nodes, q2.no⟩⟩
theorem SI.bph {n : Nat} {x : Lg} {tb : Tb} {z : Gp} (h : SI (bhR n) n x tb z) (wf : Wf (bhR n)) (h4 : 4 ≤ z.at_) : Bph (bhR n) 1 8 x tb z.co := by
 obtain ⟨e1, e2⟩ := h.al.2 (by omega)
 have hb := h.ph.bph wf h4
 rwa [e1, e2] at hb
/-- Behind the Help: the group as it was, or as it has come to be. -/
def BX (n : Nat) (hp : Int) (came : Bool) (x : Lg) (tb : Tb) (z : Gp) : Prop :=
 (came = false ∧ SI (bhR n) n x tb z) ∨ (came = true ∧ Bph (bhR n) 1 8 x tb z.co ∧ PhC (bhR n) 1 z ∧ LgB x ∧ x.rs.length ≤ 4 ∧ tb.tok ≤ 100 ∧ ∀ k, k < n → ((k + 1 : Nat) : Int) = hp → clrd tb 1 8 (bhP k))
theorem BX.at_ {n : Nat} {hp : Int} {came : Bool} {x : Lg} {tb : Tb} {z : Gp} (h : BX n hp came x tb z) (hc : came = true) {k : Nat} (hk : k < n) : ∃ e, tb.ent ((k + 1 : Nat) : Int) = some e ∧ e.nodes = [(true, [UInt8.ofNat (k + 1)])] ∧ e.no = 1 ∧ (((k + 1 : Nat) : Int) = hp → e.txn = 0) := by
 rcases h with ⟨h, _⟩ | ⟨_, hb, _, _, _, _, hcl⟩
 ·rw [hc] at h; cases h
 ·by_cases e : ((k + 1 : Nat) : Int) = hp
  ·obtain ⟨f, q1, q2, q3⟩ := hcl k hk e
   exact ⟨f, q1, q2.nodes, q2.no, fun _ => q3⟩
  ·rcases hb.all _ (bhR_mem.2 ⟨k, hk, rfl⟩) with ⟨f, q1, q2, _⟩ | ⟨f, q1, q2, _⟩ <;> exact ⟨f, q1, q2.nodes, q2.no, fun q => absurd q e⟩
theorem Ph.mu_gen {rs : List Pr} {T : Nat} {x : Lg} {tb : Tb} {z : Gp} (hp : Ph rs T x tb z) (wf : Wf rs) : z.mu rs.length x ≤ 299 := by
 have h8 := wf.may.2.1
 have hrl := rotL_len wf.pos
 have htl : rs.tail.length = rs.length - 1 := List.length_tail
 have h2 : z.at_ = 2 → z.left.length ≤ 8 := fun h => by
  obtain ⟨_, _, ⟨k, hk, hl, _⟩, _⟩ := hp.i2 h
  have := congrArg List.length hl
  rw [prs_len, List.length_drop] at this; omega
 have h6 : z.at_ = 6 ∨ z.at_ = 7 → z.c.clear.length ≤ 8 := fun h => by
  obtain ⟨_, k, hk, hc, _⟩ := hp.i6 h
  rw [hc]; unfold pgs; rw [List.length_map, List.length_drop]; omega
 unfold Gp.mu
 repeat' split
 all_goals (first | omega | (have := h2 (by assumption); omega) | (have := h6 (by omega); omega))
theorem law_runG {I : Imm} {g l t : Nat} {z : Gp} {Lgr : Chunks} (hg : IsGr I g l t z Lgr) {tb : Tb} {Lt : Chunks} (hT : IsT I t tb Lt) {s d n : Nat} {x : Lg} {y : Dk} {Ll : Chunks} (hlg : IsLog I l s d n x y Ll) {m : Nat} (h1 : 1 ≤ m) (h8 : m ≤ 8) {hp : Int} {came : Bool} (h : BX m hp came x tb z) : Spec Tryz.prog 16 [.pointer (some ⟨g, 0, none⟩)] I (Lgr ++ (Lt ++ Ll)) (fun v J L => ∃ z2 x2 tb2 Lg2 Lt2 Ll2, v = .tuple #[] ∧ L = Lg2 ++ (Lt2 ++ Ll2) ∧ IsGr J g l t z2 Lg2 ∧ IsT J t tb2 Lt2 ∧ IsLog J l s d n x2 y Ll2 ∧ z2.c.e = 0 ∧ ∃ pl, ∀ r ∈ bhR m, clrd tb2 z2.c.txn pl r) := by
 have wf := bhR_wf h1 h8
 rcases h with ⟨_, hs⟩ | ⟨_, hb, hc, hlb, hxl, htk, _⟩
 ·have q1 := hs.al.1
  have q2 := z.V_le
  have q3 := hs.tok
  have q4 := z.W_le (bhR m).length
  have q5 := bhR_len m
  refine (txn_runGroup hg hT hlg wf hs.ph hs.c hs.lg (by omega) (by omega) (hs.ph.mu_gen wf)).mono ?_; rintro v J L - ⟨z2, x2, tb2, Lg2, Lt2, Ll2, rfl, rfl, k1, k2, k3, hev, h9⟩
  obtain ⟨_, _, he, hcl⟩ := hev.ph.i9 (by omega)
  exact ⟨z2, x2, tb2, Lg2, Lt2, Ll2, rfl, rfl, k1, k2, k3, he, _, hcl⟩
 ·have hrl := rotL_len wf.pos
  have q5 := bhR_len m
  have hmu : z.co.mu x tb ≤ 2 * m + 3 := by
   by_cases h9 : z.co.at_ = 9
   ·rw [mu_9 h9]; omega
   ·obtain ⟨k, hk, hcc, _⟩ := hb.k h9
    have := z.co.mu_le x tb
    have e : z.co.c.clear.length = (rotL (bhR m)).length - k := by rw [hcc]; unfold pgs; rw [List.length_map, List.length_drop]
    omega
  refine (txn_runGroupI hg hT hlg (GB.inv (T := 1) (no := 1) (pl := 8) (K := 200) wf (by decide)) (m0 := z.co.mu x tb) (by omega) ⟨hb, hc, hlb, by split <;> omega, by omega, Nat.le_refl _⟩).mono ?_; rintro v J L - ⟨z2, x2, tb2, Lg2, Lt2, Ll2, rfl, rfl, k1, k2, k3, hgb, h9⟩
  obtain ⟨he, hcl⟩ := hgb.ph.fin h9
  have htx : z2.c.txn = 1 := hgb.ph.txn
  exact ⟨z2, x2, tb2, Lg2, Lt2, Ll2, rfl, rfl, k1, k2, k3, he, 8, by rw [htx]; exact hcl⟩
/-- An entry of one node with one byte, read. -/
theorem node_one {J : Imm} {e : Ent} {cs : List Value} (h : REnt J e cs) {b : UInt8} (he : e.nodes = [(true, [b])]) : ∃ bn kn c Ad cd Aw cw T fr arr, cs = entV e (.slice (some ⟨bn, kn, none⟩) 1 c) (.slice Aw e.with_.length cw) ∧ J.blk bn = some (.cells arr T fr) ∧ arr[kn + 0 * 2 + 1]? = some (.slice Ad 1 cd) ∧ SlRd (Im J) (.slice Ad 1 cd) 1 1 (bytesV [b]) := by
 obtain ⟨vn, vw, nv, rfl, q1, q2, q3⟩ := h.ex
 obtain ⟨Aw, cw, rfl, _⟩ := q3.slice'
 rw [he] at q1 q2
 have hl := q2.len
 match nv, hl with
 | [(bb, vd)], _ =>
  obtain ⟨d, h1, h2⟩ := q2.at_ 0 (bb, vd) rfl
  injection h1 with h1
  injection h1 with h1 h3
  subst h3
  obtain ⟨Ad, cd, rfl, _⟩ := h2.slice'
  obtain ⟨bn, kn, c, T, fr, arr, rfl, hc, hb, hcd⟩ := q1.get Nat.one_pos
  refine ⟨bn, kn, c, Ad, cd, Aw, cw, T, fr, arr, rfl, hb, ?_, h2⟩
  have := take_cells hcd 1 (.slice Ad 1 cd) rfl (by show 1 < 2; decide)
  rw [Array.getElem?_toList] at this
  exact this
theorem help_new {J : Imm} {h l t : Nat} {p : Int} : IsHl J h l t 72 [] ⟨0, cm0, p⟩ [(h, row 72 (cmV l t (.func (.func 57) [.pointer (some ⟨h, 0, none⟩)].toArray [].toArray) (.func (.func 55) [.pointer (some ⟨h, 0, none⟩)].toArray [].toArray) cm0 (.slice none 0 0) (.slice none 0 0) (.slice none 0 0) [.int .i64 p]))] :=
 .mk (z := ⟨0, cm0, p⟩) ⟨none, 0, rfl, Nat.le_refl _, rfl, .inl rfl⟩ (RNodes.nil _) ⟨none, 0, rfl, Nat.le_refl _, rfl, .inl rfl⟩ zero_sized
/-- What a Help has brought about, when the group had not come to be. -/
theorem BX.ofA {n : Nat} {hp : Int} {x : Lg} {tb : Tb} {z : Gp} (h : SI (bhR n) n x tb z) : BX n hp false x tb z := .inl ⟨rfl, h⟩
theorem BX.ofB {n : Nat} (h1 : 1 ≤ n) (h8 : n ≤ 8) {hp : Int} {x x2 : Lg} {tb tb2 : Tb} {z : Gp} {zh : Hm} (h : SI (bhR n) n x tb z) (h4 : 4 ≤ z.at_) (hb : HB (bhR n) 1 8 hp x tb 100 0 x2 tb2 zh) (h9 : zh.at_ = 9) : BX n hp true x2 tb2 z ∧ zh.c.e = 0 := by
 have wf := bhR_wf h1 h8
 have q1 := h.al.1
 have q2 := z.V_le
 have q3 := hb.len
 rw [if_neg (by omega)] at q3
 have hs := (h.bph wf h4).stay wf hb.xno hb.t.all hb.t.hl hb.cl
 have key : zh.c.e = 0 ∧ ∀ r ∈ bhR n, r.page = hp → clrd tb2 1 8 r := by
  rcases hb.at_ with ⟨q, _⟩ | ⟨q, _⟩ | ⟨_, q, _⟩ | ⟨_, q, q'⟩
  ·omega
  ·omega
  ·have hat : zh.co.at_ = zh.at_ := rfl
   have := q.fin (by omega)
   exact ⟨this.1, fun r hr _ => this.2 r hr⟩
  ·exact ⟨q, q'⟩
 exact ⟨.inr ⟨rfl, hs, h.c, hb.lg, by omega, hb.tok, fun k hk e => key.2 _ (bhR_mem.2 ⟨k, hk, rfl⟩) e⟩, key.1⟩
theorem BX.ofN {n : Nat} (h1 : 1 ≤ n) (h8 : n ≤ 8) {hp : Int} {x : Lg} {tb : Tb} {z : Gp} (h : SI (bhR n) n x tb z) (h4 : 4 ≤ z.at_) (hh : ¬ (1 ≤ hp ∧ hp ≤ (n : Int))) : BX n hp true x tb z := by
 have wf := bhR_wf h1 h8
 have q1 := h.al.1
 have q2 := z.V_le
 have q3 := h.tok
 have q4 := z.W_le (bhR n).length
 have q5 := bhR_len n
 exact .inr ⟨rfl, h.bph wf h4, h.c, h.lg, by omega, by omega, fun k hk e => by omega⟩
theorem HB.start {n : Nat} (h1 : 1 ≤ n) (h8 : n ≤ 8) {hp : Int} {x : Lg} {tb : Tb} {z : Gp} (h : SI (bhR n) n x tb z) (h4 : 4 ≤ z.at_) : HB (bhR n) 1 8 hp x tb 100 60 x tb ⟨0, cm0, hp⟩ := by
 have wf := bhR_wf h1 h8
 have q3 := h.tok
 have q4 := z.W_le (bhR n).length
 have q5 := bhR_len n
 exact ⟨h.lg, (h.bph wf h4).tb, fun _ _ q => q, Nat.le_refl _, (by rw [if_pos (show (0 : Nat) ≤ 5 by decide)]; exact Nat.le_refl _), by omega, .inl ⟨rfl, rfl, by omega, by omega⟩⟩
theorem com_none {n : Nat} {x : Lg} {tb : Tb} {z : Gp} (h : SI (bhR n) n x tb z) (h3 : z.at_ ≤ 3) : x.rs.filter (comN 0) = [] := by
 rw [List.filter_eq_nil_iff]
 intro r hr q
 have := h.kd h3 r hr
 have := (of_decide_eq_true q).1
 omega
theorem LgB.bl {x : Lg} (h : LgB x) : ∀ r ∈ x.rs, r.b.length ≤ 1099511627776 := fun r hr => by
 have := h.one r hr
 unfold Rc.n kmany at this
 omega

end Go.Hp
