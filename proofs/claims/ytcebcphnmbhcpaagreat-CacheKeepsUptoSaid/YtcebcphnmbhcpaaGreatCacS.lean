import Derived.Test.YtcebcphnmbhcpaaGreatCwT
import Derived.Test.YtcebcphnmbhcpaaGreatCacQ
set_option linter.unusedVariables false
set_option linter.unusedSimpArgs false
namespace Go.Hp
open Go Go.Proofs

/-- A list of texts of bytes that is read. -/
structure RBs (J : Imm) (v : Value) (l : List (Value × List UInt8)) : Prop where
 rd : SlRd (Im J) v l.length 1 (l.map (·.1))
 el : ∀ e ∈ l, SlRd (Im J) e.1 e.2.length 1 (bytesV e.2)
theorem RBs.mono {I J : Imm} {v : Value} {l : List (Value × List UInt8)} (h : RBs I v l) (hJ : I.le J) : RBs J v l := ⟨h.rd.mono fun b o q => hJ.2 b o q, fun e he => (h.el e he).mono fun b o q => hJ.2 b o q⟩
theorem RBs.at_ {J : Imm} {A : Option Addr} {m c : Nat} {l : List (Value × List UInt8)} (h : RBs J (.slice A m c) l) {i : Nat} (hi : i < l.length) : ∃ b k T fr arr, A = some ⟨b, k, none⟩ ∧ J.blk b = some (.cells arr T fr) ∧ arr[k + i * 1]? = some l[i].1 := by
 obtain ⟨b, k, c', T, fr, arr, e, hc, hb, hcd⟩ := h.rd.get (by omega)
 refine ⟨b, k, T, fr, arr, by injection e, hb, ?_⟩
 have := take_cells hcd i l[i].1 (by simp [hi]) (by rw [List.length_map]; exact hi)
 rw [Array.getElem?_toList] at this
 rwa [Nat.mul_one]
section
variable {P : Program} {n : Nat} {E : Env} {I : Imm} {L : Chunks} {V : Nat → Obj → Prop} {o : Oper}
end

structure Mi where
 m : Nat
 z : Mx
 L : Chunks
def miP (l : List Mi) : List Value := l.map fun y => .pointer (some ⟨y.m, 0, none⟩)
theorem miP_len (l : List Mi) : (miP l).length = l.length := List.length_map _
theorem miP_at {l : List Mi} {i : Nat} (h : i < l.length) (sp : List Value) : (miP l ++ sp)[0 + i * 1]? = some (.pointer (some ⟨l[i].m, 0, none⟩)) := by
 rw [Nat.zero_add, Nat.mul_one, List.getElem?_append_left (by rw [miP_len]; exact h)]; simp [miP, h]
theorem miP_set {l : List Mi} {i : Nat} (h : i < l.length) {y : Mi} (hy : y.m = l[i].m) : miP (l.set i y) = miP l := by
 unfold miP
 apply List.ext_getElem?
 intro j
 rw [List.getElem?_map, List.getElem?_map, List.getElem?_set]
 split
 ·rename_i e; subst e; rw [List.getElem?_eq_getElem h]; simp [hy]
 ·rfl
/-- The machines of a list. -/
def IsMs (J : Imm) (s l : Nat) (ms : List Mi) : Prop := ∀ y ∈ ms, IsMx J s l y.m y.z y.L
theorem IsMs.mono {I J : Imm} {s l : Nat} {ms : List Mi} (h : IsMs I s l ms) (hJ : I.le J) : IsMs J s l ms := fun y hy => (h y hy).mono hJ
theorem IsMs.set {J : Imm} {s l : Nat} {ms : List Mi} (h : IsMs J s l ms) (i : Nat) {y : Mi} (hy : IsMx J s l y.m y.z y.L) : IsMs J s l (ms.set i y) := fun q hq => by
 rcases List.mem_or_eq_of_mem_set hq with hq | rfl
 ·exact h q hq
 ·exact hy
theorem tmod_nat {a : Int} {m : Nat} (h : 0 < m) : (¬ a.tmod (m : Int) < 0 → ∃ k : Nat, a.tmod (m : Int) = (k : Int) ∧ k < m) ∧ (a.tmod (m : Int) < 0 → ∃ k : Nat, -(a.tmod (m : Int)) = (k : Int) ∧ k < m) := by
 have h1 := Int.tmod_lt_of_pos a (show (0 : Int) < m by omega)
 have h2 := Int.lt_tmod_of_pos a (show (0 : Int) < m by omega)
 exact ⟨fun h => ⟨(a.tmod (m : Int)).toNat, by omega, by omega⟩, fun h => ⟨(-(a.tmod (m : Int))).toNat, by omega, by omega⟩⟩
/-- While nodes are put on. -/
structure TpI (i : Nat) (N : Nds) (tb : Tb) (x : Lg) : Prop where
 nn : N ≠ []
 nl : N.length ≤ i + 1
 w : CW 60 bdT (W1 N) tb x
 en : ∃ e, tb.ent 1 = some e ∧ e.place = 0 ∧ e.kept = 0 ∧ e.nodes = N
 tok : tb.tok ≤ 2 + i
theorem TpI.skip {i : Nat} {N : Nds} {tb : Tb} {x : Lg} (h : TpI i N tb x) : TpI (i + 1) N tb x := ⟨h.nn, by have := h.nl; omega, h.w, h.en, by have := h.tok; omega⟩
theorem TpI.put {i : Nat} {N : Nds} {tb tb2 : Tb} {x : Lg} (h : TpI i N tb x) (hi : i < 20) {e : Ent} (he : tb.ent 1 = some e) {d : List UInt8} (hd : d.length ≤ 100) {c : Bool} (k : CPutR tb 1 e d c tb2) : c = true ∧ TpI (i + 1) ((false, d) :: N) tb2 x := by
 have hnl := h.nl
 obtain ⟨e', he', h1, h2, h3⟩ := h.en
 rw [he] at he'; cases he'
 have hc : c = true := by
  rcases k with ⟨_, _, k | k⟩ | ⟨k, _⟩
  ·exact absurd (h3 ▸ k) h.nn
  ·rw [h3] at k; omega
  ·exact k
 obtain ⟨_, g2, N2, _, g4, ⟨_, rfl, _, g5⟩ | ⟨q, _⟩⟩ := k.one h.w h.nn he (fun _ => by show _ ≤ 21; omega) hd
 ·have ht := h.tok
  exact ⟨hc, by simp, by rw [List.length_cons]; omega, g4, ⟨_, Swapped.tok g5, h1, h2, by show (false, d) :: e.nodes = _; rw [h3]⟩, by omega⟩
 ·rw [hc] at q; cases q
theorem TpI.on {i : Nat} {N : Nds} {tb : Tb} {x : Lg} (h : TpI i N tb x) : TwW N tb x := by
 obtain ⟨e, he, h1, h2, h3⟩ := h.en
 have hW : W1 N 1 ≠ [] := by rw [W1_1]; exact h.nn
 have hok := (h.w.held hW he).ok
 rw [W1_1] at hok
 refine ⟨h.nn, h.w, ⟨e, he, .inl ⟨h1, h2, h3⟩⟩, ?_⟩
 have hs := hok.sz
 have hk : N.length ≤ 21 := hs.1
 have hb : ∀ y ∈ N, y.2.length ≤ 100 := hs.2
 rw [small_page (by decide) (by omega) (fun y hy => by have := hb y hy; omega)]
 have : ∀ M : Nds, (∀ y ∈ M, y.2.length ≤ 100) → (M.map fun x => 2 + x.2.length).sum ≤ M.length * 102 := by
  intro M hM
  induction M with
  | nil => exact Nat.le_refl _
  | cons a l ih =>
   have q1 := ih fun y hy => hM y (List.mem_cons_of_mem _ hy)
   have q2 := hM a List.mem_cons_self
   rw [List.map_cons, List.sum_cons, List.length_cons, Nat.succ_mul]; omega
 have := this N hb
 omega
end Go.Hp
