import Derived.Test.YtcnfcdlapbjgeaaLogN
set_option linter.unusedVariables false
set_option linter.unusedSimpArgs false
namespace Go.Hp
open Go Go.Proofs

/-- A list of texts of bytes that is read. -/
structure RBs (J : Imm) (v : Value) (l : List (Value × List UInt8)) : Prop where
 rd : SlRd (Im J) v l.length 1 (l.map (·.1))
 el : ∀ e ∈ l, SlRd (Im J) e.1 e.2.length 1 (bytesV e.2)
theorem RBs.mono {I J : Imm} {v : Value} {l : List (Value × List UInt8)} (h : RBs I v l) (hJ : I.le J) : RBs J v l := ⟨h.rd.mono fun b o q => hJ.2 b o q, fun e he => (h.el e he).mono fun b o q => hJ.2 b o q⟩
theorem RBs.at_ {J : Imm} {A : Option Addr} {m c : Nat} {l : List (Value × List UInt8)} (h : RBs J (.slice A m c) l) {i : Nat} (hi : i < l.length) : ∃ b k T fr arr, A = some ⟨b, k, none⟩ ∧ J.blk b = some (.cells arr T fr) ∧ arr[k + i * 1]? = some l[i].1 := by
 obtain ⟨b, k, c', T, fr, arr, e, hc, hb, hcd⟩ := h.rd.get (by omega)
 refine ⟨b, k, T, fr, arr, by injection e, hb, ?_⟩
 have := take_cells hcd i l[i].1 (by simp [hi]) (by rw [List.length_map]; exact hi)
 rw [Array.getElem?_toList] at this
 rwa [Nat.mul_one]
theorem ints_at {J : Imm} {A : Option Addr} {m c : Nat} {l : List Int} (h : SlRd (Im J) (.slice A m c) l.length 1 (l.map (Value.int .i64))) {i : Nat} (hi : i < l.length) : ∃ b k T fr arr, A = some ⟨b, k, none⟩ ∧ J.blk b = some (.cells arr T fr) ∧ arr[k + i * 1]? = some (.int .i64 l[i]) := by
 obtain ⟨b, k, c', T, fr, arr, e, hc, hb, hcd⟩ := h.get (by omega)
 refine ⟨b, k, T, fr, arr, by injection e, hb, ?_⟩
 have := take_cells hcd i (.int .i64 l[i]) (by simp [hi]) (by rw [List.length_map]; exact hi)
 rw [Array.getElem?_toList] at this
 rwa [Nat.mul_one]
def RBB (I : Imm) (e : Value × List UInt8) (cs : List Value) : Prop := cs = [e.1] ∧ SlRd (Im I) e.1 e.2.length 1 (bytesV e.2)
theorem elem_bb {H : Type} {enc : TypeId × Value → H} {W : World} {sp : Nat → Bool} {held : Bool} (n : Nat) (cs : List Value) (x : DataW H × List MemPlace) (h : DataW.trod enc Try.prog W 0 sp held n 46 cs = some x) (hl : cs.length = 1) : ∃ e, RBB (immOf W) e cs ∧ (fun (_ : Value × List UInt8) (_ : DataW H) => True) e x.1 := by
 obtain ⟨v, z, j, S, D⟩ := open_slc RB (fun _ _ => True) Try.underlying46 (sz := 1) (by kernel_rfl) (by decide) (elem_byte (by kernel_rfl)) h
 exact ⟨(v, z), ⟨j, Slc.bytes S⟩, trivial⟩
theorem Slc.bss {I : Imm} {v : Value} {l : List (Value × List UInt8)} (h : Slc I 1 (RBB I) v l) : RBs I v l := by
 refine ⟨Slc.flat (fun e : Value × List UInt8 => e.1) (fun x cs h => h.1) h, fun e he => ?_⟩
 obtain ⟨i, hi, rfl⟩ := List.getElem_of_mem he
 obtain ⟨A, cap, _, _, h3⟩ := h
 rcases h3 with rfl | ⟨b, kk, arr, T, fr, _, _, hel⟩
 ·cases hi
 ·exact (hel i _ (List.getElem?_eq_getElem hi)).2.2
/-- An Append, whatever it answers. -/
structure APX where
 e : Int
 hn : Nat
 hp : Nat
 x : Lg
 J : Imm
 L : Chunks
 b : Nat
def ApOk (x : Lg) (b : List UInt8) (e : Int) (hn hp : Nat) (x' : Lg) : Prop := (e ≠ 0 ∧ x' = x ∧ hn = 0 ∧ hp = 0) ∨ (e = 0 ∧ ∃ r : Rc, r.b = b ∧ x' = x.push r ∧ hn = x'.no ∧ hp = x'.pl)
theorem log_AppendX {I : Imm} {l s d n : Nat} {x : Lg} {y : Dk} {L : Chunks} (hl : IsLog I l s d n x y L) {hn hp : Nat} {kind : Int} {b : List UInt8} {vb : Value} (hb : SlRd (Im I) vb b.length 1 (bytesV b)) : Spec Try.prog 10 [.pointer (some ⟨l, 0, none⟩), .agg #[.int .i64 (hn : Int), .int .i64 (hp : Int)], .int .i64 kind, vb] I L (fun v J L' => ∃ (e : Int) (hn' hp' : Nat) (x' : Lg), v = .tuple #[.agg #[.int .i64 (hn' : Int), .int .i64 (hp' : Int)], .int .i64 e] ∧ e = x.apE hn hp kind b ∧ ApOk x b e hn' hp' x' ∧ IsLog J l s d n x' y L') :=
 (log_Append hl hb).mono (by
  rintro v J L' _ (⟨h1, h2, h3⟩ | ⟨h1, r, h2, h3, h4, h5⟩)
  ·exact ⟨_, 0, 0, x, h2, rfl, .inl ⟨h1, rfl, rfl, rfl⟩, h3⟩
  ·exact ⟨0, _, _, x.push r, h4, h1.symm, .inr ⟨rfl, r, h3, rfl, rfl, rfl⟩, h5⟩)
theorem push_last (x : Lg) (r : Rc) : ∃ h : x.rs.length < (x.push r).rs.length, (x.push r).rs[x.rs.length] = r := ⟨by show _ < (x.rs ++ [r]).length; rw [List.length_append]; simp, by simp [Lg.push]⟩
theorem log_Record_last {I : Imm} {l s d n : Nat} {x : Lg} {r : Rc} {y : Dk} {L : Chunks} (hl : IsLog I l s d n (x.push r) y L) (hlk : (x.push r).lo ≤ x.no) : Spec Try.prog 18 [.pointer (some ⟨l, 0, none⟩), .int .i64 ((x.no + 1 : Nat) : Int)] I L (fun v J L' => I = J ∧ ∃ vb Lc, v = .tuple #[.int .i64 r.kind, .int .i64 (x.pl : Int), vb, .bool true] ∧ Own 5 1 vb (bytesV r.b) r.b.length Lc ∧ L' = Lc ++ L) := by
 obtain ⟨hk, e⟩ := push_last x r
 have h := log_Record hl hk hlk
 rw [e, x.endP_push r (Nat.le_refl _), x.endP_len] at h
 exact h
theorem lo_zero {x : Lg} (h : x.mno = 0) : x.lo = 0 := by unfold Lg.lo; rw [h]; exact Nat.zero_min _
structure PLX where
 i : Nat
 x : Lg
 J : Imm
 L : Chunks
structure PLX.ok (I : Imm) (l s d n : Nat) (g : Sg) (m : Nat) (t : PLX) : Prop where
 le : t.i ≤ m
 hJ : I.le t.J
 hl : IsLog t.J l s d n t.x (Dk.new n) t.L
 b0 : t.x.base = 0
 m0 : t.x.mno = 0
 w0 : t.x.wr = 0
 gg : t.x.g = g

end Go.Hp
