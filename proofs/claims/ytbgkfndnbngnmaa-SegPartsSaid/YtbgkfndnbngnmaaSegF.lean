import Derived.Test.YtbgkfndnbngnmaaSegE
import Derived.Test.YtbgkfndnbngnmaaHpFlat
set_option linter.unusedVariables false
set_option linter.unusedSimpArgs false
namespace Go.Hp
open Go Go.Proofs

theorem WP.shareAll {n : Nat} {K : Act → World → Prop} {E : Env} {L1 : Chunks} : ∀ (Ls : Chunks) {I : Imm} {L : Chunks}, L.Perm (Ls ++ L1) → (∀ J : Imm, I.le J → (∀ p ∈ Ls, J.blk p.1 = some p.2) → WP n K E J L1) → WP n K E I L
  | [], I, L, hp, h => WP.perm _ hp (by simpa using h I (Imm.le_refl I) (fun p hp => by cases hp))
  | (b, o) :: Ls, I, L, hp, h => WP.perm _ hp (by
      rw [List.cons_append]
      exact WP.share fun J hJ hb => WP.shareAll Ls (List.Perm.refl _) fun J2 hJ2 hall => h J2 (Imm.le_trans hJ hJ2) fun p hp => by
        rcases List.mem_cons.1 hp with rfl | hp
        · exact hJ2.2 _ _ hb
        · exact hall p hp)
theorem Spec.lendL {P : Program} {f : FuncId} {args : List Value} {L0 : Chunks} {R : Value → Imm → Chunks → Prop} : ∀ (Ls : Chunks) {I : Imm}, (∀ J : Imm, I.le J → (∀ p ∈ Ls, J.blk p.1 = some p.2) → Spec P f args J L0 (fun v J' L' => J = J' ∧ R v I L')) →
    Spec P f args I (Ls ++ L0) (fun v J' L' => I = J' ∧ ∃ L1, L' = Ls ++ L1 ∧ R v I L1)
  | [], I, h => (h I (Imm.le_refl I) (fun p hp => by cases hp)).mono fun v J' L' _ ⟨h1, h2⟩ => ⟨h1, L', rfl, h2⟩
  | (b, o) :: Ls, I, h => (Spec.lend (R := fun v _ L1 => ∃ L2, L1 = Ls ++ L2 ∧ R v I L2) fun J hJ hb => (Spec.lendL (R := fun v _ L1 => R v I L1) Ls fun J2 hJ2 hall => h J2 (Imm.le_trans hJ hJ2) fun p hp => by
        rcases List.mem_cons.1 hp with rfl | hp
        · exact hJ2.2 _ _ hb
        · exact hall p hp).mono fun v J' L' _ ⟨h1, L1, h2, h3⟩ => ⟨h1, L1, h2, h3⟩).mono fun v J' L' _ ⟨h1, L1, h2, L2, h3, h4⟩ => ⟨h1, L2, by rw [h2, h3]; rfl, h4⟩
def pf (e : Pt × Value) : List Value := ptV e.1 e.2
theorem pf_len (e : Pt × Value) : (pf e).length = 6 := rfl
def pcells (l : List (Pt × Value)) : List Value := l.flatMap pf
theorem pcells_len (l : List (Pt × Value)) : (pcells l).length = l.length * 6 := flat_len pf_len l
theorem pcells_app (l m : List (Pt × Value)) : pcells (l ++ m) = pcells l ++ pcells m := flat_app l m
/-- A list of parts that is read alone. -/
structure RParts (J : Imm) (v : Value) (l : List (Pt × Value)) : Prop where
  rd : SlRd (Im J) v l.length 6 (pcells l)
  data : ∀ e ∈ l, SlRd (Im J) e.2 e.1.data.length 1 (bytesV e.1.data)
theorem RParts.mono {I J : Imm} {v : Value} {l : List (Pt × Value)} (h : RParts I v l) (hJ : I.le J) : RParts J v l := ⟨h.rd.mono fun b o hb => hJ.2 b o hb, fun e he => (h.data e he).mono fun b o hb => hJ.2 b o hb⟩
theorem RParts.nil (J : Imm) : RParts J (.slice none 0 0) [] := ⟨⟨none, 0, rfl, Nat.le_refl _, rfl, .inl rfl⟩, fun e he => by cases he⟩
inductive OData : List (Pt × Value) → Chunks → Prop
  | nil : OData [] []
  | cons {e : Pt × Value} {l : List (Pt × Value)} {La Lb : Chunks} (h : Own 5 1 e.2 (bytesV e.1.data) e.1.data.length La) (ht : OData l Lb) : OData (e :: l) (La ++ Lb)
theorem OData.snoc {e : Pt × Value} {Le : Chunks} (he : Own 5 1 e.2 (bytesV e.1.data) e.1.data.length Le) : ∀ {l : List (Pt × Value)} {L : Chunks}, OData l L → OData (l ++ [e]) (L ++ Le)
  | _, _, .nil => by have := OData.cons he .nil; simpa using this
  | _, _, .cons h ht => by have := OData.cons h (ht.snoc he); simpa [List.append_assoc] using this
theorem own_im {T sz n : Nat} {v : Value} {xs : List Value} {L : Chunks} (h : Own T sz v xs n L) {J : Imm} (hall : ∀ p ∈ L, J.blk p.1 = some p.2) : SlRd (Im J) v n sz xs := by
  cases h with
  | none0 => exact ⟨_, _, rfl, Nat.le_refl _, by simp, .inl rfl⟩
  | @blk b cap n xs sp h h2 h3 => exact ⟨_, _, rfl, h3, h, .inr ⟨b, 0, T, (0, 0), (xs ++ sp).toArray, rfl, hall _ (.head _), by simp⟩⟩
theorem OData.im : ∀ {l : List (Pt × Value)} {L : Chunks}, OData l L → ∀ {J : Imm}, (∀ p ∈ L, J.blk p.1 = some p.2) → ∀ e ∈ l, SlRd (Im J) e.2 e.1.data.length 1 (bytesV e.1.data)
  | _, _, .nil, J, _, e, he => by cases he
  | _, _, .cons h ht, J, hall, e, he => by
    rcases List.mem_cons.1 he with rfl | he
    · exact own_im h fun p hp => hall p (List.mem_append.2 (.inl hp))
    · exact ht.im (fun p hp => hall p (List.mem_append.2 (.inr hp))) e he
theorem RParts.own {v : Value} {l : List (Pt × Value)} {Lo Ld : Chunks} (ho : Own 35 6 v (pcells l) l.length Lo) (hd : OData l Ld) {J : Imm} (hall : ∀ p ∈ Lo ++ Ld, J.blk p.1 = some p.2) : RParts J v l :=
  ⟨own_im ho fun p hp => hall p (List.mem_append.2 (.inl hp)), hd.im fun p hp => hall p (List.mem_append.2 (.inr hp))⟩
theorem RParts.cells {J : Imm} {v : Value} {l : List (Pt × Value)} (h : RParts J v l) {i : Nat} (hi : i < l.length) : ∃ b k c T fr arr, v = .slice (some ⟨b, k, none⟩) l.length c ∧ J.blk b = some (.cells arr T fr) ∧ (arr.toList.drop (k + i * 6)).take 6 = ptV l[i].1 l[i].2 ∧ ∀ j v, (ptV l[i].1 l[i].2)[j]? = some v → arr[k + i * 6 + j]? = some v := by
  obtain ⟨b, k, c, T, fr, arr, rfl, hc, hb, hcs⟩ := h.rd.get (by omega)
  have e : (arr.toList.drop (k + i * 6)).take 6 = ptV l[i].1 l[i].2 := by
    have h2 := flat_seg pf_len hi []
    rw [List.append_nil, Nat.zero_add] at h2
    have h3 : pcells l = l.flatMap pf := rfl
    rw [← h3, ← hcs, List.drop_take, List.drop_drop, List.take_take, pcells_len] at h2
    have h4 : (i + 1) * 6 ≤ l.length * 6 := Nat.mul_le_mul_right _ hi
    rw [Nat.min_eq_left (by omega)] at h2
    exact h2
  refine ⟨b, k, c, T, fr, arr, rfl, hb, e, fun j v hv => ?_⟩
  have := take_cells e j v hv (by have := (List.getElem?_eq_some_iff.1 hv).1; exact this)
  rwa [Array.getElem?_toList] at this
theorem seg_mayQ {I : Imm} {p : Pt} {v : Value} (hv : SlRd (Im I) v p.data.length 1 (bytesV p.data)) : Spec Try.prog 32 [.agg (ptV p v).toArray] I [] (fun v J L => v = .bool (decide p.may) ∧ I = J ∧ L = []) :=
  (seg_may hv).mono (by
    rintro v J L _ ⟨b, rfl, hb, h1, h2⟩
    refine ⟨congrArg Value.bool ?_, h1, h2⟩
    cases b with
    | true => exact (decide_eq_true (hb.1 rfl)).symm
    | false => exact (decide_eq_false (fun h => by have := hb.2 h; cases this)).symm)
/-- A record's parts. -/
def pmanyOf (b : List UInt8) : Nat := (b.length + 197) / 198
def pcut (no place era : Int) (b : List UInt8) (m : Nat) (i : Nat) : Pt := ⟨place + i, no, i, era, m, (b.drop (i * 198)).take 198⟩
def pcutE (no place era : Int) (b : List UInt8) : Int :=
  if 12672 < b.length then 2 else if pmanyOf b = 0 ∨ place < 0 ∨ 1099511627776 - (pmanyOf b : Int) + 1 < place ∨ ¬ (⟨0, no, 0, era, 1, [0]⟩ : Pt).may then 1 else 0
def pcutL (no place era : Int) (b : List UInt8) : List Pt := if pcutE no place era b = 0 then (List.range (pmanyOf b)).map (pcut no place era b (pmanyOf b)) else []
structure PX2 where
  i : Nat
  v : Value
  vo : Value
  l : List (Pt × Value)
  Lo : Chunks
  Ld : Chunks
structure PX2.ok (I : Imm) (no place era : Int) (b : List UInt8) (m : Nat) (t : PX2) : Prop where
  le : t.i ≤ m
  rd : SlRd (Im I) t.v (b.drop (t.i * 198)).length 1 (bytesV (b.drop (t.i * 198)))
  ow : Own 35 6 t.vo (pcells t.l) t.l.length t.Lo
  od : OData t.l t.Ld
  eq : t.l.map (·.1) = (List.range t.i).map (pcut no place era b m)

end Go.Hp
