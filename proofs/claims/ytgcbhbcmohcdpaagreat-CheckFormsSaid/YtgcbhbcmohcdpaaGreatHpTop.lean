/-
  From a function's contract to the row of a law: what came in, and that it reads as it did.
-/
import Derived.Test.YtgcbhbcmohcdpaaGreatHpQuiet
import Derived.ProofKit
import Derived.OpenShut
import Derived.ShutString
import Derived.ChangeOld
import Derived.SizedLaws
set_option linter.unusedVariables false
set_option linter.unusedSimpArgs false
namespace Go.Hp
open Go Go.RowKit

/-- The world that a call begins in, as what it only reads. -/
def immOf (W : World) : Imm := ⟨W, fun b => W.heap[b]?⟩
theorem has_immOf (W : World) : Has (immOf W) [] W := ⟨rfl, rfl, rfl, .nil, fun _ h => (by cases h), fun _ h => (by cases h), fun _ _ h => h⟩
theorem below_of_has {W W' : World} {J : Imm} {L : Chunks} (hJ : (immOf W).le J) (h : Has J L W') : Below W.heap.size W W' := by
  have hk : ∀ k, k < W.heap.size → W'.heap[k]? = W.heap[k]? := fun k hk => by
    have : (immOf W).blk k = some W.heap[k] := by simp [immOf, hk]
    rw [h.imm _ _ (hJ.2 _ _ this)]; simp [hk]
  refine ⟨by rw [h.os, hJ.1]; rfl, by rw [h.tape, hJ.1]; rfl, by rw [h.output, hJ.1]; rfl, ?_, hk⟩
  rcases Nat.eq_zero_or_pos W.heap.size with h0 | h0
  · omega
  · have h1 := hk (W.heap.size - 1) (by omega)
    rw [Array.getElem?_eq_getElem (show W.heap.size - 1 < W.heap.size by omega)] at h1
    have := (Array.getElem?_eq_some_iff.1 h1).1
    omega
theorem Spec.top {P : Program} {f : FuncId} {args : List Value} {W : World} {R : Value → Imm → Chunks → Prop} {v : Value} (h : Spec P f args (immOf W) [] R) (hR : ∀ v' J L, R v' J L → v' = v) :
    Calls P f args.toArray W fun e W' => e = .returned v ∧ Below W.heap.size W W' :=
  (h [] W (by simpa using has_immOf W)).mono fun e W' ⟨v', J, L', he, hJ, hr, hh⟩ => ⟨by rw [he, hR _ _ _ hr], below_of_has hJ hh⟩

/-- A slice that came in reads as xs, each element by R. -/
def Slc {α : Type} (I : Imm) (sz : Nat) (R : α → List Value → Prop) (v : Value) (xs : List α) : Prop :=
  ∃ A cap, v = .slice A xs.length cap ∧ xs.length ≤ cap ∧ (xs = [] ∨ ∃ b k arr T fr, A = some ⟨b, k, none⟩ ∧ I.blk b = some (.cells arr T fr) ∧ ∀ i x, xs[i]? = some x → ((arr.toList.drop (k + i * sz)).take sz).length = sz ∧ R x ((arr.toList.drop (k + i * sz)).take sz))

theorem Slc.mono {α : Type} {I J : Imm} {sz : Nat} {R R' : α → List Value → Prop} {v : Value} {xs : List α} (h : Slc I sz R v xs) (hJ : I.le J) (hR : ∀ x cs, R x cs → R' x cs) : Slc J sz R' v xs := by
  obtain ⟨A, cap, h1, h2, h3⟩ := h
  refine ⟨A, cap, h1, h2, h3.imp id ?_⟩
  rintro ⟨b, k, arr, T, fr, h4, h5, h6⟩
  exact ⟨b, k, arr, T, fr, h4, hJ.2 _ _ h5, fun i x hx => ⟨(h6 i x hx).1, hR _ _ (h6 i x hx).2⟩⟩

theorem mapM_some {α β : Type} (f : α → Option β) : ∀ (l : List α) (r : List β), l.mapM f = some r → r.length = l.length ∧ ∀ i : Nat, r[i]? = (l[i]?).bind f
  | [], r, h => by simp at h; subst h; simp
  | a :: l, r, h => by
    simp only [List.mapM_cons, Option.bind_eq_bind, Option.pure_def, Option.bind_eq_some_iff, Option.some.injEq] at h
    obtain ⟨b, hb, s, hs, rfl⟩ := h
    obtain ⟨h1, h2⟩ := mapM_some f l s hs
    refine ⟨by simp [h1], fun i => ?_⟩
    cases i with
    | zero => simp [hb]
    | succ i => simpa using h2 i

theorem cell?_some {w : World} {a : Addr} {v : Value} (h : w.cell? a = some v) : a.spot = none ∧ ∃ arr T fr, w.heap[a.block]? = some (.cells arr T fr) ∧ arr[a.off]? = some v := by
  unfold World.cell? at h
  cases hb : w.heap[a.block]? with
  | none => simp [hb] at h
  | some o =>
    cases o with
    | cells arr T fr =>
      simp only [hb] at h
      by_cases hs : a.spot.isSome = true
      · simp [hs] at h
      · simp only [hs] at h
        exact ⟨by simpa using hs, arr, T, fr, rfl, by simpa using h⟩
    | _ => simp [hb] at h

theorem cells?_list {w : World} {a : Addr} {n : Nat} {cs : List Value} (h : w.cells? 0 a n = some cs) (hn : 0 < n) :
    ∃ arr T fr, a.spot = none ∧ w.heap[a.block]? = some (.cells arr T fr) ∧ cs = (arr.toList.drop a.off).take n ∧ cs.length = n := by
  unfold World.cells? at h
  simp only [Nat.zero_le, if_true] at h
  obtain ⟨h1, h2⟩ := mapM_some _ _ _ h
  simp only [List.length_range] at h1
  have h0 := h2 0
  have hc0 : cs[0]? = some cs[0] := by simp [h1, hn]
  rw [hc0] at h0
  have : w.cell? a = some cs[0] := by simpa [hn, Addr.add] using h0.symm
  obtain ⟨hs, arr, T, fr, hb, _⟩ := cell?_some this
  refine ⟨arr, T, fr, hs, hb, ?_, h1⟩
  have hcell : ∀ i, i < n → cs[i]? = arr[a.off + i]? := by
    intro i hi
    have := h2 i
    rw [List.getElem?_range hi] at this
    rw [this]
    obtain ⟨b, k, sp⟩ := a
    simp only at hs hb
    subst hs
    simp [add_at, World.cell?, hb]
  have hlt : a.off + n ≤ arr.size := by
    have := hcell (n - 1) (by omega)
    have h3 : cs[n - 1]? = some (cs[n - 1]'(by omega)) := by simp [h1]
    rw [h3] at this
    have := (Array.getElem?_eq_some_iff.1 this.symm).1
    omega
  apply List.ext_getElem?
  intro i
  by_cases hi : i < n
  · rw [hcell i hi, List.getElem?_take, if_pos hi, List.getElem?_drop]; simp
  · rw [List.getElem?_eq_none (by omega), List.getElem?_take, if_neg hi]

section
variable {H : Type} {enc : TypeId × Value → H} {P : Program} {W : World} {sp : Nat → Bool} {held : Bool}

def w_cells (W : World) (a : Addr) (sz i : Nat) (cs : List Value) : Prop := W.cells? 0 (a.add (i * sz)) sz = some cs

/-- A slice of what reads by R. -/
theorem open_slc {α : Type} {t e sz fuel : Nat} {cs : List Value} {x : DataW H × List MemPlace} (R : α → List Value → Prop) (D : α → DataW H → Prop) (ht : P.underlying t = some (.slice e)) (hsz : P.cellsOf e = sz) (h0 : 0 < sz)
    (hel : ∀ n cs x, DataW.trod enc P W 0 sp held n e cs = some x → cs.length = sz → ∃ a, R a cs ∧ D a x.1)
    (h : DataW.trod enc P W 0 sp held fuel t cs = some x) :
    ∃ (v : Value) (xs : List α), cs = [v] ∧ Slc (immOf W) sz R v xs ∧ ((x.1 = .nil ∧ xs = []) ∨ ∃ ds rest, x.1 = .slice ds rest ∧ ds.length = xs.length ∧ ∀ (i : Nat) (a : α), xs[i]? = some a → ∃ d, ds[i]? = some d ∧ D a d) := by
  rcases DataW.trod_slice ht h with ⟨rfl, rfl⟩ | ⟨a, len, cap, elems, rest, n, rfl, rfl, rfl, _, hlc, _, hlen, hel2, _, _⟩
  · exact ⟨_, [], rfl, ⟨none, 0, rfl, Nat.le_refl _, .inl rfl⟩, .inl ⟨rfl, rfl⟩⟩
  · subst hsz
    have each : ∀ i (hi : i < len), ∃ al, ∃ cs, w_cells W a (P.cellsOf e) i cs ∧ R al cs ∧ D al (elems[i]'(by omega)).1 := by
      intro i hi
      have h1 := hel2 i hi
      rw [List.getElem?_eq_getElem (by omega)] at h1
      simp only [Option.bind_eq_some_iff] at h1
      obtain ⟨cs, h2, h3⟩ := h1
      obtain ⟨arr, T, fr, _, _, _, h4⟩ := cells?_list h2 h0
      obtain ⟨al, h5, h6⟩ := hel n cs _ h3 h4
      exact ⟨al, cs, h2, h5, h6⟩
    let xs : List α := List.ofFn fun i : Fin len => Classical.choose (each i.1 i.2)
    have hxl : xs.length = len := by simp [xs]
    have hxi : ∀ i (hi : i < len), xs[i]? = some (Classical.choose (each i hi)) := fun i hi => by simp [xs, hi]
    refine ⟨_, xs, rfl, ⟨some a, cap, by rw [hxl], by omega, ?_⟩, .inr ⟨_, _, rfl, by simp [hxl, hlen], fun i al hal => ?_⟩⟩
    · rcases Nat.eq_zero_or_pos len with hz | hz
      · exact .inl (List.eq_nil_of_length_eq_zero (by omega))
      · right
        obtain ⟨cs0, hc0, _⟩ := Classical.choose_spec (each 0 hz)
        have hadd : a.add (0 * P.cellsOf e) = a := by simp [Addr.add]
        unfold w_cells at hc0
        rw [hadd] at hc0
        obtain ⟨arr, T, fr, hs, hb, _, _⟩ := cells?_list hc0 h0
        refine ⟨a.block, a.off, arr, T, fr, by rw [← hs], hb, fun i al hal => ?_⟩
        have hi : i < len := by rw [← hxl]; exact (List.getElem?_eq_some_iff.1 hal).1
        rw [hxi i hi] at hal
        have hal := Option.some.inj hal
        obtain ⟨cs, hc, hR, _⟩ := Classical.choose_spec (each i hi)
        rw [hal] at hR
        unfold w_cells at hc
        have haddi : a.add (i * P.cellsOf e) = ⟨a.block, a.off + i * P.cellsOf e, none⟩ := by
          rw [← add_at]; congr 1; rw [← hs]
        rw [haddi] at hc
        obtain ⟨arr', T', fr', _, hb', hcs, hcl⟩ := cells?_list hc h0
        simp only at hb' hcs
        rw [hb] at hb'
        injection hb' with hb'
        injection hb' with e1 e2 e3
        subst e1
        rw [← hcs]
        exact ⟨hcl, hR⟩
    · have hi : i < len := by rw [← hxl]; exact (List.getElem?_eq_some_iff.1 hal).1
      rw [hxi i hi] at hal
      have hal := Option.some.inj hal
      obtain ⟨cs, _, _, hD⟩ := Classical.choose_spec (each i hi)
      rw [hal] at hD
      exact ⟨_, by simp [List.getElem?_eq_getElem (show i < elems.length by omega)], hD⟩
end

/-! What the elements of a slice that came in may be: a number; a struct of numbers of kind int64. -/
def i64Fields (P : Program) : List Field → Nat → Bool
  | [], _ => true
  | f :: fs, i => Nat.beq f.offset i && (match P.underlying f.type with | some (.int .i64) => true | _ => false) && Nat.beq (P.cellsOf f.type) 1 && i64Fields P fs (i + 1)
def i64Struct (P : Program) (t m : Nat) : Bool := match P.underlying t with
  | some (.struct fs) => Nat.beq fs.size m && i64Fields P fs.toList 0
  | _ => false
theorem i64Fields_at {P : Program} : ∀ (fs : List Field) (i j : Nat) (f : Field), i64Fields P fs i = true → fs[j]? = some f → f.offset = i + j ∧ P.underlying f.type = some (.int .i64) ∧ P.cellsOf f.type = 1
  | [], _, _, _, _, h => by simp at h
  | g :: fs, i, j, f, hf, h => by
    simp only [i64Fields, Bool.and_eq_true] at hf
    obtain ⟨⟨⟨h1, h2⟩, h3⟩, h4⟩ := hf
    cases j with
    | zero =>
      simp at h; subst h
      refine ⟨Nat.eq_of_beq_eq_true h1, ?_, Nat.eq_of_beq_eq_true h3⟩
      split at h2
      · assumption
      · cases h2
    | succ j =>
      simp at h
      have := i64Fields_at fs (i + 1) j f h4 h
      exact ⟨by omega, this.2⟩

section
variable {H : Type} {enc : TypeId × Value → H} {P : Program} {W : World} {sp : Nat → Bool} {held : Bool}
theorem elem_int {e : Nat} {k : IntKind} (he : P.underlying e = some (.int k)) (n : Nat) (cs : List Value) (x : DataW H × List MemPlace) (h : DataW.trod enc P W 0 sp held n e cs = some x) (_ : cs.length = 1) :
    ∃ a : Int, (cs = [.int k a] ∧ (Lit.int k a).wf = true) ∧ True := by
  obtain ⟨m, rfl, _, hw⟩ := DataW.trod_int he h
  exact ⟨m, ⟨rfl, hw⟩, trivial⟩
theorem elem_i64s {e m : Nat} (he : i64Struct P e m = true) (n : Nat) (cs : List Value) (x : DataW H × List MemPlace) (h : DataW.trod enc P W 0 sp held n e cs = some x) (hl : cs.length = m) :
    ∃ zs : List Int, zs.length = m ∧ cs = zs.map (.int .i64) ∧ ∀ z ∈ zs, (Lit.int .i64 z).wf = true := by
  unfold i64Struct at he
  cases hu : P.underlying e with
  | none => simp [hu] at he
  | some d =>
    cases d <;> simp only [hu] at he <;> try (cases he)
    rename_i fs
    simp only [Bool.and_eq_true] at he
    obtain ⟨h1, h2⟩ := he
    have hfs : fs.size = m := Nat.eq_of_beq_eq_true h1
    obtain ⟨xs, n', rfl, rfl, _, hxl, hel⟩ := DataW.trod_struct hu h
    have each : ∀ i (hi : i < m), ∃ z : Int, cs[i]? = some (.int .i64 z) ∧ (Lit.int .i64 z).wf = true := by
      intro i hi
      have hf : fs[i]? = some fs[i] := by simp [hfs, hi]
      obtain ⟨e1, e2, e3⟩ := i64Fields_at fs.toList 0 i fs[i] h2 (by simp [hfs, hi])
      have := hel i fs[i] hf
      rw [e1, e3, List.getElem?_eq_getElem (by omega)] at this
      obtain ⟨z, hz, _, hw⟩ := DataW.trod_int e2 this
      refine ⟨z, ?_, hw⟩
      have h0 : (List.take 1 (List.drop (0 + i) cs))[0]? = some (.int .i64 z) := by rw [hz]; rfl
      rw [List.getElem?_take, if_pos (by omega), List.getElem?_drop] at h0
      simpa using h0
    refine ⟨List.ofFn fun i : Fin m => Classical.choose (each i.1 i.2), by simp, ?_, ?_⟩
    · apply List.ext_getElem?
      intro i
      by_cases hi : i < m
      · rw [(Classical.choose_spec (each i hi)).1]; simp [hi]
      · rw [List.getElem?_eq_none (by omega), List.getElem?_eq_none (by simp; omega)]
    · intro z hz
      obtain ⟨i, rfl⟩ := List.mem_ofFn.1 hz
      exact (Classical.choose_spec (each i.1 i.2)).2
end
end Go.Hp
