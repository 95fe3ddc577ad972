/-
  A separation-logic layer over the walk's own rules: what a call owns is a list of blocks, what it only reads is a partial view of the heap.
-/
import Derived.WalkKit
import Derived.OrdersHeld
import Derived.Below
import Derived.Deep.Draws
set_option linter.unusedVariables false
set_option linter.unusedSimpArgs false
namespace Go.Hp
open Go

/-- A block that is owned: its number and what it is. -/
abbrev Chunks := List (Nat × Obj)

/-- A row of cells of elements of type T. -/
def row (T : TypeId) (l : List Value) : Obj := .cells l.toArray T (0, 0)

/-- What is read alone: a part of the heap that never changes, and the world's other parts. -/
structure Imm where
  base : World
  blk : Nat → Option Obj

def Imm.le (I J : Imm) : Prop := J.base = I.base ∧ ∀ b o, I.blk b = some o → J.blk b = some o
theorem Imm.le_refl (I : Imm) : I.le I := ⟨rfl, fun _ _ h => h⟩
theorem Imm.le_trans {I J K : Imm} (h : I.le J) (k : J.le K) : I.le K := ⟨k.1.trans h.1, fun b o hb => k.2 b o (h.2 b o hb)⟩

structure Has (I : Imm) (L : Chunks) (W : World) : Prop where
  os : W.os = I.base.os
  tape : W.tape = I.base.tape
  output : W.output = I.base.output
  nodup : (L.map (·.1)).Nodup
  own : ∀ p ∈ L, W.heap[p.1]? = some p.2
  apart : ∀ p ∈ L, I.blk p.1 = none
  imm : ∀ b o, I.blk b = some o → W.heap[b]? = some o

theorem Has.perm {I : Imm} {L L' : Chunks} {W : World} (h : Has I L W) (p : L.Perm L') : Has I L' W where
  os := h.os
  tape := h.tape
  output := h.output
  nodup := (p.map _).nodup_iff.1 h.nodup
  own := fun q hq => h.own q (p.mem_iff.2 hq)
  apart := fun q hq => h.apart q (p.mem_iff.2 hq)
  imm := h.imm

theorem Has.sublist {I : Imm} {L L' : Chunks} {W : World} (h : Has I L W) (s : L'.Sublist L) : Has I L' W where
  os := h.os
  tape := h.tape
  output := h.output
  nodup := (s.map _).nodup h.nodup
  own := fun q hq => h.own q (s.subset hq)
  apart := fun q hq => h.apart q (s.subset hq)
  imm := h.imm

/-- What is left of F' when some of it is dropped. -/
inductive Leave : Chunks → Chunks → Prop
  | done {F : Chunks} : Leave F F
  | drop {F F' : Chunks} {c : Nat × Obj} (h : Leave F' F) : Leave (c :: F') F
  | dropS {F F' S : Chunks} (h : Leave F' F) : Leave (S ++ F') F
theorem Leave.sub {F' F : Chunks} (h : Leave F' F) : F.Sublist F' := by
  induction h with
  | done => exact .refl _
  | drop _ ih => exact ih.cons _
  | dropS _ ih => exact ih.trans (List.sublist_append_right _ _)

/-- L is S and L' together. -/
inductive Rm : Chunks → Chunks → Chunks → Prop
  | here {S L : Chunks} : Rm (S ++ L) S L
  | chunk {b : Nat} {o : Obj} {L : Chunks} : Rm ((b, o) :: L) [(b, o)] L
  | skipS {S S' L L' : Chunks} (h : Rm L S L') : Rm (S' ++ L) S (S' ++ L')
  | skip {S L L' : Chunks} {c : Nat × Obj} (h : Rm L S L') : Rm (c :: L) S (c :: L')
theorem Rm.perm {L S L' : Chunks} (h : Rm L S L') : L.Perm (S ++ L') := by
  induction h with
  | here => exact .refl _
  | chunk => exact .refl _
  | @skipS S S' L L' h ih =>
    refine ((List.Perm.append_left S' ih)).trans ?_; rw [← List.append_assoc, ← List.append_assoc]
    exact List.Perm.append_right _ List.perm_append_comm
  | @skip S L L' c h ih => exact (List.Perm.cons c ih).trans List.perm_middle.symm
theorem Rm.nil0 {L : Chunks} : Rm L [] L := Rm.here (S := [])
/-- L is what a contract asks, and F. -/
inductive Take : Chunks → Chunks → Chunks → Prop
  | nil {L : Chunks} : Take L [] L
  | cons {L L1 L0 F : Chunks} {c : Nat × Obj} (h : Rm L [c] L1) (k : Take L1 L0 F) : Take L (c :: L0) F
  | app {L L1 L0 F S : Chunks} (h : Rm L S L1) (k : Take L1 L0 F) : Take L (S ++ L0) F
  | all {L L0 F : Chunks} (h : Rm L L0 F) : Take L L0 F
theorem Take.perm {L L0 F : Chunks} (h : Take L L0 F) : L.Perm (L0 ++ F) := by
  induction h with
  | nil => exact .refl _
  | cons h k ih => exact h.perm.trans (List.Perm.cons _ ih)
  | @app L L1 L0 F S h k ih =>
    refine h.perm.trans ?_; rw [List.append_assoc]
    exact List.Perm.append_left S ih
  | all h => exact h.perm

/-- L is L' in another order, with what is not needed left. -/
inductive PX : Chunks → Chunks → Prop
  | done {L L' : Chunks} (h : Leave L L') : PX L L'
  | cons {L L1 L' : Chunks} {c : Nat × Obj} (h : Rm L [c] L1) (k : PX L1 L') : PX L (c :: L')
  | app {L L1 L' S : Chunks} (h : Rm L S L1) (k : PX L1 L') : PX L (S ++ L')
theorem PX.has {I : Imm} {W : World} {L L' : Chunks} (h : PX L L') (hW : Has I L W) : Has I L' W := by
  suffices key : ∀ A : Chunks, Has I (A ++ L) W → Has I (A ++ L') W by simpa using key [] (by simpa using hW)
  clear hW
  induction h with
  | done h => exact fun A hA => hA.sublist (List.Sublist.append (.refl A) h.sub)
  | @cons L L1 L' c h k ih =>
    intro A hA
    have h1 : Has I ((A ++ [c]) ++ L1) W := by
      have := hA.perm (List.Perm.append_left A h.perm)
      simpa using this
    simpa using ih (A ++ [c]) h1
  | @app L L1 L' S h k ih =>
    intro A hA
    have h1 : Has I ((A ++ S) ++ L1) W := by
      have := hA.perm (List.Perm.append_left A h.perm)
      simpa using this
    simpa using ih (A ++ S) h1
theorem Has.drew {I : Imm} {L : Chunks} {W : World} (h : Has I L W) : Has I L { W with drawn := W.drawn + 1 } :=
  ⟨h.os, h.tape, h.output, h.nodup, h.own, h.apart, h.imm⟩

theorem heap_alloc_old (W : World) (o : Obj) (c : Nat) (h : c < W.heap.size) : (W.alloc o).heap[c]? = W.heap[c]? := by
  show (W.heap.push o)[c]? = _
  rw [Array.getElem?_push, if_neg (Nat.ne_of_lt h)]

/-- A new block. -/
theorem Has.alloc {I : Imm} {L : Chunks} {W : World} (h : Has I L W) (o : Obj) : Has I ((W.heap.size, o) :: L) (W.alloc o) where
  os := h.os
  tape := h.tape
  output := h.output
  nodup := by
    simp only [List.map_cons, List.nodup_cons]
    refine ⟨fun hm => ?_, h.nodup⟩
    obtain ⟨p, hp, he⟩ := List.mem_map.1 hm
    have := (Array.getElem?_eq_some_iff.1 (h.own p hp)).1
    omega
  own := by
    intro p hp
    rcases List.mem_cons.1 hp with rfl | hp
    · exact heap_alloc_new W o
    · have hlt := (Array.getElem?_eq_some_iff.1 (h.own p hp)).1
      exact (heap_alloc_old W o p.1 hlt).trans (h.own p hp)
  apart := by
    intro p hp
    rcases List.mem_cons.1 hp with rfl | hp
    · cases hb : I.blk W.heap.size with
      | none => rfl
      | some o' =>
        have := (Array.getElem?_eq_some_iff.1 (h.imm _ _ hb)).1
        omega
    · exact h.apart p hp
  imm := by
    intro b o' hb
    have hlt := (Array.getElem?_eq_some_iff.1 (h.imm _ _ hb)).1
    exact (heap_alloc_old W o b hlt).trans (h.imm _ _ hb)

/-- The block b, which is o, becomes o'. -/
inductive Upd : Chunks → Nat → Obj → Obj → Chunks → Prop
  | head {b : Nat} {o o' : Obj} {L : Chunks} : Upd ((b, o) :: L) b o o' ((b, o') :: L)
  | tail {p : Nat × Obj} {b : Nat} {o o' : Obj} {L L' : Chunks} (h : Upd L b o o' L') : Upd (p :: L) b o o' (p :: L')

theorem Upd.tailS {S : Chunks} {b : Nat} {o o' : Obj} {L L' : Chunks} (h : Upd L b o o' L') : Upd (S ++ L) b o o' (S ++ L') := by
  induction S with
  | nil => exact h
  | cons p S ih => exact .tail ih
theorem Upd.mem {L L' : Chunks} {b : Nat} {o o' : Obj} (h : Upd L b o o' L') : (b, o) ∈ L := by
  induction h with
  | head => exact .head _
  | tail _ ih => exact .tail _ ih
theorem Upd.keys {L L' : Chunks} {b : Nat} {o o' : Obj} (h : Upd L b o o' L') : L'.map (·.1) = L.map (·.1) := by
  induction h with
  | head => rfl
  | tail _ ih => simp only [List.map_cons, ih]
theorem Upd.mem' {L L' : Chunks} {b : Nat} {o o' : Obj} (h : Upd L b o o' L') (hn : (L.map (·.1)).Nodup) : ∀ p ∈ L', (p = (b, o')) ∨ (p ∈ L ∧ p.1 ≠ b) := by
  induction h with
  | @head b o o' L =>
    intro p hp
    simp only [List.map_cons, List.nodup_cons] at hn
    rcases List.mem_cons.1 hp with rfl | hp
    · exact .inl rfl
    · exact .inr ⟨.tail _ hp, fun he => hn.1 (he ▸ List.mem_map_of_mem hp)⟩
  | @tail q b o o' L L' h ih =>
    intro p hp
    simp only [List.map_cons, List.nodup_cons] at hn
    rcases List.mem_cons.1 hp with rfl | hp
    · refine .inr ⟨.head _, fun he => hn.1 ?_⟩
      rw [he]; exact List.mem_map_of_mem (f := (·.1)) h.mem
    · rcases ih hn.2 p hp with rfl | ⟨h1, h2⟩
      · exact .inl rfl
      · exact .inr ⟨.tail _ h1, h2⟩

/-- A world in which one owned block alone has changed. -/
theorem Has.upd {I : Imm} {L L' : Chunks} {W W' : World} {b : Nat} {o o' : Obj} (h : Has I L W) (u : Upd L b o o' L')
    (hos : W'.os = W.os) (htape : W'.tape = W.tape) (hout : W'.output = W.output) (hb : W'.heap[b]? = some o')
    (hne : ∀ c, c ≠ b → W'.heap[c]? = W.heap[c]?) : Has I L' W' where
  os := hos.trans h.os
  tape := htape.trans h.tape
  output := hout.trans h.output
  nodup := by rw [u.keys]; exact h.nodup
  own := by
    intro p hp
    rcases u.mem' h.nodup p hp with rfl | ⟨h1, h2⟩
    · exact hb
    · exact (hne _ h2).trans (h.own p h1)
  apart := by
    intro p hp
    rcases u.mem' h.nodup p hp with rfl | ⟨h1, _⟩
    · exact h.apart (b, o) u.mem
    · exact h.apart p h1
  imm := by
    intro c o'' hc
    refine (hne c ?_).trans (h.imm c o'' hc)
    intro he
    subst he
    rw [h.apart _ u.mem] at hc
    cases hc

/-- Owned blocks that nobody changes any more become read alone. -/
theorem Has.share {I : Imm} {L : Chunks} {W : World} {b : Nat} {o : Obj} (h : Has I ((b, o) :: L) W) :
    ∃ J : Imm, I.le J ∧ J.blk b = some o ∧ Has J L W := by
  refine ⟨⟨I.base, fun c => if c = b then some o else I.blk c⟩, ⟨rfl, fun c o' hc => ?_⟩, by simp, ?_⟩
  · have := h.apart _ (List.mem_cons_self)
    by_cases e : c = b
    · subst e; rw [this] at hc; cases hc
    · simp [e, hc]
  · have hn := h.nodup
    simp only [List.map_cons, List.nodup_cons] at hn
    refine ⟨h.os, h.tape, h.output, hn.2, fun p hp => h.own p (.tail _ hp), fun p hp => ?_, fun c o' hc => ?_⟩
    · have hne : p.1 ≠ b := fun he => hn.1 (he ▸ List.mem_map_of_mem hp)
      simp [hne, h.apart p (.tail _ hp)]
    · by_cases e : c = b
      · subst e; simp only [if_true] at hc; cases hc; exact h.own _ (.head _)
      · simp only [e, if_false] at hc; exact h.imm _ _ hc

/-- What is there to be read at block b. -/
def There (I : Imm) (L : Chunks) (b : Nat) (o : Obj) : Prop := (b, o) ∈ L ∨ I.blk b = some o
theorem There.heap {I : Imm} {L : Chunks} {W : World} {b : Nat} {o : Obj} (t : There I L b o) (h : Has I L W) : W.heap[b]? = some o :=
  t.elim (h.own _) (h.imm _ _)

/-! The slots. -/
abbrev Env := List (Nat × Value)
def Env.get : Env → Nat → Option Value
  | [], _ => none
  | (j, v) :: t, i => bif Nat.beq i j then some v else Env.get t i
def Env.ev (E : Env) : Operand → Option Value
  | .tmp t => E.get t
  | .const v => some v
  | .global g => some (.pointer (some ⟨g, 0, none⟩))
  | .func f => some (.func (.func f) #[] #[])
theorem beqF {i j : Nat} (h : ¬ i = j) : Nat.beq i j = false := by
  cases hb : Nat.beq i j with
  | false => rfl
  | true => exact absurd (Nat.eq_of_beq_eq_true hb) h
theorem Env.get_cons (E : Env) (i j : Nat) (v : Value) : Env.get ((i, v) :: E) j = if j = i then some v else E.get j := by
  by_cases h : j = i
  · subst h; simp [Env.get]
  · have := beqF h
    simp [Env.get, this, h]

structure EnvOk (n : Nat) (E : Env) (a : Act) : Prop where
  defers : a.defers = []
  size : a.tmps.size = n
  get : ∀ i v, E.get i = some v → a.tmps[i]? = some v

theorem EnvOk.put {n : Nat} {E : Env} {a : Act} (h : EnvOk n E a) {d : Nat} (hd : Nat.blt d n = true) (v : Value) : EnvOk n ((d, v) :: E) (a.put (some d) v) where
  defers := h.defers
  size := by simpa [Act.put] using h.size
  get := by
    intro i u hu
    have hd' : d < n := by simpa [Nat.blt_eq] using hd
    rw [Env.get_cons] at hu
    by_cases he : i = d
    · subst he
      simp only [if_true, Option.some.injEq] at hu
      subst hu
      simp [Act.put, h.size, hd']
    · simp only [he, if_false] at hu
      simp only [Act.put]
      rw [Array.getElem?_setIfInBounds_ne (Ne.symm he)]
      exact h.get i u hu

theorem EnvOk.ev {n : Nat} {E : Env} {a : Act} (h : EnvOk n E a) {x : Operand} {v : Value} (hx : E.ev x = some v) : a.eval x = v := by
  cases x with
  | tmp t => have := h.get t v hx; simp [Act.eval, this]
  | const u => simpa [Env.ev, Act.eval] using hx
  | global g => simpa [Env.ev, Act.eval] using hx
  | func f => simpa [Env.ev, Act.eval] using hx

/-- Each slot of the first is one of the second. -/
def Env.Sub : Env → Env → Prop
  | [], _ => True
  | (i, v) :: t, E => E.get i = some v ∧ Env.Sub t E
theorem Env.Sub.get : ∀ {E0 E : Env}, E0.Sub E → ∀ i v, E0.get i = some v → E.get i = some v
  | [], _, _, _, _, h => by simp [Env.get] at h
  | (j, u) :: t, E, hs, i, v, h => by
    simp only [Env.get] at h
    by_cases he : i = j
    · subst he; simp at h; subst h; exact hs.1
    · have : Nat.beq i j = false := beqF he
      rw [this] at h; exact hs.2.get i v h
theorem EnvOk.sub {n : Nat} {E0 E : Env} {a : Act} (h : EnvOk n E a) (s : E0.Sub E) : EnvOk n E0 a := ⟨h.defers, h.size, fun i v hv => h.get i v (s.get i v hv)⟩

/-- In every state with these slots and these blocks. -/
structure WP (n : Nat) (K : Act → World → Prop) (E : Env) (I : Imm) (L : Chunks) : Prop where
  out : ∀ a W, EnvOk n E a → Has I L W → K a W

section
variable {P : Program} {n : Nat} {E E' : Env} {I J : Imm} {L L' : Chunks} {K K' : Act → World → Prop} {Q : Exit → Act → World → Prop}

theorem WP.sub (E0 : Env) (h : WP n K E0 I L) (s : E0.Sub E) : WP n K E I L := .mk fun a W ha hW => h.out a W (ha.sub s) hW
theorem WP.perm (L' : Chunks) (p : L.Perm L') (h : WP n K E I L') : WP n K E I L := .mk fun a W ha hW => h.out a W ha (hW.perm p)
theorem WP.mono (h : WP n K E I L) (hk : ∀ a W, K a W → K' a W) : WP n K' E I L := .mk fun a W ha hW => hk a W (h.out a W ha hW)
theorem WP.share {b : Nat} {o : Obj} (h : ∀ J : Imm, I.le J → J.blk b = some o → WP n K E J L) : WP n K E I ((b, o) :: L) := .mk fun a W ha hW =>
  let ⟨J, hJ, hb, hW'⟩ := hW.share
  (h J hJ hb).out a W ha hW'

theorem WP.seq {x y : Code} (h : WP n (x.wp P (Exit.then (y.wp P Q) Q)) E I L) : WP n ((Code.seq x y).wp P Q) E I L := .mk fun a W ha hW => wp_seq (h.out a W ha hW)
theorem WP.skip (h : WP n (fun a w => Q .normal a w) E I L) : WP n (Code.skip.wp P Q) E I L := .mk fun a W ha hW => wp_skip (h.out a W ha hW)
theorem WP.ret (h : WP n (fun a w => Q .ret a w) E I L) : WP n (Code.ret.wp P Q) E I L := .mk fun a W ha hW => wp_ret (h.out a W ha hW)
theorem WP.exit {id : Nat} (h : WP n (fun a w => Q (.exit id) a w) E I L) : WP n ((Code.exit id).wp P Q) E I L := .mk fun a W ha hW => wp_exit (h.out a W ha hW)
theorem WP.block {id : Nat} {c : Code} (h : WP n (c.wp P (Exit.inBlock id Q)) E I L) : WP n ((Code.block id c).wp P Q) E I L := .mk fun a W ha hW => wp_block (h.out a W ha hW)
theorem WP.cond {c : Operand} {x y : Code} {t : Bool} (hc : E.ev c = some (.bool t)) (ht : t = true → WP n (x.wp P Q) E I L) (hf : t = false → WP n (y.wp P Q) E I L) :
    WP n ((Code.cond c x y).wp P Q) E I L := .mk fun a W ha hW => wp_cond_split (ha.ev hc) (fun h => (ht h).out a W ha hW) (fun h => (hf h).out a W ha hW)
theorem WP.condT {c : Operand} {x y : Code} (hc : E.ev c = some (.bool true)) (h : WP n (x.wp P Q) E I L) : WP n ((Code.cond c x y).wp P Q) E I L := .mk fun a W ha hW => wp_cond_true (ha.ev hc) (h.out a W ha hW)
theorem WP.condF {c : Operand} {x y : Code} (hc : E.ev c = some (.bool false)) (h : WP n (y.wp P Q) E I L) : WP n ((Code.cond c x y).wp P Q) E I L := .mk fun a W ha hW => wp_cond_false (ha.ev hc) (h.out a W ha hW)
theorem WP.next (h : WP n K E I L) : WP n (fun a w => Exit.then K Q .normal a w) E I L := h
theorem WP.leave {id : Nat} (h : WP n (fun a w => Q .normal a w) E I L) : WP n (fun a w => Exit.inBlock id Q .normal a w) E I L := h
theorem WP.thenE {id : Nat} (h : WP n (fun a w => Q (.exit id) a w) E I L) : WP n (fun a w => Exit.then K Q (.exit id) a w) E I L := h
theorem WP.hit {id : Nat} (h : WP n (fun a w => Q .normal a w) E I L) : WP n (fun a w => Exit.inBlock id Q (.exit id) a w) E I L := .mk fun a W ha hW => by
  simp only [Exit.inBlock, if_true]; exact h.out a W ha hW
theorem WP.miss {id id' : Nat} (hne : Nat.beq id' id = false) (h : WP n (fun a w => Q (.exit id') a w) E I L) : WP n (fun a w => Exit.inBlock id Q (.exit id') a w) E I L := .mk fun a W ha hW => by
  have : id' ≠ id := fun e => by subst e; simp at hne
  simp only [Exit.inBlock, this, if_false]; exact h.out a W ha hW

/-- A loop: its states are told by x; μ falls. -/
theorem WP.loop {X : Type} {c : Code} (E0 : X → Env) (I0 : X → Imm) (L0 : X → Chunks) (pre : X → Prop) (μ : X → Nat) (x0 : X) (h0 : pre x0) (hE : (E0 x0).Sub E) (hI : I = I0 x0) (hL : PX L (L0 x0))
    (round : ∀ x, pre x → WP n (c.wp P (Exit.then (fun a w => ∃ y, pre y ∧ μ y < μ x ∧ EnvOk n (E0 y) a ∧ Has (I0 y) (L0 y) w) Q)) (E0 x) (I0 x) (L0 x)) :
    WP n ((Code.loop c).wp P Q) E I L := by
  refine .mk fun a w ha hW b k cs => ?_; have key : ∀ m x a w, μ x = m → pre x → EnvOk n (E0 x) a → Has (I0 x) (L0 x) w →
      ∃ e a' w', Q e a' w' ∧ Arrives P (lone (b.at a (.code c :: .inLoop c :: k)) cs w) b k cs e a' w' := by
    intro m
    induction m using Nat.strongRecOn with
    | _ m ih =>
      intro x a w hm hp hE hL
      obtain ⟨e, a₁, w₁, hq, harr⟩ := (round x hp).out a w hE hL b (.inLoop c :: k) cs
      cases e with
      | normal =>
        obtain ⟨y, hy, hlt, hE1, hL1⟩ := hq
        obtain ⟨e₂, a₂, w₂, hq₂, harr₂⟩ := ih (μ y) (hm ▸ hlt) y a₁ w₁ rfl hy hE1 hL1
        exact ⟨e₂, a₂, w₂, hq₂, .of_steps (Steps.trans harr (.one step_inLoop)) harr₂⟩
      | exit id => exact ⟨_, a₁, w₁, hq, .pass (x := .inLoop c) rfl (fun _ _ => .inl (by simp)) harr⟩
      | goto l => exact ⟨_, a₁, w₁, hq, .pass (x := .inLoop c) rfl (fun _ _ => .inl (by simp)) harr⟩
      | ret => exact ⟨_, a₁, w₁, hq, .pass (x := .inLoop c) rfl (fun _ _ => .inl (by simp)) harr⟩
      | panic ch => exact ⟨_, a₁, w₁, hq, .pass (x := .inLoop c) rfl (fun _ _ => .inl (by simp)) harr⟩
      | outgrown => exact ⟨_, a₁, w₁, hq, .pass (x := .inLoop c) rfl (fun _ _ => .inl (by simp)) harr⟩
  subst hI
  obtain ⟨e, a', w', hq, harr⟩ := key _ x0 a w rfl h0 (ha.sub hE) (hL.has hW)
  exact ⟨e, a', w', hq, .of_steps (.one step_loop) harr⟩

/-- The end of a round. -/
theorem WP.again {X : Type} {E0 : X → Env} {I0 : X → Imm} {L0 : X → Chunks} {pre : X → Prop} {μ : X → Nat} {m : Nat} (y : X) (hp : pre y) (hμ : μ y < m) (hE : (E0 y).Sub E) (hI : I = I0 y) (hL : PX L (L0 y)) :
    WP n (fun a w => Exit.then (fun a w => ∃ y, pre y ∧ μ y < m ∧ EnvOk n (E0 y) a ∧ Has (I0 y) (L0 y) w) Q .normal a w) E I L := by
  subst hI
  exact .mk fun a w ha hW => ⟨y, hp, hμ, ha.sub hE, hL.has hW⟩

/-- Where ways meet again: the states behind x are told by t. -/
theorem WP.cut {X : Type} {x y : Code} (E0 : X → Env) (I0 : X → Imm) (L0 : X → Chunks) (pre : X → Prop)
    (h : WP n (x.wp P (Exit.then (fun a w => ∃ t, pre t ∧ EnvOk n (E0 t) a ∧ Has (I0 t) (L0 t) w) Q)) E I L)
    (k : ∀ t, pre t → WP n (y.wp P Q) (E0 t) (I0 t) (L0 t)) : WP n ((Code.seq x y).wp P Q) E I L := .mk fun a W ha hW =>
  wp_seq (wp_mono (h.out a W ha hW) fun e a w q => by
    cases e with
    | normal => obtain ⟨t, hp, hE, hL⟩ := q; exact (k t hp).out a w hE hL
    | _ => exact q)
theorem WP.meet {X : Type} {E0 : X → Env} {I0 : X → Imm} {L0 : X → Chunks} {pre : X → Prop} (t : X) (hp : pre t) (hE : (E0 t).Sub E) (hI : I = I0 t) (hL : PX L (L0 t)) :
    WP n (fun a w => Exit.then (fun a w => ∃ t, pre t ∧ EnvOk n (E0 t) a ∧ Has (I0 t) (L0 t) w) Q .normal a w) E I L := by
  subst hI
  exact .mk fun a w ha hW => ⟨t, hp, ha.sub hE, hL.has hW⟩

/-! Regions. -/
variable {ops : Array Oper}
theorem WP.region {id : Nat} (l : List Nat) (hl : List.range ops.size = l) (h : WP n (wpOps P ops Q l) E I L) : WP n ((Code.region id ops false).wp P Q) E I L := .mk fun a W ha hW =>
  wp_region (by rw [hl]; exact h.out a W ha hW)
theorem WP.cons {i : Nat} {r : List Nat} (h : WP n (wpOp P ops Q i (wpOps P ops Q r)) E I L) : WP n (wpOps P ops Q (i :: r)) E I L := .mk fun a W ha hW => by
  rw [wpOps_cons]; exact h.out a W ha hW
theorem WP.nil (h : WP n (fun a w => Q .normal a w) E I L) : WP n (wpOps P ops Q []) E I L := h

/-- One operation, whose guard (if it has one) lets it go. -/
theorem WP.oper {i : Nat} {o : Oper} (ho : ops[i]? = some o) (hg : o.guard = none)
    (h : WP n (fun a w => o.wp P a w K Q) E I L) : WP n (wpOp P ops Q i K) E I L := .mk fun a W ha hW => by
  unfold wpOp
  simp only [ho, Region.wanted, hg, if_true]
  exact .inl (h.out a W ha hW)
theorem WP.operG {i g : Nat} {t : Bool} {o og : Oper} {d : Nat} (ho : ops[i]? = some o) (hg : o.guard = some (g, t)) (hog : ops[g]? = some og) (hd : og.dst = some d) (hv : E.get d = some (.bool t))
    (h : WP n (fun a w => o.wp P a w K Q) E I L) : WP n (wpOp P ops Q i K) E I L := .mk fun a W ha hW => by
  have hw : Region.wanted o (yielded ops a.tmps) = true := by
    simp [Region.wanted, hg, yielded, hog, hd, ha.get _ _ hv]
  unfold wpOp
  simp only [ho, hw, if_true]
  exact .inl (h.out a W ha hW)
def isB : Value → Bool → Bool
  | .bool b, t => b == t
  | _, _ => false
theorem unwanted {a : Act} {u : Value} {g e : Nat} {t : Bool} {o og : Oper} (hg : o.guard = some (g, t)) (hog : ops[g]? = some og) (hd : og.dst = some e) (hv : a.tmps[e]? = some u) (hne : isB u t = false) : Region.wanted o (yielded ops a.tmps) = false := by
  cases u <;> simp_all [Region.wanted, yielded, isB]
theorem WP.operS {i g : Nat} {t : Bool} {u : Value} {o og : Oper} {d e : Nat} (ho : ops[i]? = some o) (hg : o.guard = some (g, t)) (hog : ops[g]? = some og) (hd : og.dst = some d) (hv : E.get d = some u) (hne : isB u t = false)
    (he : o.dst = some e) (hlt : Nat.blt e n = true) (h : WP n K ((e, undef) :: E) I L) : WP n (wpOp P ops Q i K) E I L := .mk fun a W ha hW => by
  have hw : Region.wanted o (yielded ops a.tmps) = false := unwanted hg hog hd (ha.get _ _ hv) hne
  unfold wpOp
  simp only [ho, hw, if_false]
  rw [he]
  exact h.out _ W (ha.put hlt undef) hW
end
end Go.Hp
