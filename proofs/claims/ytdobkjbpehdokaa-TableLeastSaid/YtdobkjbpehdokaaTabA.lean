import Derived.Test.YtdobkjbpehdokaaCell
import Derived.Test.YtdobkjbpehdokaaHpPtr
set_option linter.unusedVariables false
set_option linter.unusedSimpArgs false
namespace Go.Hp
open Go Go.Proofs

/-- A page's entry. -/
structure Ent where
  tok : Nat
  nodes : List (Bool × List UInt8)
  place : Int
  no : Int
  low : Int
  kept : Int
  txn : Int
  lead : Int
  with_ : List Int
def ndV (x : Bool × Value) : List Value := [.bool x.1, x.2]
theorem ndV_len (x : Bool × Value) : (ndV x).length = 2 := rfl
structure NodesOk (V : Nat → Obj → Prop) (nv : List (Bool × Value)) (l : List (Bool × List UInt8)) : Prop where
  len : nv.length = l.length
  at_ : ∀ (i : Nat) (x : Bool × Value), nv[i]? = some x → ∃ d, l[i]? = some (x.1, d) ∧ SlRd V x.2 d.length 1 (bytesV d)
theorem NodesOk.mono {V V' : Nat → Obj → Prop} {nv : List (Bool × Value)} {l : List (Bool × List UInt8)} (h : NodesOk V nv l) (hV : ∀ b o, V b o → V' b o) : NodesOk V' nv l := ⟨h.len, fun i x hx => by obtain ⟨d, h1, h2⟩ := h.at_ i x hx; exact ⟨d, h1, h2.mono hV⟩⟩
def Imv (I : Imm) : Nat → Obj → Prop := fun b o => I.blk b = some o
theorem Imv.le {I J : Imm} (h : I.le J) (b : Nat) (o : Obj) (hb : Imv I b o) : Imv J b o := h.2 b o hb
def entV (e : Ent) (vn vw : Value) : List Value := [.int .u64 (e.tok : Int), vn, .int .i64 e.place, .int .i64 e.no, .int .i64 e.low, .int .i64 e.kept, .int .i64 e.txn, .int .i64 e.lead, vw]
structure REnt (I : Imm) (e : Ent) (cs : List Value) : Prop where
  ex : ∃ vn vw nv, cs = entV e vn vw ∧ SlRd (Imv I) vn e.nodes.length 2 (nv.flatMap ndV) ∧ NodesOk (Imv I) nv e.nodes ∧ SlRd (Imv I) vw e.with_.length 1 (e.with_.map (Value.int .i64))
theorem REnt.mono {I J : Imm} {e : Ent} {cs : List Value} (h : REnt I e cs) (hJ : I.le J) : REnt J e cs := by
  obtain ⟨vn, vw, nv, h1, h2, h3, h4⟩ := h.ex
  exact ⟨vn, vw, nv, h1, h2.mono (Imv.le hJ), h3.mono (Imv.le hJ), h4.mono (Imv.le hJ)⟩
structure Ent.sized (e : Ent) : Prop where
  nodes : e.nodes.length ≤ 4398046510976
  data : ∀ x ∈ e.nodes, x.2.length ≤ 140737488351232
  with_ : e.with_.length ≤ 17592186043904
def zeroEnt : Ent := ⟨0, [], 0, 0, 0, 0, 0, 0, []⟩
def entOk (J : Imm) (x : Nat × Ent) : Prop := x.2.sized ∧ ∃ cs, J.blk x.1 = some (row 63 cs) ∧ REnt J x.2 cs
theorem entOk.mono {I J : Imm} {x : Nat × Ent} (h : entOk I x) (hJ : I.le J) : entOk J x := by
  obtain ⟨h0, cs, h1, h2⟩ := h; exact ⟨h0, cs, hJ.2 _ _ h1, h2.mono hJ⟩
theorem REnt.cells {I : Imm} {e : Ent} {cs : List Value} (h : REnt I e cs) : cs.length = 9 ∧ cs.all (·.oneCell') = true := by
  obtain ⟨vn, vw, nv, rfl, ⟨A, c, rfl, _⟩, _, ⟨A2, c2, rfl, _⟩⟩ := h.ex; exact ⟨rfl, rfl⟩
/-- A chunk: so many slots. -/
abbrev Slots := Nat → Option (Nat × Ent)
def slotP : Option (Nat × Ent) → Option Addr
  | none => none
  | some x => some ⟨x.1, 0, none⟩
abbrev slotV (o : Option (Nat × Ent)) : Value := .pointer (slotP o)
theorem slotP_none (o : Option (Nat × Ent)) : (slotP o).isNone = o.isNone := by cases o <;> rfl
def ckV (f : Slots) : List Value := (List.range 16).map fun j => slotV (f j)
def ckCh (c : Nat × Slots) : Chunks := [(c.1, row 110 (ckV c.2))]
def putSl (f : Slots) (j : Nat) (x : Option (Nat × Ent)) : Slots := fun k => if k = j then x else f k
theorem ckV_len (f : Slots) : (ckV f).length = 16 := by simp [ckV]
theorem ckV_at {f : Slots} {j : Nat} (h : j < 16) : (ckV f)[0 + j * 1]? = some (slotV (f j)) := by simp [ckV, h]
theorem ckV_set {f : Slots} {j : Nat} (h : j < 16) (x : Option (Nat × Ent)) : SetAt (ckV f) (0 + j * 1) (slotV x) (ckV (putSl f j x)) := by
  have hs := SetAt.sym (l := ckV f) (k := 0 + j * 1) (v := slotV x) (by rw [ckV_len]; omega)
  have e : (ckV f).set (0 + j * 1) (slotV x) = ckV (putSl f j x) := by
    rw [Nat.zero_add, Nat.mul_one]
    apply List.ext_getElem?
    intro k
    rw [List.getElem?_set, ckV_len]
    by_cases hk : j = k
    · subst hk; simp [ckV, putSl, h]
    · rw [if_neg hk]
      by_cases hk2 : k < 16
      · simp [ckV, hk2, putSl, Ne.symm hk]
      · rw [List.getElem?_eq_none (by rw [ckV_len]; omega), List.getElem?_eq_none (by rw [ckV_len]; omega)]
  rwa [e] at hs
structure Tb where
  tok : Nat
  cks : List (Nat × Slots)
  next : Int
def ckps (l : List (Nat × Slots)) : List Value := l.map fun c => .pointer (some ⟨c.1, 0, none⟩)
theorem ckps_len (l : List (Nat × Slots)) : (ckps l).length = l.length := List.length_map _
theorem ckps_at {l : List (Nat × Slots)} {i : Nat} (h : i < l.length) (sp : List Value) : (ckps l ++ sp)[0 + i * 1]? = some (.pointer (some ⟨l[i].1, 0, none⟩)) := by
  rw [Nat.zero_add, Nat.mul_one, List.getElem?_append_left (by rw [ckps_len]; exact h)]; simp [ckps, h]
structure Tb.ok (J : Imm) (x : Tb) : Prop where
  n1 : 1 ≤ x.cks.length
  n2 : x.cks.length ≤ 32
  ent : ∀ c ∈ x.cks, ∀ j e, c.2 j = some e → entOk J e
  nx : 1 ≤ x.next ∧ x.next ≤ 513
theorem Tb.ok.mono {I J : Imm} {x : Tb} (h : x.ok I) (hJ : I.le J) : x.ok J := ⟨h.n1, h.n2, fun c hc j e he => (h.ent c hc j e he).mono hJ, h.nx⟩
inductive IsTab (J : Imm) (t q : Nat) (x : Tb) : Chunks → Prop
  | mk {vs : Value} {Lv : Chunks} (ok : x.ok J) (ow : Own 103 1 vs (ckps x.cks) x.cks.length Lv) : IsTab J t q x ((t, row 113 [.pointer (some ⟨q, 0, none⟩), .int .u64 (x.tok : Int), vs, .int .i64 x.next]) :: (Lv ++ x.cks.flatMap ckCh))
theorem IsTab.mono {I J : Imm} {t q : Nat} {x : Tb} {L : Chunks} (h : IsTab I t q x L) (hJ : I.le J) : IsTab J t q x L := by cases h with | mk ok ow => exact .mk (ok.mono hJ) ow
/-- A page's slot: which chunk, and where in it. -/
def Tb.get (x : Tb) (p : Int) : Option (Nat × Ent) := if p < 1 then none else match x.cks[((p - 1) / 16).toNat]? with
  | some c => c.2 ((p - 1) % 16).toNat
  | none => none
def Tb.size (x : Tb) : Int := (x.cks.length : Int) * 16
def Tb.put (x : Tb) (p : Int) (e : Option (Nat × Ent)) : Tb := { x with cks := match x.cks[((p - 1) / 16).toNat]? with
  | some c => x.cks.set ((p - 1) / 16).toNat (c.1, putSl c.2 ((p - 1) % 16).toNat e)
  | none => x.cks }
theorem ext_loadP {I : Imm} {L : Chunks} {b k T : Nat} {cs : List Value} {x : Option Addr} (hm : There I L b (row T cs)) (hk : cs[k]? = some (.pointer x)) :
    Ans Try.prog 61 [Value.pointer (some ⟨b, k, none⟩)] I L (.pointer x) I L := fun W hW =>
  ⟨W, run_call_loadP Try.func61 rfl rfl rfl rfl (by simp [World.cell?, hm.heap hW, row, hk]), hW⟩
theorem ext_storeP {I : Imm} {L L' : Chunks} {b k T : Nat} {cs cs' : List Value} {y : Option Addr} (hu : Upd L b (row T cs) (row T cs') L') (hs : SetAt cs k (.pointer y) cs') :
    Ans Try.prog 59 [Value.pointer (some ⟨b, k, none⟩), .pointer y] I L (.tuple #[]) I L' := fun W hW => by
  obtain ⟨h1, _⟩ := hs.spec
  have hc : W.cell? ⟨b, k, none⟩ = some cs[k] := by simp [World.cell?, hW.own _ hu.mem, row, h1]
  exact ⟨_, run_call_storeP Try.func59 rfl rfl rfl rfl hc (by simp [World.frozen?, hW.own _ hu.mem, row]), hW.setCell hu hs⟩
theorem ext_casP {I : Imm} {L L' : Chunks} {b k T : Nat} {cs cs' : List Value} {x : Addr} {y : Option Addr} (hk : cs[k]? = some (.pointer (some x))) (hu : Upd L b (row T cs) (row T cs') L') (hs : SetAt cs k (.pointer y) cs') :
    Ans Try.prog 58 [Value.pointer (some ⟨b, k, none⟩), .pointer (some x), .pointer y] I L (.bool true) I L' := fun W hW =>
  ⟨_, run_call_casP Try.func58 rfl rfl rfl rfl (by simp [World.cell?, hW.own _ hu.mem, row, hk]) (by simp [World.frozen?, hW.own _ hu.mem, row]), hW.setCell hu hs⟩

end Go.Hp
