import Derived.Test.YtelkknmnnmmoaaaSupS
set_option linter.unusedVariables false
set_option linter.unusedSimpArgs false
namespace Go.Hp
open Go Go.Proofs

def rsec (J : Imm) (v : Value) (s : List UInt8) : Prop := s.length = 64 ∧ SlRd (Im J) v 64 1 (bytesV s)
theorem rsec.mono {I J : Imm} {v : Value} {s : List UInt8} (h : rsec I v s) (hJ : I.le J) : rsec J v s := ⟨h.1, h.2.mono fun b o hb => hJ.2 b o hb⟩
theorem rsec.slice {J : Imm} {v : Value} {s : List UInt8} (h : rsec J v s) : ∃ A c, v = .slice A 64 c ∧ 64 ≤ c := by
  obtain ⟨A, c, h1, h2, _⟩ := h.2; exact ⟨A, c, h1, h2⟩
def wv (ws : List (Nat × Value)) : List Value := ws.flatMap fun e => [.int .i64 (e.1 : Int), e.2]
structure PlatOk (J : Imm) (n : Nat) (ps : List Value) (p : List UInt8) : Prop where
  len : ps.length = n
  lp : p.length = n * 64
  at_ : ∀ (i : Nat) (v : Value), ps[i]? = some v → rsec J v (sec p i)
structure WaitsOk (J : Imm) (ws : List (Nat × Value)) (l : List (Nat × List UInt8)) : Prop where
  len : ws.length = l.length
  at_ : ∀ (i : Nat) (e : Nat × Value), ws[i]? = some e → ∃ s, l[i]? = some (e.1, s) ∧ rsec J e.2 s
theorem PlatOk.mono {I J : Imm} {n : Nat} {ps : List Value} {p : List UInt8} (h : PlatOk I n ps p) (hJ : I.le J) : PlatOk J n ps p := ⟨h.len, h.lp, fun i v hv => (h.at_ i v hv).mono hJ⟩
theorem WaitsOk.mono {I J : Imm} {ws : List (Nat × Value)} {l : List (Nat × List UInt8)} (h : WaitsOk I ws l) (hJ : I.le J) : WaitsOk J ws l := ⟨h.len, fun i e he => by obtain ⟨s, h1, h2⟩ := h.at_ i e he; exact ⟨s, h1, h2.mono hJ⟩⟩
def putS (p : List UInt8) (e : Nat × List UInt8) : List UInt8 := p.take (e.1 * 64) ++ e.2 ++ p.drop (e.1 * 64 + 64)
def full (p : List UInt8) (l : List (Nat × List UInt8)) : List UInt8 := l.foldl putS p
inductive IsRef (J : Imm) (r n : Nat) (x : Dk) : Chunks → Prop
  | mk {vp vw : Value} {ps : List Value} {ws : List (Nat × Value)} {Lp Lw : Chunks} (ok : x.ok n) (fit : x.now = full x.plat x.waits) (op : Own 24 1 vp ps n Lp) (hp : PlatOk J n ps x.plat) (ow : Own 77 2 vw (wv ws) x.waits.length Lw) (hw : WaitsOk J ws x.waits) :
    IsRef J r n x ((r, row 59 [vp, vw, .int .i64 x.left, .bool x.off, .int .i64 x.writes, .int .i64 x.syncs]) :: (Lp ++ Lw))
theorem IsRef.mono {I J : Imm} {r n : Nat} {x : Dk} {L : Chunks} (h : IsRef I r n x L) (hJ : I.le J) : IsRef J r n x L := by
  cases h with
  | mk ok fit op hp ow hw => exact .mk ok fit op (hp.mono hJ) ow (hw.mono hJ)
theorem putS_len {n : Nat} {p : List UInt8} {e : Nat × List UInt8} (hp : p.length = n * 64) (he : e.1 < n ∧ e.2.length = 64) : (putS p e).length = n * 64 := by
  obtain ⟨h1, h2⟩ := he
  simp only [putS, List.length_append, List.length_take, List.length_drop, hp, h2]; omega
theorem full_len {n : Nat} : ∀ (l : List (Nat × List UInt8)) (p : List UInt8), (∀ e ∈ l, e.1 < n ∧ e.2.length = 64) → p.length = n * 64 → (full p l).length = n * 64
  | [], _, _, hp => hp
  | e :: l, p, h, hp => full_len l (putS p e) (fun x hx => h x (by simp [hx])) (putS_len hp (h e (by simp)))
theorem sec_put {n j : Nat} {p : List UInt8} {e : Nat × List UInt8} (hp : p.length = n * 64) (he : e.1 < n ∧ e.2.length = 64) : sec (putS p e) j = if j = e.1 then e.2 else sec p j := by
  by_cases h : j = e.1
  · rw [if_pos h, h]; exact sec_same he.2 (by omega)
  · rw [if_neg h]; exact sec_ne he.2 (Nat.le_refl _) (by omega) h
theorem sec_full_none {n at_ : Nat} : ∀ (l : List (Nat × List UInt8)) (p : List UInt8), (∀ e ∈ l, e.1 < n ∧ e.2.length = 64) → p.length = n * 64 → (∀ e ∈ l, e.1 ≠ at_) → sec (full p l) at_ = sec p at_
  | [], _, _, _, _ => rfl
  | e :: l, p, h, hp, hn => by
    show sec (full (putS p e) l) at_ = _
    rw [sec_full_none l _ (fun x hx => h x (by simp [hx])) (putS_len hp (h e (by simp))) (fun x hx => hn x (by simp [hx])), sec_put hp (h e (by simp)), if_neg (Ne.symm (hn e (by simp)))]
theorem sec_full_last {n at_ k : Nat} {l : List (Nat × List UInt8)} {p s : List UInt8} (h : ∀ e ∈ l, e.1 < n ∧ e.2.length = 64) (hp : p.length = n * 64) (hk : l[k]? = some (at_, s)) (hn : ∀ i e, k < i → l[i]? = some e → e.1 ≠ at_) : sec (full p l) at_ = s := by
  have hkl : k < l.length := (List.getElem?_eq_some_iff.1 hk).1
  have e0 : l = l.take k ++ (at_, s) :: l.drop (k + 1) := by
    have := (List.take_append_drop k l).symm
    rw [List.drop_eq_getElem_cons hkl, (List.getElem?_eq_some_iff.1 hk).2] at this
    exact this
  have hm := h (at_, s) (List.mem_of_getElem? hk)
  have e1 : full p l = full (putS (full p (l.take k)) (at_, s)) (l.drop (k + 1)) := by
    unfold full
    conv => lhs; rw [e0]
    rw [List.foldl_append]; rfl
  have l1 : (full p (l.take k)).length = n * 64 := full_len _ _ (fun e he => h e (List.mem_of_mem_take he)) hp
  rw [e1, sec_full_none (n := n) _ _ (fun e he => h e (List.mem_of_mem_drop he)) (putS_len l1 hm) ?_, sec_put l1 hm, if_pos rfl]
  intro e he
  obtain ⟨i, hi, hge⟩ := List.getElem_of_mem he
  have : l[k + 1 + i]? = some e := by
    rw [← List.getElem?_drop, List.getElem?_eq_getElem hi, hge]
  exact hn _ _ (by omega) this
theorem full_app (p : List UInt8) (l : List (Nat × List UInt8)) (e : Nat × List UInt8) : full p (l ++ [e]) = putS (full p l) e := by simp [full]
theorem sec_zero {n i : Nat} (h : i < n) : sec (List.replicate (n * 64) (0 : UInt8)) i = List.replicate 64 0 := by
  unfold sec; rw [List.drop_replicate, List.take_replicate]; congr 1; omega
theorem wv_len (ws : List (Nat × Value)) : (wv ws).length = ws.length * 2 := by
  induction ws with
  | nil => rfl
  | cons e ws ih => simp only [wv, List.flatMap_cons, List.length_append, List.length_cons, List.length_nil] at ih ⊢; omega
theorem wv_app (a b : List (Nat × Value)) : wv (a ++ b) = wv a ++ wv b := by simp [wv]
theorem wv_at : ∀ (ws : List (Nat × Value)) (i : Nat) (hi : i < ws.length) (sp : List Value), (wv ws ++ sp)[i * 2]? = some (.int .i64 (ws[i].1 : Int)) ∧ (wv ws ++ sp)[i * 2 + 1]? = some ws[i].2
  | e :: ws, 0, _, sp => by simp [wv]
  | e :: ws, i + 1, h, sp => by
    have := wv_at ws i (by simpa using h) sp
    rw [show (i + 1) * 2 = i * 2 + 1 + 1 by omega]
    simpa [wv] using this
theorem wv_at0 {ws : List (Nat × Value)} {i : Nat} (hi : i < ws.length) (sp : List Value) : (wv ws ++ sp)[0 + i * 2 + 0]? = some (.int .i64 (ws[i].1 : Int)) := by rw [Nat.zero_add, Nat.add_zero]; exact (wv_at ws i hi sp).1
theorem wv_at1 {ws : List (Nat × Value)} {i : Nat} (hi : i < ws.length) (sp : List Value) : (wv ws ++ sp)[0 + i * 2 + 1]? = some ws[i].2 := by rw [Nat.zero_add]; exact (wv_at ws i hi sp).2
theorem wv_two {ws : List (Nat × Value)} {i : Nat} (hi : i < ws.length) (sp : List Value) : ((wv ws ++ sp).drop (0 + i * 2)).take 2 = [.int .i64 (ws[i].1 : Int), ws[i].2] := by
  have h := wv_at ws i hi sp
  apply List.ext_getElem?
  intro j
  rw [List.getElem?_take]
  match j with
  | 0 => simpa [List.getElem?_drop] using h.1
  | 1 => simpa [List.getElem?_drop] using h.2
  | j + 2 => rw [if_neg (by omega)]; rfl
theorem val_at {ps : List Value} {k : Nat} (h : k < ps.length) (sp : List Value) : (ps ++ sp)[0 + k * 1]? = some ps[k] := by
  rw [Nat.zero_add, Nat.mul_one, List.getElem?_append_left h]; simp
theorem set_val {ps : List Value} {k : Nat} (v : Value) (sp : List Value) (h : k < ps.length) : SetAt (ps ++ sp) (0 + k * 1) v (ps.set k v ++ sp) := by
  have := SetAt.sym (l := ps ++ sp) (k := 0 + k * 1) (v := v) (by rw [List.length_append]; omega)
  rw [Nat.zero_add, Nat.mul_one] at this ⊢
  rwa [List.set_append_left _ _ h] at this
theorem PlatOk.put {J : Imm} {n : Nat} {ps : List Value} {p p' s : List UInt8} {k : Nat} {v : Value} (h : PlatOk J n ps p) (hk : k < n) (hl : p'.length = n * 64) (hs : sec p' k = s) (ho : ∀ j, j ≠ k → sec p' j = sec p j) (hv : rsec J v s) : PlatOk J n (ps.set k v) p' := by
  refine ⟨by simp [h.len], hl, fun i u hu => ?_⟩
  by_cases e : i = k
  · subst e
    rw [List.getElem?_set_self (by rw [h.len]; exact hk)] at hu
    cases hu; rw [hs]; exact hv
  · rw [List.getElem?_set_ne (Ne.symm e)] at hu
    rw [ho i e]; exact h.at_ i u hu
structure RX where
  i : Nat
  J : Imm
  ps : List Value
  vp : Value
  Lp : Chunks
structure RX.ok (I : Imm) (n : Nat) (t : RX) : Prop where
  le : t.i ≤ n
  hJ : I.le t.J
  len : t.ps.length = t.i
  all : ∀ v ∈ t.ps, rsec t.J v (List.replicate 64 0)
  op : Own 24 1 t.vp t.ps t.i t.Lp

end Go.Hp
