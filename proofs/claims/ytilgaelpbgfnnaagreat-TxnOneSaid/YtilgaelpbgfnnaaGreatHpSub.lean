/- Blocks that are lent for a while and come back: what has come since (Imm.sub), a view without what was lent (Imm.cut). -/
import Derived.Test.YtilgaelpbgfnnaaGreatHpBits
import Derived.Test.YtilgaelpbgfnnaaGreatHpOps
set_option linter.unusedVariables false
set_option linter.unusedSimpArgs false
namespace Go.Hp
open Go
/-- What J has and I has not. -/
def Imm.sub (J I : Imm) : Imm := ⟨J.base, fun b => if I.blk b = none then J.blk b else none⟩
/-- J without what I has beside I0. -/
def Imm.cut (J I0 I : Imm) : Imm := ⟨J.base, fun b => if I.blk b = none ∨ I0.blk b ≠ none then J.blk b else none⟩
theorem Imm.sub_le (J I : Imm) : (J.sub I).le J := ⟨rfl, fun b o h => by
  simp only [Imm.sub] at h
  split at h
  · exact h
  · cases h⟩
theorem Imm.sub_up {J K : Imm} (h : J.le K) (I : Imm) : (J.sub I).le (K.sub I) := ⟨h.1, fun b o q => by
  simp only [Imm.sub] at q ⊢
  split at q
  · rename_i e; rw [if_pos e]; exact h.2 _ _ q
  · cases q⟩
theorem Imm.sub_down {I I' : Imm} (h : I.le I') (J : Imm) : (J.sub I').le (J.sub I) := ⟨rfl, fun b o q => by
  simp only [Imm.sub] at q ⊢
  split at q
  · rename_i e
    rw [if_pos]
    · exact q
    · cases hb : I.blk b with
      | none => rfl
      | some x => rw [h.2 _ _ hb] at e; cases e
  · cases q⟩
theorem Imm.cut_le (J I0 I : Imm) : (J.cut I0 I).le J := ⟨rfl, fun b o h => by
  simp only [Imm.cut] at h
  split at h
  · exact h
  · cases h⟩
theorem Imm.le_cut {I0 I J : Imm} (h : I0.le J) : I0.le (J.cut I0 I) := ⟨h.1, fun b o q => by
  simp only [Imm.cut]
  rw [if_pos (.inr (by rw [q]; exact nofun))]
  exact h.2 _ _ q⟩
theorem Imm.sub_cut (J I0 I : Imm) : (J.sub I).le (J.cut I0 I) := ⟨rfl, fun b o q => by
  simp only [Imm.sub] at q
  simp only [Imm.cut]
  split at q
  · rename_i e; rw [if_pos (.inl e)]; exact q
  · cases q⟩
theorem Imm.cut_none {J I0 I : Imm} {b : Nat} (h : I.blk b ≠ none) (h0 : I0.blk b = none) : (J.cut I0 I).blk b = none := by
  simp only [Imm.cut]
  rw [if_neg (by rintro (e | e); exact h e; exact e h0)]
theorem Imm.sub_self {J I : Imm} {b : Nat} {o : Obj} (h : J.blk b = some o) (h0 : I.blk b = none) : (J.sub I).blk b = some o := by
  simp only [Imm.sub]; rw [if_pos h0]; exact h
/-- Sharing tells that it was nobody's. -/
theorem WP.shareN {n : Nat} {K : Act → World → Prop} {E : Env} {I : Imm} {L : Chunks} {b : Nat} {o : Obj} (h : ∀ J : Imm, I.le J → I.blk b = none → J.blk b = some o → WP n K E J L) : WP n K E I ((b, o) :: L) := .mk fun a W ha hW =>
  let ⟨J, hJ, hb, hW'⟩ := hW.share
  (h J hJ (hW.apart _ (.head _)) hb).out a W ha hW'
theorem WP.shareOwnN {n : Nat} {K : Act → World → Prop} {E : Env} {I : Imm} {L L1 Lo : Chunks} {T sz m : Nat} {v : Value} {xs : List Value} (ho : Own T sz v xs m Lo) (hr : Take L (Lo ++ []) L1) (h : ∀ J : Imm, I.le J → SlRd (fun b o => (J.sub I).blk b = some o) v m sz xs → (∀ p ∈ Lo, I.blk p.1 = none ∧ J.blk p.1 = some p.2) → WP n K E J L1) : WP n K E I L := by
  cases ho with
  | none0 => exact WP.perm _ hr.perm (by simpa using h I (Imm.le_refl I) ⟨none, 0, rfl, Nat.le_refl _, by simp, .inl rfl⟩ (by intro p hp; cases hp))
  | @blk b cap _ _ sp h1 h2 h3 =>
    refine WP.perm _ hr.perm ?_; simp only [List.append_nil, List.cons_append, List.nil_append]
    refine WP.shareN (fun J hJ h0 hb => h J hJ ⟨_, _, rfl, h3, h1, .inr ⟨b, 0, T, (0, 0), (xs ++ sp).toArray, rfl, Imm.sub_self hb h0, by simp⟩⟩ (by intro p hp; cases List.mem_singleton.1 hp; exact ⟨h0, hb⟩))
/-- A block that is given away for good. -/
theorem Spec.give {P : Program} {f : FuncId} {args : List Value} {I : Imm} {L0 : Chunks} {b : Nat} {o : Obj} {R : Value → Imm → Chunks → Prop} (h : ∀ J : Imm, I.le J → J.blk b = some o → Spec P f args J L0 R) : Spec P f args I ((b, o) :: L0) R := fun F W hW => by
  obtain ⟨J, hJ, hb, hW'⟩ := (show Has I ((b, o) :: (L0 ++ F)) W from hW).share
  refine (h J hJ hb F W hW').mono ?_; rintro e W' ⟨v, J', L', he, hJ', hr, hh⟩
  exact ⟨v, J', L', he, Imm.le_trans hJ hJ', hr, hh⟩
/-- What was lent comes back. -/
theorem Has.unshare {I J : Imm} {L : Chunks} {W : World} {b : Nat} {o : Obj} (hJ : I.le J) (h0 : I.blk b = none) (hb : J.blk b = some o) (h : Has J L W) : Has I ((b, o) :: L) W := by
  refine ⟨h.os.trans (by rw [hJ.1]), h.tape.trans (by rw [hJ.1]), h.output.trans (by rw [hJ.1]), ?_, ?_, ?_, fun c o' hc => h.imm c o' (hJ.2 c o' hc)⟩
  · rw [List.map_cons, List.nodup_cons]
    refine ⟨fun hm => ?_, h.nodup⟩
    obtain ⟨p, hp, he⟩ := List.mem_map.1 hm
    have := h.apart p hp
    rw [he, hb] at this; cases this
  · intro p hp
    rcases List.mem_cons.1 hp with rfl | hp
    · exact h.imm b o hb
    · exact h.own p hp
  · intro p hp
    rcases List.mem_cons.1 hp with rfl | hp
    · exact h0
    · have := h.apart p hp
      cases hc : I.blk p.1 with
      | none => rfl
      | some x => rw [hJ.2 _ _ hc] at this; cases this
theorem WP.unshareOwn {n : Nat} {K : Act → World → Prop} {E : Env} {I J : Imm} {L Lo : Chunks} {T sz m : Nat} {v : Value} {xs : List Value} (ho : Own T sz v xs m Lo) (hJ : I.le J) (hb : ∀ p ∈ Lo, I.blk p.1 = none ∧ J.blk p.1 = some p.2) (h : WP n K E I (Lo ++ L)) : WP n K E J L := by
  cases ho with
  | none0 => exact WP.back hJ h
  | @blk b cap _ _ sp h1 h2 h3 =>
    obtain ⟨h4, h5⟩ := hb _ (.head _)
    exact .mk fun a W ha hW => h.out a W ha (Has.unshare hJ h4 h5 hW)
end Go.Hp
namespace Go.Hp
open Go
theorem Spec.reorder {P : Program} {f : FuncId} {args : List Value} {I : Imm} {L L' G : Chunks} {R R' : Value → Imm → Chunks → Prop} (h : Spec P f args I L R) (p : L'.Perm (L ++ G)) (hR : ∀ v J L1, I.le J → R v J L1 → ∃ L2, L2.Perm (L1 ++ G) ∧ R' v J L2) : Spec P f args I L' R' := fun F W hW => by
  have e : (L' ++ F).Perm (L ++ (G ++ F)) := by rw [← List.append_assoc]; exact List.Perm.append_right F p
  refine (h (G ++ F) W (hW.perm e)).mono ?_; rintro e W' ⟨v, J, L1, he, hJ, hr, hh⟩
  obtain ⟨L2, p2, h2⟩ := hR v J L1 hJ hr
  refine ⟨v, J, L2, he, hJ, h2, hh.perm ?_⟩
  rw [← List.append_assoc]
  exact List.Perm.append_right F p2.symm
theorem perm_mid {α : Type} (A G B T : List α) : ((A ++ (G ++ B)) ++ T).Perm ((G ++ T) ++ (A ++ B)) := by
  have h1 : (A ++ (G ++ B)).Perm (G ++ (A ++ B)) := List.perm_append_comm_assoc A G B
  refine (List.Perm.append_right T h1).trans ?_; have e1 : (G ++ (A ++ B)) ++ T = G ++ ((A ++ B) ++ T) := List.append_assoc ..
  have e2 : (G ++ T) ++ (A ++ B) = G ++ (T ++ (A ++ B)) := List.append_assoc ..
  rw [e1, e2]
  exact List.Perm.append_left G List.perm_append_comm
end Go.Hp
