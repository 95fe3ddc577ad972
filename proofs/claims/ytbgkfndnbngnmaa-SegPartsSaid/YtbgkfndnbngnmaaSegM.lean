import Derived.Test.YtbgkfndnbngnmaaSegL
set_option linter.unusedVariables false
set_option linter.unusedSimpArgs false
namespace Go.Hp
open Go Go.Proofs

theorem WP.shareParts {n : Nat} {K : Act → World → Prop} {E : Env} {I : Imm} {L L1 Lo Ld : Chunks} {v : Value} {l : List (Pt × Value)} (ho : Own 35 6 v (pcells l) l.length Lo) (hd : OData l Ld) (hr : Take L (Lo ++ (Ld ++ [])) L1) (h : ∀ J : Imm, I.le J → RParts J v l → WP n K E J L1) : WP n K E I L :=
  WP.shareAll (Lo ++ Ld) (by have := hr.perm; simpa using this) fun J hJ hall => h J hJ (RParts.own ho hd hall)
theorem WP.shareRows {n : Nat} {K : Act → World → Prop} {E : Env} {I : Imm} {L L1 Lo : Chunks} {v : Value} {l : List (Pt × Value)} (ho : Own 35 6 v (pcells l) l.length Lo) (hd : ∀ e ∈ l, SlRd (Im I) e.2 e.1.data.length 1 (bytesV e.1.data)) (hr : Take L (Lo ++ []) L1) (h : ∀ J : Imm, I.le J → RParts J v l → WP n K E J L1) : WP n K E I L :=
  WP.shareAll Lo (by have := hr.perm; simpa using this) fun J hJ hall => h J hJ ⟨own_im ho hall, fun e he => (hd e he).mono fun b o hb => hJ.2 b o hb⟩
theorem seg_Grow_ok {I : Imm} {s d n : Nat} {g : Sg} (hg : g.ok n) (hf : ¬ g.stop - g.first = g.slots) : Spec Try.prog 29 [.pointer (some ⟨s, 0, none⟩)] I [(s, row 71 (sgV d g))] (fun v J L' => I = J ∧ v = .int .i64 0 ∧ L' = [(s, row 71 (sgV d ⟨g.slots, g.first, g.stop + 1⟩))]) :=
  (seg_Grow (d := d) hg).mono (by
    rintro v J L' _ ⟨h1, ⟨h2, _⟩ | ⟨_, h3, h4⟩⟩
    · exact absurd h2 hf
    · exact ⟨h1, h3, h4⟩)
theorem fst_two {l : List (Pt × Value)} {a b : Pt} (h : l.map (·.1) = [a, b]) : ∃ u v, l = [(a, u), (b, v)] := by
  match l, h with
  | [(a', u), (b', v)], h => simp only [List.map_cons, List.map_nil, List.cons.injEq, and_true] at h; obtain ⟨rfl, rfl⟩ := h; exact ⟨u, v, rfl⟩
def ab : List UInt8 := (List.replicate 199 (0 : UInt8)).set 198 7
theorem ab_len : ab.length = 199 := by unfold ab; rw [List.length_set, List.length_replicate]
def a0 : Pt := ⟨8, 1, 0, 1, 2, ab.take 198⟩
def a1 : Pt := ⟨9, 1, 1, 1, 2, (ab.drop 198).take 198⟩
theorem a0_may : a0.may := ⟨by decide, by decide, by decide, by decide, by decide, .inl (by show (ab.take 198).length = 198; rw [List.length_take, ab_len]; rfl)⟩
theorem a1_len : a1.data.length = 1 := by show ((ab.drop 198).take 198).length = 1; rw [List.length_take, List.length_drop, ab_len]; rfl
theorem a1_may : a1.may := ⟨by decide, by decide, by decide, by decide, by decide, .inr ⟨by decide, by rw [a1_len]; decide, by rw [a1_len]; decide⟩⟩
theorem ab_many : pmanyOf ab = 2 := by unfold pmanyOf; rw [ab_len]
theorem ab_E : pcutE 1 8 1 ab = 0 := by
  unfold pcutE
  rw [if_neg (by rw [ab_len]; decide), if_neg]
  rw [ab_many]
  rintro (h | h | h | h)
  · exact absurd h (by decide)
  · exact absurd h (by decide)
  · exact absurd h (by decide)
  · exact h ⟨by decide, by decide, by decide, by decide, by decide, .inr ⟨by decide, by decide, by decide⟩⟩
theorem ab_L : pcutL 1 8 1 ab = [a0, a1] := by
  have e : pcutL 1 8 1 ab = _ := if_pos ab_E
  rw [e, ab_many]
  show [pcut 1 8 1 ab 2 0, pcut 1 8 1 ab 2 1] = _
  simp only [pcut, a0, a1, Nat.zero_mul, List.drop_zero, Nat.one_mul]
  rfl
theorem ab_join : pjoin [a0, a1] = (ab, 0) := by
  have h : pjoin [a0, a1] = _ := if_pos ⟨by simp, fun i hi => by
    match i, hi with
    | 0, _ => exact ⟨a0_may, rfl, rfl, rfl, rfl, rfl⟩
    | 1, _ => exact ⟨a1_may, rfl, rfl, rfl, rfl, rfl⟩⟩
  rw [h]
  have h2 : [a0, a1].flatMap (·.data) = ab := by
    show ab.take 198 ++ ((ab.drop 198).take 198 ++ []) = ab
    rw [List.append_nil, List.take_of_length_le (l := ab.drop 198) (by rw [List.length_drop, ab_len]; decide), List.take_append_drop]
  rw [h2]
def ag : Sg := ⟨4, 1, 2⟩
theorem ag_ok : ag.ok 136 := ⟨by decide, by decide, by decide, by decide⟩
structure AwD (x : Dk) : Prop where
  on : On x 136
  b0 : bl x 8 = penc a0
  b1 : bl x 9 = penc a1
  b2 : bl x 10 = List.replicate 256 0
theorem aw_writes : ∃ x1 x2, pwrt (Dk.new 136) 136 ag a0 = (x1, 0) ∧ pwrt x1 136 ag a1 = (x2, 0) ∧ x1.waits.length = 4 ∧ x2.waits.length = 8 ∧ AwD x2 := by
  obtain ⟨x1, e1, o1, w1, b1⟩ := pwrt_on (On.new (n := 136) (by decide) (by decide)) ag_ok a0_may (by decide)
  obtain ⟨x2, e2, o2, w2, b2⟩ := pwrt_on o1 ag_ok a1_may (by decide)
  refine ⟨x1, x2, e1, e2, w1, (by rw [w2, w1]; rfl), o2, ?_, ?_, ?_⟩
  · rw [b2, if_neg (by decide), b1, if_pos (by decide)]
  · rw [b2, if_pos (by decide)]
  · rw [b2, if_neg (by decide), b1, if_neg (by decide), bl_new (by decide)]
theorem aw_stand {x : Dk} (h : AwD x) : pstand x 136 ag 8 = (a0, 0) ∧ pstand x 136 ag 9 = (a1, 0) ∧ pstand x 136 ag 10 = (ptZ, 70) := by
  refine ⟨?_, ?_, ?_⟩
  · rw [pstand_on h.on ag_ok, show jx ag.slots 8 = 8 from rfl, h.b0, pdec_enc a0_may]; rfl
  · rw [pstand_on h.on ag_ok, show jx ag.slots 9 = 9 from rfl, h.b1, pdec_enc a1_may]; rfl
  · rw [pstand_on h.on ag_ok, show jx ag.slots 10 = 10 from rfl, h.b2, pdec_zero]
theorem aw_scan {x : Dk} (h : AwD x) : scanL (fun q => pstand x 136 ag q) ((ag.first + ag.slots) * 8 - 8) 8 [] = [a0, a1] := by
  obtain ⟨s0, s1, s2⟩ := aw_stand h
  have hr := scanL_run (f := fun q => pstand x 136 ag q) (e := 1) [a0, a1] 30 8 [] (fun a ha => by cases ha) (fun i hi => by
    match i, hi with
    | 0, _ => exact ⟨s0, rfl⟩
    | 1, _ => exact ⟨s1, rfl⟩)
  have e : (ag.first + ag.slots) * 8 - 8 = [a0, a1].length + 30 := rfl
  rw [e, hr]
  show scanL _ (29 + 1) 10 _ = _
  rw [scanL, if_pos (.inl (by show (pstand x 136 ag 10).2 ≠ 0; rw [s2]; decide))]; rfl
theorem aw_read {x : Dk} (h : AwD x) : pread x 136 ag 9 = (a1, 0) := by
  unfold pread
  rw [if_pos (by decide)]; exact (aw_stand h).2.1

end Go.Hp
