import Derived.Test.YtbgkfndnbngnmaaSegX
set_option linter.unusedVariables false
set_option linter.unusedSimpArgs false
namespace Go.Hp
open Go Go.Proofs
theorem seg_SameList {I : Imm} {l1 l2 : List (Pt × Value)} {v u : Value} (h1 : RParts I v l1) (h2 : RParts I u l2) (heq : l1.map (·.1) = l2.map (·.1)) (hlen : l1.length = l2.length) (hn : l1.length ≤ 2199023255552) : Spec Try.prog 11 [v, u] I [] (fun v J L => v = .bool true ∧ I = J ∧ L = []) := by
  refine Spec.of Try.func11 rfl Try.ntmps11 (Nat.le_of_ble_eq_true rfl) (fun F => ?_)
  try simp only [List.cons_append, List.nil_append, List.append_assoc]
  dsimp only [argsEnv]
  refine WP.seq ?_
  refine WP.region [0] rfl ?_
  refine WP.val rfl rfl rfl rfl (Yld.assign rfl rfl) ?_
  refine WP.nil ?_
  refine WP.next ?_
  refine WP.seq ?_
  refine WP.seq ?_
  refine WP.region [0, 1, 2, 3, 4] rfl ?_
  refine WP.val rfl rfl rfl rfl (Yld.move rfl rfl) ?_
  refine WP.val rfl rfl rfl rfl (Yld.lenR h1.rd rfl ty_sl_23 rfl) ?_
  refine WP.val rfl rfl rfl rfl (Yld.move rfl rfl) ?_
  refine WP.val rfl rfl rfl rfl (Yld.lenR h2.rd rfl ty_sl_23 rfl) ?_
  refine WP.val rfl rfl rfl rfl (Yld.neq rfl rfl rfl false (decide_eq_false (by omega))) ?_
  refine WP.nil ?_
  refine WP.sub [(0, _), (1, _), (4, _), (11, _)] ?_ ⟨rfl, rfl, rfl, rfl, trivial⟩
  refine WP.next ?_
  refine WP.condF rfl ?_
  refine WP.skip ?_
  refine WP.next ?_
  refine WP.seq ?_
  refine WP.seq ?_
  refine WP.region [0] rfl ?_
  refine WP.val rfl rfl rfl rfl (Yld.assign rfl rfl) ?_
  refine WP.nil ?_
  refine WP.next ?_
  refine WP.block ?_
  refine WP.loop (X := Nat) (fun i : Nat => [(0, v), (1, u), (5, .int .i64 (i : Int))]) (fun _ => I) (fun _ => F) (fun i => i ≤ l1.length) (fun i => l1.length - i) 0 (Nat.zero_le _) ⟨rfl, rfl, rfl, trivial⟩ rfl (by (try dsimp only); repeat (first | exact Rm.chunk | exact Rm.here | exact Rm.nil0 | apply Rm.skip | apply Rm.skipS | apply PX.cons | (apply PX.done; (repeat (first | exact Leave.done | apply Leave.drop | apply Leave.dropS)); done) | apply PX.app)) ?_
  intro i hi0; have hi0 : i ≤ l1.length := hi0
  try dsimp only
  try simp only [List.cons_append, List.nil_append, List.append_assoc]
  refine WP.seq ?_
  refine WP.seq ?_
  refine WP.region [0, 1, 2, 3] rfl ?_
  refine WP.val rfl rfl rfl rfl (Yld.move rfl rfl) ?_
  refine WP.val rfl rfl rfl rfl (Yld.move rfl rfl) ?_
  refine WP.val rfl rfl rfl rfl (Yld.lenR h1.rd rfl ty_sl_23 rfl) ?_
  refine WP.split rfl rfl rfl rfl (Yld.lss rfl rfl rfl) (fun hlt => ?_) (fun hlt => ?_)
  · have hi : i < l1.length := by omega
    have hi2 : i < l2.length := by omega
    obtain ⟨b1, k1, c1, T1, f1, r1, rfl, hb1, hs1, _⟩ := h1.cells hi
    obtain ⟨b2, k2, c2, T2, f2, r2, rfl, hb2, hs2, _⟩ := h2.cells hi2
    have hd1 := h1.data _ (List.getElem_mem hi)
    have hd2 := h2.data _ (List.getElem_mem hi2)
    have he : l1[i].1 = l2[i].1 := by have := congrArg (fun z => z[i]?) heq; simp [hi, hi2] at this; exact this
    refine WP.nil ?_
    refine WP.sub [(0, _), (1, _), (5, _), (15, _)] ?_ ⟨rfl, rfl, rfl, rfl, trivial⟩
    refine WP.next ?_
    refine WP.condT rfl ?_
    refine WP.skip ?_
    refine WP.next ?_
    refine WP.seq ?_
    refine WP.block ?_
    refine WP.seq ?_
    refine WQ.startAll Trymixed (by kernel_rfl) _ rfl ?_
    refine WQ.val rfl rfl rfl (Yld.move rfl rfl) ?_
    refine WQ.val rfl rfl rfl (Yld.move rfl rfl) ?_
    refine WQ.val rfl rfl rfl (Yld.indexAddr (i := i) rfl ty_sl_23 rfl rfl hi) ?_
    refine WQ.val rfl rfl rfl (Yld.loadAggC rfl ty_ag_35 rfl (There.i hb1) hs1 rfl) ?_
    refine WQ.val rfl rfl rfl (Yld.move rfl rfl) ?_
    refine WQ.val rfl rfl rfl (Yld.move rfl rfl) ?_
    refine WQ.val rfl rfl rfl (Yld.indexAddr (i := i) rfl ty_sl_23 rfl rfl hi2) ?_
    refine WQ.val rfl rfl rfl (Yld.loadAggC rfl ty_ag_35 rfl (There.i hb2) hs2 rfl) ?_
    refine WQ.call (seg_Same hd1 hd2) (by rintro v' J L1 ⟨rfl, rfl, rfl⟩; exact ⟨rfl, rfl, rfl⟩) rfl Try.func20 rfl rfl rfl rfl rfl (by repeat (first | exact Take.nil | with_reducible apply Take.cons | apply Take.app | exact Rm.chunk | exact Rm.here | exact Rm.nil0 | apply Rm.skip | apply Rm.skipS | (focus (apply Take.all; (repeat (first | exact Rm.chunk | exact Rm.here | exact Rm.nil0 | apply Rm.skip | apply Rm.skipS)); done)) | apply Take.cons)) ?_
    rw [he, psame_self]
    refine WQ.val rfl rfl rfl (Yld.assign rfl rfl) ?_
    refine WQ.nil ?_
    refine WP.sub [(0, _), (1, _), (5, _), (6, _), (15, _)] ?_ ⟨rfl, rfl, rfl, rfl, rfl, trivial⟩
    refine WP.next ?_
    refine WP.seq ?_
    refine WP.region [0, 1] rfl ?_
    refine WP.val rfl rfl rfl rfl (Yld.move rfl rfl) ?_
    refine WP.val rfl rfl rfl rfl (Yld.not rfl rfl) ?_
    refine WP.nil ?_
    refine WP.sub [(0, _), (1, _), (5, _), (6, _), (15, _), (28, _)] ?_ ⟨rfl, rfl, rfl, rfl, rfl, rfl, trivial⟩
    refine WP.next ?_
    refine WP.condF rfl ?_
    refine WP.skip ?_
    refine WP.leave ?_
    refine WP.next ?_
    refine WP.region [0, 1, 2] rfl ?_
    refine WP.val rfl rfl rfl rfl (Yld.move rfl rfl) ?_
    refine WP.val rfl rfl rfl rfl (Yld.add64 rfl rfl rfl (by omega)) ?_
    refine WP.val rfl rfl rfl rfl (Yld.assign rfl rfl) ?_
    refine WP.nil ?_
    refine WP.sub [(0, _), (1, _), (5, _), (6, _), (15, _), (28, _)] ?_ ⟨rfl, rfl, rfl, rfl, rfl, rfl, trivial⟩
    exact WP.again (i + 1) (show i + 1 ≤ l1.length by omega) (show l1.length - (i + 1) < l1.length - i by omega) ⟨rfl, rfl, rfl, trivial⟩ rfl (by (try dsimp only); repeat (first | exact Rm.chunk | exact Rm.here | exact Rm.nil0 | apply Rm.skip | apply Rm.skipS | apply PX.cons | (apply PX.done; (repeat (first | exact Leave.done | apply Leave.drop | apply Leave.dropS)); done) | apply PX.app))
  · refine WP.nil ?_
    refine WP.sub [(0, _), (1, _), (5, _), (15, _)] ?_ ⟨rfl, rfl, rfl, rfl, trivial⟩
    refine WP.next ?_
    refine WP.condF rfl ?_
    refine WP.exit ?_
    refine WP.thenE ?_
    refine WP.thenE ?_
    refine WP.hit ?_
    refine WP.next ?_
    refine WP.seq ?_
    refine WP.region [0] rfl ?_
    refine WP.val rfl rfl rfl rfl (Yld.assign rfl rfl) ?_
    refine WP.nil ?_
    refine WP.next ?_
    refine WP.ret ?_
    refine WP.fin .ret (.inr rfl) (res1 rfl rfl) [] (by repeat (first | exact Take.nil | with_reducible apply Take.cons | apply Take.app | exact Rm.chunk | exact Rm.here | exact Rm.nil0 | apply Rm.skip | apply Rm.skipS | (focus (apply Take.all; (repeat (first | exact Rm.chunk | exact Rm.here | exact Rm.nil0 | apply Rm.skip | apply Rm.skipS)); done)) | apply Take.cons)) (by repeat (first | exact Leave.done | apply Leave.drop | apply Leave.dropS)) (Imm.le_refl _) ?_
    exact ⟨rfl, rfl, rfl⟩


/-- The data of one part, among all. -/
theorem OData.at : ∀ {l : List (Pt × Value)} {L : Chunks}, OData l L → ∀ {i : Nat} (hi : i < l.length), ∃ La Li Lb, L = La ++ (Li ++ Lb) ∧ Own 5 1 l[i].2 (bytesV l[i].1.data) l[i].1.data.length Li ∧
    ∀ (d : List UInt8) (Li' : Chunks), Own 5 1 l[i].2 (bytesV d) d.length Li' → OData (l.set i ({ l[i].1 with data := d }, l[i].2)) (La ++ (Li' ++ Lb))
  | _, _, .nil, _, hi => absurd hi (Nat.not_lt_zero _)
  | _, _, .cons (La := La) (Lb := Lb) h ht, 0, _ => ⟨[], La, Lb, rfl, h, fun d Li' h' => by simpa using OData.cons (e := (_, _)) h' ht⟩
  | _, _, .cons (e := e) (La := La) h ht, i + 1, hi => by
    obtain ⟨A, Li, B, h1, h2, h3⟩ := ht.at (i := i) (by simpa using hi)
    refine ⟨La ++ A, Li, B, by rw [h1, List.append_assoc], h2, fun d Li' h' => ?_⟩
    have := OData.cons h (h3 d Li' h')
    simpa [List.append_assoc] using this
theorem pcells_set {l : List (Pt × Value)} {i : Nat} (hi : i < l.length) (d : List UInt8) : pcells (l.set i ({ l[i].1 with data := d }, l[i].2)) = pcells l := by
  have e1 : l.set i ({ l[i].1 with data := d }, l[i].2) = l.take i ++ ({ l[i].1 with data := d }, l[i].2) :: l.drop (i + 1) := by rw [List.set_eq_take_append_cons_drop, if_pos hi]
  have e2 : l = l.take i ++ l[i] :: l.drop (i + 1) := by rw [← List.drop_eq_getElem_cons hi, List.take_append_drop]
  conv => rhs; rw [e2]
  rw [e1, pcells_app, pcells_app]; rfl
/-- Each part ahead of i says its number. -/
def Fulls (l : List (Pt × Value)) (i : Nat) : Prop := ∀ j (hj : j < l.length), j < i → ∀ k (hk : k < l[j].1.data.length), l[j].1.data[k] = UInt8.ofNat (200 + j)
def FullK (l : List (Pt × Value)) (i k : Nat) : Prop := ∀ (hi : i < l.length), ∀ m (hm : m < l[i].1.data.length), m < k → l[i].1.data[m] = UInt8.ofNat (200 + i)
structure FX where
  i : Nat
  l : List (Pt × Value)
  Ld : Chunks
structure FX.ok (vo : Value) (n : Nat) (Lo : Chunks) (t : FX) : Prop where
  le : t.i ≤ n
  ln : t.l.length = n
  ow : Own 35 6 vo (pcells t.l) t.l.length Lo
  od : OData t.l t.Ld
  fu : Fulls t.l t.i
  dl : ∀ e ∈ t.l, e.1.data.length ≤ 198
structure FY where
  k : Nat
  l : List (Pt × Value)
  Ld : Chunks
structure FY.ok (vo : Value) (n i : Nat) (Lo : Chunks) (t : FY) : Prop where
  ln : t.l.length = n
  ow : Own 35 6 vo (pcells t.l) t.l.length Lo
  od : OData t.l t.Ld
  fu : Fulls t.l i
  fk : FullK t.l i t.k
  dl : ∀ e ∈ t.l, e.1.data.length ≤ 198
theorem Fulls.set {l : List (Pt × Value)} {i : Nat} (h : Fulls l i) (hi : i < l.length) (d : List UInt8) : Fulls (l.set i ({ l[i].1 with data := d }, l[i].2)) i := fun j hj hji k hk => by
  have e : (l.set i ({ l[i].1 with data := d }, l[i].2))[j] = l[j]'(by simpa using hj) := List.getElem_set_ne (by omega) _
  simp only [e] at hk ⊢
  exact h j (by simpa using hj) hji k hk
theorem FullK.set {l : List (Pt × Value)} {i k : Nat} (h : FullK l i k) (hi : i < l.length) (hk : k < l[i].1.data.length) : FullK (l.set i ({ l[i].1 with data := l[i].1.data.set k (UInt8.ofNat (200 + i)) }, l[i].2)) i (k + 1) := fun hi' m hm hmk => by
  have e : (l.set i ({ l[i].1 with data := l[i].1.data.set k (UInt8.ofNat (200 + i)) }, l[i].2))[i] = ({ l[i].1 with data := l[i].1.data.set k (UInt8.ofNat (200 + i)) }, l[i].2) := List.getElem_set_self _
  simp only [e] at hm ⊢
  rw [List.length_set] at hm
  by_cases hmk2 : k = m
  · subst hmk2; exact List.getElem_set_self _
  · rw [List.getElem_set_ne hmk2]; exact h hi m hm (by omega)
theorem dl_set {l : List (Pt × Value)} (h : ∀ e ∈ l, e.1.data.length ≤ 198) {i k : Nat} {a : UInt8} (hi : i < l.length) : ∀ e ∈ l.set i ({ l[i].1 with data := l[i].1.data.set k a }, l[i].2), e.1.data.length ≤ 198 := fun e he => by
  rcases List.mem_or_eq_of_mem_set he with he | rfl
  · exact h e he
  · show (l[i].1.data.set k a).length ≤ 198; rw [List.length_set]; exact h _ (List.getElem_mem hi)
theorem fy_mu {l : List (Pt × Value)} {i k : Nat} {a : UInt8} {z : Pt × Value} (hi : i < l.length) (hk : k < l[i].1.data.length) : ((l.set i ({ l[i].1 with data := l[i].1.data.set k a }, l[i].2)).getD i z).1.data.length - (k + 1) < (l.getD i z).1.data.length - k := by
  have e1 : (l.set i ({ l[i].1 with data := l[i].1.data.set k a }, l[i].2)).getD i z = ({ l[i].1 with data := l[i].1.data.set k a }, l[i].2) := by rw [List.getD_eq_getElem?_getD, List.getElem?_set_self hi]; rfl
  have e2 : l.getD i z = l[i] := by rw [List.getD_eq_getElem?_getD, List.getElem?_eq_getElem hi]; rfl
  rw [e1, e2]; simp only [List.length_set]; omega
theorem Fulls.next {l : List (Pt × Value)} {i : Nat} (h : Fulls l i) (hk : ∀ (hi : i < l.length), FullK l i l[i].1.data.length) : Fulls l (i + 1) := fun j hj hji k hkk => by
  rcases Nat.lt_succ_iff_lt_or_eq.1 hji with h1 | rfl
  · exact h j hj h1 k hkk
  · exact hk hj hj k hkk hkk
theorem seg_full {I : Imm} {l : List (Pt × Value)} {A : Option Addr} {n c : Nat} {Lo Ld : Chunks} (how : Own 35 6 (.slice A n c) (pcells l) l.length Lo) (hod : OData l Ld) (hn : l.length = n) (hn2 : n ≤ 64) (hdl : ∀ e ∈ l, e.1.data.length ≤ 198) : Spec Try.prog 12 [.slice A n c] I (Lo ++ Ld) (fun v J L => v = .tuple #[] ∧ I = J ∧ ∃ l2 Ld2, l2.length = n ∧ Own 35 6 (.slice A n c) (pcells l2) l2.length Lo ∧ OData l2 Ld2 ∧ Fulls l2 n ∧ (∀ e ∈ l2, e.1.data.length ≤ 198) ∧ L = Lo ++ Ld2) := by
  refine Spec.of Try.func12 rfl Try.ntmps12 (Nat.le_of_ble_eq_true rfl) (fun F => ?_)
  try simp only [List.cons_append, List.nil_append, List.append_assoc]
  dsimp only [argsEnv]
  refine WP.seq ?_
  refine WP.region [0] rfl ?_
  refine WP.val rfl rfl rfl rfl (Yld.assign rfl rfl) ?_
  refine WP.nil ?_
  refine WP.next ?_
  refine WP.block ?_
  refine WP.loop (X := FX) (fun t : FX => [(0, .slice A n c), (2, .int .i64 (t.i : Int))]) (fun _ => I) (fun t : FX => Lo ++ (t.Ld ++ F)) (fun t => t.ok (.slice A n c) n Lo) (fun t => n - t.i) ⟨0, l, Ld⟩ ⟨Nat.zero_le _, hn, how, hod, (fun j hj h => absurd h (Nat.not_lt_zero _)), hdl⟩ ⟨rfl, rfl, trivial⟩ rfl (by (try dsimp only); repeat (first | exact Rm.chunk | exact Rm.here | exact Rm.nil0 | apply Rm.skip | apply Rm.skipS | apply PX.cons | (apply PX.done; (repeat (first | exact Leave.done | apply Leave.drop | apply Leave.dropS)); done) | apply PX.app)) ?_
  rintro ⟨i, l, Ld⟩ ⟨hle, hln, how, hod, hfu, hdl⟩; dsimp only at hle hln how hod hfu hdl
  try dsimp only
  try simp only [List.cons_append, List.nil_append, List.append_assoc]
  refine WP.seq ?_
  refine WP.seq ?_
  refine WP.region [0, 1, 2, 3] rfl ?_
  refine WP.val rfl rfl rfl rfl (Yld.move rfl rfl) ?_
  refine WP.val rfl rfl rfl rfl (Yld.move rfl rfl) ?_
  refine WP.val rfl rfl rfl rfl (Yld.len rfl ty_sl_23 rfl) ?_
  refine WP.split rfl rfl rfl rfl (Yld.lss rfl rfl rfl) (fun hlt => ?_) (fun hlt => ?_)
  · have hi : i < n := by omega
    refine WP.nil ?_
    refine WP.sub [(0, _), (2, _), (7, _)] ?_ ⟨rfl, rfl, rfl, trivial⟩
    refine WP.next ?_
    refine WP.condT rfl ?_
    refine WP.skip ?_
    refine WP.next ?_
    refine WP.seq ?_
    refine WP.block ?_
    refine WP.seq ?_
    refine WP.region [0] rfl ?_
    refine WP.val rfl rfl rfl rfl (Yld.assign rfl rfl) ?_
    refine WP.nil ?_
    refine WP.next ?_
    refine WP.block ?_
    refine WP.loop (X := FY) (fun t : FY => [(0, .slice A n c), (2, .int .i64 (i : Int)), (3, .int .i64 (t.k : Int))]) (fun _ => I) (fun t : FY => Lo ++ (t.Ld ++ F)) (fun t => t.ok (.slice A n c) n i Lo ∧ ∀ (h : i < t.l.length), t.k ≤ t.l[i].1.data.length) (fun t => (t.l.getD i (ptZ, .slice none 0 0)).1.data.length - t.k) ⟨0, l, Ld⟩ ⟨⟨hln, how, hod, hfu, (fun hi m hm h => absurd h (Nat.not_lt_zero _)), hdl⟩, fun _ => Nat.zero_le _⟩ ⟨rfl, rfl, rfl, trivial⟩ rfl (by (try dsimp only); repeat (first | exact Rm.chunk | exact Rm.here | exact Rm.nil0 | apply Rm.skip | apply Rm.skipS | apply PX.cons | (apply PX.done; (repeat (first | exact Leave.done | apply Leave.drop | apply Leave.dropS)); done) | apply PX.app)) ?_
    rintro ⟨k, l2, Ld2⟩ ⟨⟨hln2, how2, hod2, hfu2, hfk2, hdl2⟩, hkl⟩; dsimp only at hln2 how2 hod2 hfu2 hfk2 hdl2 hkl; have hil : i < l2.length := (by omega); have hkl := hkl hil; have hd198 := hdl2 _ (List.getElem_mem hil); obtain ⟨bo, co, so, eo, elo, _, _⟩ := how2.get (by omega); injection eo with eA _ _; subst eA; obtain ⟨La, Li, Lb, eL, hli, hput⟩ := hod2.at hil; obtain ⟨Ai, ci, ei, _⟩ := hli.slice
    try dsimp only
    try simp only [List.cons_append, List.nil_append, List.append_assoc]
    refine WP.seq ?_
    refine WP.seq ?_
    subst elo
    try simp only [List.cons_append, List.nil_append, List.append_assoc]
    refine WP.region [0, 1, 2, 3, 4, 5, 6, 7] rfl ?_
    refine WP.val rfl rfl rfl rfl (Yld.move rfl rfl) ?_
    refine WP.val rfl rfl rfl rfl (Yld.move rfl rfl) ?_
    refine WP.val rfl rfl rfl rfl (Yld.move rfl rfl) ?_
    refine WP.val rfl rfl rfl rfl (Yld.indexAddr (i := i) rfl ty_sl_23 rfl rfl hi) ?_
    refine WP.val rfl rfl rfl rfl (Yld.fieldAddr rfl ty_fd_35_5 rfl) ?_
    refine WP.val rfl rfl rfl rfl (Yld.load (v := l2[i].2) rfl ty_sc_22 rfl (by repeat (first | exact There.h | exact There.i (by assumption) | apply There.t | apply There.s)) (flat_at pf_len (l := l2) hil (by decide) so rfl)) ?_
    refine WP.val rfl rfl rfl rfl (Yld.lenR (hli.rd (I := I) (L := Li) (fun p hp => hp)) rfl ty_sl_22 rfl) ?_
    refine WP.split rfl rfl rfl rfl (Yld.lss rfl rfl rfl) (fun hlt2 => ?_) (fun hlt2 => ?_)
    · have hk : k < l2[i].1.data.length := by omega
      obtain ⟨bd, cd, sd, ed, rfl, _, _⟩ := hli.get (by omega)
      subst eL
      try simp only [List.cons_append, List.nil_append, List.append_assoc]
      refine WP.nil ?_
      refine WP.sub [(0, _), (2, _), (3, _), (17, _)] ?_ ⟨rfl, rfl, rfl, rfl, trivial⟩
      refine WP.next ?_
      refine WP.condT rfl ?_
      refine WP.skip ?_
      refine WP.next ?_
      refine WP.seq ?_
      refine WP.block ?_
      refine WP.region [0, 1, 2, 3, 4, 5, 6, 7, 8, 9, 10] rfl ?_
      refine WP.val rfl rfl rfl rfl (Yld.move rfl rfl) ?_
      refine WP.val rfl rfl rfl rfl (Yld.move rfl rfl) ?_
      refine WP.val rfl rfl rfl rfl (Yld.indexAddr (i := i) rfl ty_sl_23 rfl rfl hi) ?_
      refine WP.val rfl rfl rfl rfl (Yld.fieldAddr rfl ty_fd_35_5 rfl) ?_
      refine WP.val rfl rfl rfl rfl (Yld.load (v := .slice (some ⟨bd, 0, none⟩) l2[i].1.data.length cd) rfl ty_sc_22 rfl (by repeat (first | exact There.h | exact There.i (by assumption) | apply There.t | apply There.s)) (by rw [← ed]; exact (flat_at pf_len (l := l2) hil (by decide) so rfl))) ?_
      refine WP.val rfl rfl rfl rfl (Yld.move rfl rfl) ?_
      refine WP.val rfl rfl rfl rfl (Yld.move rfl rfl) ?_
      refine WP.val rfl rfl rfl rfl (Yld.add64 rfl rfl rfl (by omega)) ?_
      rw [show (200 : Int) + (i : Int) = ((200 + i : Nat) : Int) by omega]
      refine WP.val rfl rfl rfl rfl (Yld.convN8 (200 + i) rfl ty_un_3 ty_ik_5 rfl) ?_
      refine WP.val rfl rfl rfl rfl (Yld.indexAddr (i := k) rfl ty_sl_22 rfl rfl hk) ?_
      refine WP.loud rfl rfl ?_
      refine Op.store1 rfl rfl ty_sz_5 rfl rfl rfl (by repeat (first | exact Upd.head | apply Upd.tail | apply Upd.tailS)) (set_byteS (l := l2[i].1.data) (sp := sd) (UInt8.ofNat (200 + i)) hk) ?_
      refine WP.nil ?_
      refine WP.sub [(0, _), (2, _), (3, _), (17, _)] ?_ ⟨rfl, rfl, rfl, rfl, trivial⟩
      have hnew : Own 5 1 l2[i].2 (bytesV (l2[i].1.data.set k (UInt8.ofNat (200 + i)))) (l2[i].1.data.set k (UInt8.ofNat (200 + i))).length [(bd, row 5 (bytesV (l2[i].1.data.set k (UInt8.ofNat (200 + i))) ++ sd))] := by rw [List.length_set, ed]; exact Own.blk (by rw [bytesV_len, List.length_set, Nat.mul_one]) (by rw [bytesV_len, List.length_set]; have q := ‹(bytesV l2[i].1.data).length + sd.length = cd * 1›; rw [bytesV_len] at q; exact q) (by assumption)
      refine WP.leave ?_
      refine WP.next ?_
      refine WP.region [0, 1, 2] rfl ?_
      refine WP.val rfl rfl rfl rfl (Yld.move rfl rfl) ?_
      refine WP.val rfl rfl rfl rfl (Yld.add64 rfl rfl rfl (by omega)) ?_
      refine WP.val rfl rfl rfl rfl (Yld.assign rfl rfl) ?_
      refine WP.nil ?_
      refine WP.sub [(0, _), (2, _), (3, _), (17, _)] ?_ ⟨rfl, rfl, rfl, rfl, trivial⟩
      exact WP.again ⟨k + 1, _, _⟩ ⟨⟨by rw [List.length_set]; exact hln2, by rw [pcells_set hil, List.length_set]; exact how2, hput _ _ hnew, hfu2.set hil _, hfk2.set hil hk, dl_set hdl2 hil⟩, fun h => by simp only [List.getElem_set_self, List.length_set]; omega⟩ (fy_mu hil hk) ⟨rfl, rfl, rfl, trivial⟩ rfl (by (try dsimp only); (try simp only [List.cons_append, List.nil_append, List.append_assoc]); repeat (first | exact Rm.chunk | exact Rm.here | exact Rm.nil0 | apply Rm.skip | apply Rm.skipS | apply PX.cons | (apply PX.done; (repeat (first | exact Leave.done | apply Leave.drop | apply Leave.dropS)); done) | apply PX.app))
    · have hkd : k = l2[i].1.data.length := by omega
      refine WP.nil ?_
      refine WP.sub [(0, _), (2, _), (3, _), (17, _)] ?_ ⟨rfl, rfl, rfl, rfl, trivial⟩
      refine WP.next ?_
      refine WP.condF rfl ?_
      refine WP.exit ?_
      refine WP.thenE ?_
      refine WP.thenE ?_
      refine WP.hit ?_
      refine WP.leave ?_
      refine WP.next ?_
      refine WP.region [0, 1, 2] rfl ?_
      refine WP.val rfl rfl rfl rfl (Yld.move rfl rfl) ?_
      refine WP.val rfl rfl rfl rfl (Yld.add64 rfl rfl rfl (by omega)) ?_
      refine WP.val rfl rfl rfl rfl (Yld.assign rfl rfl) ?_
      refine WP.nil ?_
      refine WP.sub [(0, _), (2, _), (3, _), (17, _)] ?_ ⟨rfl, rfl, rfl, rfl, trivial⟩
      exact WP.again ⟨i + 1, l2, Ld2⟩ ⟨(show i + 1 ≤ n by omega), hln2, how2, hod2, hfu2.next (fun hi => by rw [hkd] at hfk2; exact hfk2), hdl2⟩ (show n - (i + 1) < n - i by omega) ⟨rfl, rfl, trivial⟩ rfl (by (try dsimp only); (try simp only [List.cons_append, List.nil_append, List.append_assoc]); repeat (first | exact Rm.chunk | exact Rm.here | exact Rm.nil0 | apply Rm.skip | apply Rm.skipS | apply PX.cons | (apply PX.done; (repeat (first | exact Leave.done | apply Leave.drop | apply Leave.dropS)); done) | apply PX.app))
  · obtain rfl : i = n := by omega
    refine WP.nil ?_
    refine WP.sub [(0, _), (2, _), (7, _)] ?_ ⟨rfl, rfl, rfl, trivial⟩
    refine WP.next ?_
    refine WP.condF rfl ?_
    refine WP.exit ?_
    refine WP.thenE ?_
    refine WP.thenE ?_
    refine WP.hit ?_
    refine WP.fin .normal (.inl rfl) (res0 rfl) (Lo ++ Ld) (by repeat (first | exact Take.nil | with_reducible apply Take.cons | apply Take.app | exact Rm.chunk | exact Rm.here | exact Rm.nil0 | apply Rm.skip | apply Rm.skipS | (focus (apply Take.all; (repeat (first | exact Rm.chunk | exact Rm.here | exact Rm.nil0 | apply Rm.skip | apply Rm.skipS)); done)) | apply Take.cons)) (by repeat (first | exact Leave.done | apply Leave.drop | apply Leave.dropS)) (Imm.le_refl _) ?_
    exact ⟨rfl, rfl, l, Ld, hln, how, hod, hfu, hdl, rfl⟩


end Go.Hp
