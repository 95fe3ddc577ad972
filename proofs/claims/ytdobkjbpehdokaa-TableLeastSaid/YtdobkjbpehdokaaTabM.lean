import Derived.Test.YtdobkjbpehdokaaTabL
set_option linter.unusedVariables false
set_option linter.unusedSimpArgs false
namespace Go.Hp
open Go Go.Proofs

theorem map_at {α : Type} {f : α → Value} {l : List α} {k : Nat} (h : k < l.length) (sp : List Value) : (l.map f ++ sp)[0 + k * 1]? = some (f l[k]) := by
  rw [Nat.zero_add, Nat.mul_one, List.getElem?_append_left (by simpa using h)]; simp [h]
theorem map_set {α : Type} {f : α → Value} {l : List α} {k : Nat} (a : α) (h : k < l.length) : SetAt (l.map f) (0 + k * 1) (f a) ((l.set k a).map f) := by
  have := SetAt.sym (l := l.map f) (k := 0 + k * 1) (v := f a) (by simp; omega)
  rw [Nat.zero_add, Nat.mul_one] at this ⊢
  simpa [List.map_set] using this
theorem map_at0 {α : Type} {f : α → Value} {l : List α} {k : Nat} (h : k < l.length) : (l.map f)[0 + k * 1]? = some (f l[k]) := by
  have := map_at (f := f) h []; rwa [List.append_nil] at this
def natV (n : Nat) : Value := .int .u64 (n : Int)
theorem natsZ (n : Nat) : (List.replicate n (Value.int .u64 0).cells.toList).flatten = (List.replicate n (0 : Nat)).map natV := by
  induction n with
  | zero => rfl
  | succ n ih => rw [List.replicate_succ, List.flatten_cons, ih]; simp [Value.cells, List.replicate_succ, natV]
theorem tmod_bd (a b : Int) (h : 0 < b) : -b < a.tmod b ∧ a.tmod b < b := by
  rw [Int.tmod_eq_emod]
  have h1 := Int.emod_nonneg a (show b ≠ 0 by omega)
  have h2 := Int.emod_lt_of_pos a h
  split
  · omega
  · rename_i hh
    have h3 : a % b ≠ 0 := fun e => hh (.inr (Int.dvd_of_emod_eq_zero e))
    omega
theorem u8_of (k : Nat) (h : k < 256) : ((UInt8.ofNat k).toNat : Int) = (k : Int) := by
  rw [UInt8.toNat_ofNat']; omega
theorem wrap8 (k : Nat) (h : k < 256) : IntKind.u8.wrap (k : Int) = ((UInt8.ofNat k).toNat : Int) := by
  rw [u8_of k h]
  simp only [IntKind.wrap, IntKind.signed, IntKind.bits]
  first | (simp; omega) | omega
/-- What Swap does at a page in use, when the entry may be. -/
theorem tabT_SwapIn {I : Imm} {t : Nat} {x : Tb} {L : Chunks} (hT : IsT I t x L) {p : Int} {tk : Nat} {e0 : Nat × Ent}  {e : Ent} {cs : List Value} (he : REnt I e cs) (hsz : e.sized) (htk : x.tok + 1 < 18446744073709551616) (hm : e.mayP) (hg : x.get p = some e0) : Spec Try.prog 31 [.pointer (some ⟨t, 0, none⟩), .int .i64 p, .int .u64 (tk : Int), .agg cs.toArray] I L
    (fun v J L' => ∃ x', v = .int .i64 (if e0.2.tok = tk then 0 else 5) ∧ IsT J t x' L' ∧ (e0.2.tok = tk → x.Swapped x' p e) ∧ (¬ e0.2.tok = tk → x' = x)) :=
  (tabT_Swap hT he hsz htk).mono (by
    rintro v J L' _ (⟨h, _⟩ | ⟨e1, h1, ⟨hn, _⟩ | ⟨_, ht, rfl, rfl, hT'⟩ | ⟨_, ht, rfl, x', hs, hT'⟩⟩)
    · rw [hg] at h; cases h
    · exact absurd hm hn
    · rw [hg] at h1; cases h1
      exact ⟨x, by rw [if_neg ht], hT', fun h => absurd h ht, fun _ => rfl⟩
    · rw [hg] at h1; cases h1
      exact ⟨x', by rw [if_pos ht], hT', fun _ => hs, fun h => absurd ht h⟩)
structure OX where
  x : Tb
  J : Imm
  L : Chunks
  rt : List Nat
  hs : List Int
  won : Int
structure OX.ok (I : Imm) (t n : Nat) (u : OX) (i : Nat) : Prop where
  le : I.le u.J
  tab : IsT u.J t u.x u.L
  ent : ∃ b e, u.x.get 1 = some (b, e) ∧ e.tok ≤ u.x.tok
  tok : u.x.tok ≤ 1 + 2 * i
  rl : u.rt.length = n
  hl : u.hs.length = n
  w0 : 0 ≤ u.won
  w1 : u.won ≤ i
theorem table_One {I : Imm} {a0 : Int} {a2 : Bool} {order : List Int} {vo : Value} (hor : SlRd (Imv I) vo order.length 1 (order.map (Value.int .i64))) (hn : order.length ≤ 17592186044416) : Spec Try.prog 8 [.int .i64 a0, vo, .bool a2] I [] (fun v J L => v = .bool true ∧ L = []) := by
  obtain ⟨Ao, co, rfl, hco⟩ := hor.slice'
  refine Spec.of Try.func8 rfl Try.ntmps8 (Nat.le_of_ble_eq_true rfl) (fun F => ?_)
  try simp only [List.cons_append, List.nil_append, List.append_assoc]
  dsimp only [argsEnv]
  refine WP.seq ?_
  refine WP.region [0] rfl ?_
  refine WP.val rfl rfl rfl rfl (Yld.assign rfl rfl) ?_
  refine WP.nil ?_
  refine WP.next ?_
  refine WP.seq ?_
  refine WP.region [0, 1] rfl ?_
  refine WP.loud rfl rfl ?_
  refine Op.call table_awake rfl Try.func27 rfl rfl rfl rfl (by repeat (first | exact Take.nil | with_reducible apply Take.cons | apply Take.app | exact Rm.chunk | exact Rm.here | exact Rm.nil0 | apply Rm.skip | apply Rm.skipS | (focus (apply Take.all; (repeat (first | exact Rm.chunk | exact Rm.here | exact Rm.nil0 | apply Rm.skip | apply Rm.skipS)); done)) | apply Take.cons)) ?_
  rintro v Ja L1 hJa ⟨rfl, rfl⟩
  try simp only [List.cons_append, List.nil_append, List.append_assoc]
  refine WP.val rfl rfl rfl rfl (Yld.assign rfl rfl) ?_
  refine WP.nil ?_
  refine WP.sub [(0, _), (1, _), (2, _), (6, _), (7, _)] ?_ ⟨rfl, rfl, rfl, rfl, rfl, trivial⟩
  refine WP.next ?_
  refine WP.seq ?_
  refine WP.region [0, 1] rfl ?_
  refine WP.loud rfl rfl ?_
  refine Op.call tabT_NewNil rfl Try.func28 rfl rfl rfl rfl (by repeat (first | exact Take.nil | with_reducible apply Take.cons | apply Take.app | exact Rm.chunk | exact Rm.here | exact Rm.nil0 | apply Rm.skip | apply Rm.skipS | (focus (apply Take.all; (repeat (first | exact Rm.chunk | exact Rm.here | exact Rm.nil0 | apply Rm.skip | apply Rm.skipS)); done)) | apply Take.cons)) ?_
  rintro v J L0 hJ ⟨t, x0, rfl, rfl, hT0, hk0, hn0, hs0, hg0⟩
  clear hJ; try simp only [List.cons_append, List.nil_append, List.append_assoc]
  refine WP.val rfl rfl rfl rfl (Yld.assign rfl rfl) ?_
  refine WP.nil ?_
  refine WP.sub [(0, _), (1, _), (2, _), (6, _), (7, _), (8, _)] ?_ ⟨rfl, rfl, rfl, rfl, rfl, rfl, trivial⟩
  refine WP.next ?_
  refine WP.seq ?_
  refine WP.seq ?_
  refine WP.region [0, 1, 2, 3, 4, 5, 6, 7, 8, 9, 10, 11, 12, 13] rfl ?_
  refine WP.val rfl rfl rfl rfl (Yld.move rfl rfl) ?_
  refine WP.val rfl rfl rfl rfl (Yld.not rfl rfl) ?_
  refine WP.val rfl rfl rfl rfl (Yld.move rfl rfl) ?_
  refine WP.valG rfl rfl rfl rfl rfl rfl rfl (Yld.move rfl rfl) ?_
  refine WP.valG rfl rfl rfl rfl rfl rfl rfl (Yld.eqlNil rfl ty_pt_55 rfl rfl) ?_
  refine WP.val rfl rfl rfl rfl (Yld.pickF rfl rfl rfl) ?_
  refine WP.val rfl rfl rfl rfl (Yld.move rfl rfl) ?_
  refine WP.valG rfl rfl rfl rfl rfl rfl rfl (Yld.move rfl rfl) ?_
  refine WP.splitG rfl rfl rfl rfl rfl rfl rfl (Yld.lss rfl rfl rfl) (fun hlo => ?_) (fun hlo => ?_)
  · refine WP.val rfl rfl rfl rfl (Yld.pickF rfl rfl rfl) ?_
    refine WP.val rfl rfl rfl rfl (Yld.move rfl rfl) ?_
    refine WP.passG rfl rfl rfl rfl rfl rfl rfl rfl ?_
    refine WP.passG rfl rfl rfl rfl rfl rfl rfl rfl ?_
    refine WP.val rfl rfl rfl rfl (Yld.pickT rfl rfl rfl) ?_
    refine WP.nil ?_
    refine WP.sub [(0, _), (1, _), (2, _), (6, _), (7, _), (8, _), (39, _)] ?_ ⟨rfl, rfl, rfl, rfl, rfl, rfl, rfl, trivial⟩
    refine WP.next ?_
    refine WP.condT rfl ?_
    refine WP.seq ?_
    refine WP.region [0, 1, 2, 3, 4, 5] rfl ?_
    refine WP.val rfl rfl rfl rfl (Yld.move rfl rfl) ?_
    refine WP.val rfl rfl rfl rfl (Yld.move rfl rfl) ?_
    refine WP.valG rfl rfl rfl rfl rfl rfl rfl (Yld.move rfl rfl) ?_
    refine WP.valG rfl rfl rfl rfl rfl rfl rfl (Yld.neqNil rfl ty_pt_55 rfl rfl) ?_
    refine WP.val rfl rfl rfl rfl (Yld.pickT rfl rfl rfl) ?_
    refine WP.val rfl rfl rfl rfl (Yld.assign rfl rfl) ?_
    refine WP.nil ?_
    refine WP.sub [(0, _), (1, _), (2, _), (6, _), (7, _), (8, _), (39, _)] ?_ ⟨rfl, rfl, rfl, rfl, rfl, rfl, rfl, trivial⟩
    refine WP.next ?_
    refine WP.ret ?_
    refine WP.fin .ret (.inr rfl) (res1 rfl rfl) [] (by repeat (first | exact Take.nil | with_reducible apply Take.cons | apply Take.app | exact Rm.chunk | exact Rm.here | exact Rm.nil0 | apply Rm.skip | apply Rm.skipS | (focus (apply Take.all; (repeat (first | exact Rm.chunk | exact Rm.here | exact Rm.nil0 | apply Rm.skip | apply Rm.skipS)); done)) | apply Take.cons)) (by repeat (first | exact Leave.done | apply Leave.drop | apply Leave.dropS)) hJa ?_
    exact ⟨rfl, rfl⟩
  · refine WP.val rfl rfl rfl rfl (Yld.pickF rfl rfl rfl) ?_
    refine WP.val rfl rfl rfl rfl (Yld.move rfl rfl) ?_
    refine WP.valG rfl rfl rfl rfl rfl rfl rfl (Yld.move rfl rfl) ?_
    refine WP.splitG rfl rfl rfl rfl rfl rfl rfl (Yld.gtr rfl rfl rfl) (fun hhi => ?_) (fun hhi => ?_)
    · refine WP.val rfl rfl rfl rfl (Yld.pickF rfl rfl rfl) ?_
      refine WP.nil ?_
      refine WP.sub [(0, _), (1, _), (2, _), (6, _), (7, _), (8, _), (39, _)] ?_ ⟨rfl, rfl, rfl, rfl, rfl, rfl, rfl, trivial⟩
      refine WP.next ?_
      refine WP.condT rfl ?_
      refine WP.seq ?_
      refine WP.region [0, 1, 2, 3, 4, 5] rfl ?_
      refine WP.val rfl rfl rfl rfl (Yld.move rfl rfl) ?_
      refine WP.val rfl rfl rfl rfl (Yld.move rfl rfl) ?_
      refine WP.valG rfl rfl rfl rfl rfl rfl rfl (Yld.move rfl rfl) ?_
      refine WP.valG rfl rfl rfl rfl rfl rfl rfl (Yld.neqNil rfl ty_pt_55 rfl rfl) ?_
      refine WP.val rfl rfl rfl rfl (Yld.pickT rfl rfl rfl) ?_
      refine WP.val rfl rfl rfl rfl (Yld.assign rfl rfl) ?_
      refine WP.nil ?_
      refine WP.sub [(0, _), (1, _), (2, _), (6, _), (7, _), (8, _), (39, _)] ?_ ⟨rfl, rfl, rfl, rfl, rfl, rfl, rfl, trivial⟩
      refine WP.next ?_
      refine WP.ret ?_
      refine WP.fin .ret (.inr rfl) (res1 rfl rfl) [] (by repeat (first | exact Take.nil | with_reducible apply Take.cons | apply Take.app | exact Rm.chunk | exact Rm.here | exact Rm.nil0 | apply Rm.skip | apply Rm.skipS | (focus (apply Take.all; (repeat (first | exact Rm.chunk | exact Rm.here | exact Rm.nil0 | apply Rm.skip | apply Rm.skipS)); done)) | apply Take.cons)) (by repeat (first | exact Leave.done | apply Leave.drop | apply Leave.dropS)) hJa ?_
      exact ⟨rfl, rfl⟩
    · refine WP.val rfl rfl rfl rfl (Yld.pickF rfl rfl rfl) ?_
      refine WP.nil ?_
      refine WP.sub [(0, _), (1, _), (2, _), (6, _), (7, _), (8, _), (39, _)] ?_ ⟨rfl, rfl, rfl, rfl, rfl, rfl, rfl, trivial⟩
      refine WP.next ?_
      refine WP.condF rfl ?_
      refine WP.skip ?_
      refine WP.next ?_
      refine WP.seq ?_
      refine WP.region [0, 1, 2, 3, 4, 5, 6] rfl ?_
      refine WP.val rfl rfl rfl rfl (Yld.move rfl rfl) ?_
      refine WP.loud rfl rfl ?_
      refine Op.call (tabT_Alloc hT0 (by omega)) rfl Try.func29 rfl rfl rfl rfl (by repeat (first | exact Take.nil | with_reducible apply Take.cons | apply Take.app | exact Rm.chunk | exact Rm.here | exact Rm.nil0 | apply Rm.skip | apply Rm.skipS | (focus (apply Take.all; (repeat (first | exact Rm.chunk | exact Rm.here | exact Rm.nil0 | apply Rm.skip | apply Rm.skipS)); done)) | apply Take.cons)) ?_
      rintro v J1 L1 hJ1 ⟨p1, hp1, hpa1, hpn1, hor1⟩
      try simp only [List.cons_append, List.nil_append, List.append_assoc]
      obtain rfl : p1 = 1 := least_eq hp1 hpa1 hpn1 (by decide) (hg0 1) (fun k h1 h2 => by omega)
      rcases hor1 with ⟨h, _⟩ | ⟨_, rfl, x1, hu1, hT1⟩
      · exact absurd h (by decide)
      obtain ⟨b1, hg1⟩ := hu1.get
      have ht1 := hu1.tok
      have hn1 := hu1.next
      have hs1 := hu1.s3
      have hsa1 := hu1.s1
      refine WP.val rfl rfl rfl rfl (Yld.move rfl rfl) ?_
      refine WP.val rfl rfl rfl rfl (Yld.extract rfl rfl rfl) ?_
      refine WP.val rfl rfl rfl rfl (Yld.extract rfl rfl rfl) ?_
      refine WP.val rfl rfl rfl rfl (Yld.assign rfl rfl) ?_
      refine WP.val rfl rfl rfl rfl (Yld.assign rfl rfl) ?_
      refine WP.nil ?_
      refine WP.sub [(0, _), (1, _), (2, _), (6, _), (7, _), (8, _), (9, _), (10, _), (39, _)] ?_ ⟨rfl, rfl, rfl, rfl, rfl, rfl, rfl, rfl, rfl, trivial⟩
      refine WP.next ?_
      refine WP.seq ?_
      refine WP.seq ?_
      refine WP.region [0, 1] rfl ?_
      refine WP.val rfl rfl rfl rfl (Yld.move rfl rfl) ?_
      refine WP.val rfl rfl rfl rfl (Yld.neq rfl rfl rfl false (decide_eq_false (by omega))) ?_
      refine WP.nil ?_
      refine WP.sub [(0, _), (1, _), (2, _), (6, _), (7, _), (8, _), (9, _), (10, _), (39, _), (51, _)] ?_ ⟨rfl, rfl, rfl, rfl, rfl, rfl, rfl, rfl, rfl, rfl, trivial⟩
      refine WP.next ?_
      refine WP.condF rfl ?_
      refine WP.skip ?_
      refine WP.next ?_
      refine WP.seq ?_
      obtain ⟨n, rfl⟩ : ∃ n : Nat, a0 = (n : Int) := ⟨a0.toNat, by omega⟩
      refine WP.region [0, 1, 2] rfl ?_
      refine WP.val rfl rfl rfl rfl (Yld.move rfl rfl) ?_
      refine WP.loud rfl rfl ?_
      refine Op.make (l := n) (c := n) rfl ty_sl_59 ty_el_59 rfl rfl rfl rfl rfl (Nat.le_refl _) (by omega) (by omega) (fun br => ?_)
      rw [natsZ]
      refine WP.val rfl rfl rfl rfl (Yld.assign rfl rfl) ?_
      refine WP.nil ?_
      refine WP.sub [(0, _), (1, _), (2, _), (6, _), (7, _), (8, _), (9, _), (10, _), (11, _), (39, _), (51, _)] ?_ ⟨rfl, rfl, rfl, rfl, rfl, rfl, rfl, rfl, rfl, rfl, rfl, trivial⟩
      refine WP.next ?_
      refine WP.seq ?_
      refine WP.region [0, 1, 2] rfl ?_
      refine WP.val rfl rfl rfl rfl (Yld.move rfl rfl) ?_
      refine WP.loud rfl rfl ?_
      refine Op.make (l := n) (c := n) rfl ty_sl_23 ty_el_23 rfl rfl rfl rfl rfl (Nat.le_refl _) (by omega) (by omega) (fun bh => ?_)
      rw [intsZ]
      refine WP.val rfl rfl rfl rfl (Yld.assign rfl rfl) ?_
      refine WP.nil ?_
      refine WP.sub [(0, _), (1, _), (2, _), (6, _), (7, _), (8, _), (9, _), (10, _), (11, _), (12, _), (39, _), (51, _)] ?_ ⟨rfl, rfl, rfl, rfl, rfl, rfl, rfl, rfl, rfl, rfl, rfl, rfl, trivial⟩
      refine WP.next ?_
      refine WP.seq ?_
      refine WP.region [0] rfl ?_
      refine WP.val rfl rfl rfl rfl (Yld.assign rfl rfl) ?_
      refine WP.nil ?_
      refine WP.next ?_
      refine WP.seq ?_
      refine WP.seq ?_
      refine WP.region [0] rfl ?_
      refine WP.val rfl rfl rfl rfl (Yld.assign rfl rfl) ?_
      refine WP.nil ?_
      refine WP.next ?_
      refine WP.block ?_
      refine WP.loop (X := OX × Nat) (fun u : OX × Nat => [(0, .int .i64 (n : Int)), (1, .slice Ao order.length co), (2, .bool a2), (8, .pointer (some ⟨t, 0, none⟩)), (9, .int .i64 1), (11, .slice (some ⟨br, 0, none⟩) n n), (12, .slice (some ⟨bh, 0, none⟩) n n), (13, .int .i64 u.1.won), (14, .int .i64 (u.2 : Int))]) (fun u => u.1.J) (fun u : OX × Nat => u.1.L ++ ((br, row 60 (u.1.rt.map natV)) :: ((bh, row 3 (u.1.hs.map (Value.int .i64))) :: F))) (fun u => u.2 ≤ order.length ∧ u.1.ok I t n u.2) (fun u => order.length - u.2) (⟨x1, J1, L1, List.replicate n 0, List.replicate n 0, 0⟩, 0) ⟨Nat.zero_le _, ⟨Imm.le_trans hJa hJ1, hT1, ⟨b1, _, (hg1 1).trans (if_pos rfl), Nat.le_of_eq ht1.symm⟩, (show x1.tok ≤ 1 by omega), by simp, by simp, Int.le_refl _, Int.le_refl _⟩⟩ ⟨rfl, rfl, rfl, rfl, rfl, rfl, rfl, rfl, rfl, trivial⟩ rfl (by (try simp only [List.append_eq, List.cons_append, List.nil_append, List.append_assoc]); repeat (first | exact Rm.chunk | exact Rm.here | exact Rm.nil0 | apply Rm.skip | apply Rm.skipS | apply PX.cons | (apply PX.done; (repeat (first | exact Leave.done | apply Leave.drop | apply Leave.dropS)); done) | apply PX.app)) ?_
      rintro ⟨⟨x, J2, L2, rt, hs, won⟩, i⟩ ⟨hle, ⟨hle2, hT, ⟨be, e, hget, het⟩, htk, hrl, hhl, hw0, hw1⟩⟩; dsimp only at hle hle2 hT hget het htk hrl hhl hw0 hw1
      try dsimp only
      try simp only [List.cons_append, List.nil_append, List.append_assoc]
      refine WP.seq ?_
      refine WP.seq ?_
      refine WP.region [0, 1, 2, 3] rfl ?_
      refine WP.val rfl rfl rfl rfl (Yld.move rfl rfl) ?_
      refine WP.val rfl rfl rfl rfl (Yld.move rfl rfl) ?_
      refine WP.val rfl rfl rfl rfl (Yld.len rfl ty_sl_23 rfl) ?_
      refine WP.split rfl rfl rfl rfl (Yld.lss rfl rfl rfl) (fun hlt => ?_) (fun hlt => ?_)
      · have hio : i < order.length := by omega
        have hor2 := hor.mono (Imv.le hle2)
        obtain ⟨bo, ko, To, fro, aro, rfl, hbo, _, hcel⟩ := hor2.elem hio
        have hcel0 := hcel 0 (by omega)
        rw [List.getElem?_eq_getElem (by simpa using hio)] at hcel0
        simp only [Nat.mul_one, Nat.add_zero, List.getElem_map] at hcel0
        refine WP.nil ?_
        refine WP.sub [(0, _), (1, _), (2, _), (8, _), (9, _), (11, _), (12, _), (13, _), (14, _), (59, _)] ?_ ⟨rfl, rfl, rfl, rfl, rfl, rfl, rfl, rfl, rfl, rfl, trivial⟩
        refine WP.next ?_
        refine WP.condT rfl ?_
        refine WP.skip ?_
        refine WP.next ?_
        refine WP.cut (X := OX) (fun u : OX => [(0, .int .i64 (n : Int)), (1, .slice (some ⟨bo, ko, none⟩) order.length co), (2, .bool a2), (8, .pointer (some ⟨t, 0, none⟩)), (9, .int .i64 1), (11, .slice (some ⟨br, 0, none⟩) n n), (12, .slice (some ⟨bh, 0, none⟩) n n), (13, .int .i64 u.won), (14, .int .i64 (i : Int))]) (fun u => u.J) (fun u : OX => u.L ++ ((br, row 60 (u.rt.map natV)) :: ((bh, row 3 (u.hs.map (Value.int .i64))) :: F))) (fun u => u.ok I t n (i + 1)) ?_ ?_
        · skip
          refine WP.block ?_
          refine WP.seq ?_
          refine WP.region [0, 1, 2, 3, 4, 5, 6] rfl ?_
          refine WP.val rfl rfl rfl rfl (Yld.move rfl rfl) ?_
          refine WP.val rfl rfl rfl rfl (Yld.move rfl rfl) ?_
          refine WP.val rfl rfl rfl rfl (Yld.indexAddr (i := i) rfl ty_sl_23 rfl rfl hio) ?_
          refine WP.val rfl rfl rfl rfl (Yld.loadC rfl ty_sc_3 rfl (There.i hbo) (by rw [Nat.mul_one]; exact hcel0)) ?_
          refine WP.val rfl rfl rfl rfl (Yld.move rfl rfl) ?_
          refine WP.val rfl rfl rfl rfl (Yld.rem rfl rfl rfl (by omega)) ?_
          refine WP.val rfl rfl rfl rfl (Yld.assign rfl rfl) ?_
          refine WP.nil ?_
          refine WP.sub [(0, _), (1, _), (2, _), (8, _), (9, _), (11, _), (12, _), (13, _), (14, _), (15, _), (59, _)] ?_ ⟨rfl, rfl, rfl, rfl, rfl, rfl, rfl, rfl, rfl, rfl, rfl, trivial⟩
          refine WP.next ?_
          refine WP.cut (X := Nat) (fun k : Nat => [(0, .int .i64 (n : Int)), (1, .slice (some ⟨bo, ko, none⟩) order.length co), (2, .bool a2), (8, .pointer (some ⟨t, 0, none⟩)), (9, .int .i64 1), (11, .slice (some ⟨br, 0, none⟩) n n), (12, .slice (some ⟨bh, 0, none⟩) n n), (13, .int .i64 won), (14, .int .i64 (i : Int)), (15, .int .i64 (k : Int))]) (fun _ => J2) (fun _ => L2 ++ ((br, row 60 (rt.map natV)) :: ((bh, row 3 (hs.map (Value.int .i64))) :: F))) (fun k => k < n) ?_ ?_
          · skip
            refine WP.seq ?_
            have htm := tmod_bd order[i] (n : Int) (by omega)
            refine WP.region [0, 1] rfl ?_
            refine WP.val rfl rfl rfl rfl (Yld.move rfl rfl) ?_
            refine WP.split rfl rfl rfl rfl (Yld.lss rfl rfl rfl) (fun hneg => ?_) (fun hneg => ?_)
            · refine WP.nil ?_
              refine WP.sub [(0, _), (1, _), (2, _), (8, _), (9, _), (11, _), (12, _), (13, _), (14, _), (15, _), (59, _), (69, _)] ?_ ⟨rfl, rfl, rfl, rfl, rfl, rfl, rfl, rfl, rfl, rfl, rfl, rfl, trivial⟩
              refine WP.next ?_
              refine WP.condT rfl ?_
              refine WP.region [0, 1, 2, 3] rfl ?_
              refine WP.val rfl rfl rfl rfl (Yld.move rfl rfl) ?_
              refine WP.val rfl rfl rfl rfl (Yld.move rfl rfl) ?_
              refine WP.val rfl rfl rfl rfl (Yld.add64 rfl rfl rfl (by omega)) ?_
              refine WP.val rfl rfl rfl rfl (Yld.assign rfl rfl) ?_
              refine WP.nil ?_
              refine WP.sub [(0, _), (1, _), (2, _), (8, _), (9, _), (11, _), (12, _), (13, _), (14, _), (15, _), (59, _), (69, _)] ?_ ⟨rfl, rfl, rfl, rfl, rfl, rfl, rfl, rfl, rfl, rfl, rfl, rfl, trivial⟩
              obtain ⟨k, hk⟩ : ∃ k : Nat, order[i].tmod (n : Int) + (n : Int) = (k : Int) := ⟨(order[i].tmod (n : Int) + (n : Int)).toNat, by omega⟩
              rw [hk]
              exact WP.meet k (show k < n by omega) ⟨rfl, rfl, rfl, rfl, rfl, rfl, rfl, rfl, rfl, rfl, trivial⟩ rfl (by (try simp only [List.append_eq, List.cons_append, List.nil_append, List.append_assoc]); repeat (first | exact Rm.chunk | exact Rm.here | exact Rm.nil0 | apply Rm.skip | apply Rm.skipS | apply PX.cons | (apply PX.done; (repeat (first | exact Leave.done | apply Leave.drop | apply Leave.dropS)); done) | apply PX.app))
            · refine WP.nil ?_
              refine WP.sub [(0, _), (1, _), (2, _), (8, _), (9, _), (11, _), (12, _), (13, _), (14, _), (15, _), (59, _), (69, _)] ?_ ⟨rfl, rfl, rfl, rfl, rfl, rfl, rfl, rfl, rfl, rfl, rfl, rfl, trivial⟩
              refine WP.next ?_
              refine WP.condF rfl ?_
              refine WP.skip ?_
              obtain ⟨k, hk⟩ : ∃ k : Nat, order[i].tmod (n : Int)  = (k : Int) := ⟨(order[i].tmod (n : Int) ).toNat, by omega⟩
              rw [hk]
              exact WP.meet k (show k < n by omega) ⟨rfl, rfl, rfl, rfl, rfl, rfl, rfl, rfl, rfl, rfl, trivial⟩ rfl (by (try simp only [List.append_eq, List.cons_append, List.nil_append, List.append_assoc]); repeat (first | exact Rm.chunk | exact Rm.here | exact Rm.nil0 | apply Rm.skip | apply Rm.skipS | apply PX.cons | (apply PX.done; (repeat (first | exact Leave.done | apply Leave.drop | apply Leave.dropS)); done) | apply PX.app))
          · intro k hk; have hk : k < n := hk
            refine WP.seq ?_
            refine WP.region [0, 1, 2, 3, 4, 5, 6, 7, 8] rfl ?_
            refine WP.val rfl rfl rfl rfl (Yld.move rfl rfl) ?_
            refine WP.val rfl rfl rfl rfl (Yld.move rfl rfl) ?_
            refine WP.loud rfl rfl ?_
            refine Op.call (tabT_Load1 hT hget) rfl Try.func30 rfl rfl rfl rfl (by repeat (first | exact Take.nil | with_reducible apply Take.cons | apply Take.app | exact Rm.chunk | exact Rm.here | exact Rm.nil0 | apply Rm.skip | apply Rm.skipS | (focus (apply Take.all; (repeat (first | exact Rm.chunk | exact Rm.here | exact Rm.nil0 | apply Rm.skip | apply Rm.skipS)); done)) | apply Take.cons)) ?_
            rintro v J3 L3 hJ3 ⟨cs3, rfl, hre3, hT3⟩
            try simp only [List.cons_append, List.nil_append, List.append_assoc]
            obtain ⟨vn3, vw3, nv3, rfl, hvn3, hvo3, hvw3⟩ := hre3.ex
            obtain ⟨An3, cn3, rfl, hcn3⟩ := hvn3.slice'
            obtain ⟨Aw3, cw3, rfl, hcw3⟩ := hvw3.slice'
            refine WP.val rfl rfl rfl rfl (Yld.move rfl rfl) ?_
            refine WP.val rfl rfl rfl rfl (Yld.extract rfl rfl rfl) ?_
            refine WP.val rfl rfl rfl rfl (Yld.extract rfl rfl rfl) ?_
            refine WP.loud rfl rfl ?_
            refine Op.alloc rfl rfl rfl ty_zr_63 (fun b16 => ?_)
            refine WP.loud rfl rfl ?_
            refine Op.storeAll rfl rfl ty_sz_63 rfl rfl rfl rfl (by repeat (first | exact Upd.head | apply Upd.tail | apply Upd.tailS)) rfl ?_
            refine WP.val rfl rfl rfl rfl (Yld.assign rfl rfl) ?_
            refine WP.nil ?_
            refine WP.sub [(0, _), (1, _), (2, _), (8, _), (9, _), (11, _), (12, _), (13, _), (14, _), (15, _), (16, _), (17, _)] ?_ ⟨rfl, rfl, rfl, rfl, rfl, rfl, rfl, rfl, rfl, rfl, rfl, rfl, trivial⟩
            refine WP.next ?_
            refine WP.seq ?_
            refine WP.seq ?_
            refine WP.region [0, 1] rfl ?_
            refine WP.val rfl rfl rfl rfl (Yld.move rfl rfl) ?_
            refine WP.val rfl rfl rfl rfl (Yld.neq rfl rfl rfl false (decide_eq_false (by omega))) ?_
            refine WP.nil ?_
            refine WP.sub [(0, _), (1, _), (2, _), (8, _), (9, _), (11, _), (12, _), (13, _), (14, _), (15, _), (16, _), (17, _), (80, _)] ?_ ⟨rfl, rfl, rfl, rfl, rfl, rfl, rfl, rfl, rfl, rfl, rfl, rfl, rfl, trivial⟩
            refine WP.next ?_
            refine WP.condF rfl ?_
            refine WP.skip ?_
            refine WP.next ?_
            refine WP.seq ?_
            refine WP.seq ?_
            refine WP.region [0, 1, 2, 3, 4] rfl ?_
            refine WP.val rfl rfl rfl rfl (Yld.move rfl rfl) ?_
            refine WP.val rfl rfl rfl rfl (Yld.move rfl rfl) ?_
            refine WP.val rfl rfl rfl rfl (Yld.indexAddr (i := k) rfl ty_sl_23 rfl rfl (by omega)) ?_
            refine WP.val rfl rfl rfl rfl (Yld.load rfl ty_sc_3 rfl (by repeat (first | exact There.h | exact There.i (by assumption) | apply There.t | apply There.s)) (map_at0 (f := Value.int .i64) (by omega))) ?_
            refine WP.split rfl rfl rfl rfl (Yld.eql rfl rfl rfl) (fun hz => ?_) (fun hz => ?_)
            · refine WP.nil ?_
              refine WP.sub [(0, _), (1, _), (2, _), (8, _), (9, _), (11, _), (12, _), (13, _), (14, _), (15, _), (16, _), (17, _), (80, _), (85, _)] ?_ ⟨rfl, rfl, rfl, rfl, rfl, rfl, rfl, rfl, rfl, rfl, rfl, rfl, rfl, rfl, trivial⟩
              refine WP.next ?_
              refine WP.condT rfl ?_
              refine WP.seq ?_
              refine WP.region [0, 1, 2, 3, 4, 5] rfl ?_
              refine WP.val rfl rfl rfl rfl (Yld.move rfl rfl) ?_
              refine WP.val rfl rfl rfl rfl (Yld.move rfl rfl) ?_
              refine WP.val rfl rfl rfl rfl (Yld.fieldAddr rfl ty_fd_63_0 rfl) ?_
              refine WP.val rfl rfl rfl rfl (Yld.load rfl ty_sc_60 rfl (by repeat (first | exact There.h | exact There.i (by assumption) | apply There.t | apply There.s)) rfl) ?_
              refine WP.val rfl rfl rfl rfl (Yld.indexAddr (i := k) rfl ty_sl_59 rfl rfl (by omega)) ?_
              refine WP.loud rfl rfl ?_
              refine Op.store1 rfl rfl ty_sz_60 rfl rfl rfl (by repeat (first | exact Upd.head | apply Upd.tail | apply Upd.tailS)) (map_set (f := natV) e.tok (by omega)) ?_
              refine WP.nil ?_
              refine WP.sub [(0, _), (1, _), (2, _), (8, _), (9, _), (11, _), (12, _), (13, _), (14, _), (15, _), (16, _), (17, _), (80, _), (85, _)] ?_ ⟨rfl, rfl, rfl, rfl, rfl, rfl, rfl, rfl, rfl, rfl, rfl, rfl, rfl, rfl, trivial⟩
              refine WP.next ?_
              refine WP.seq ?_
              refine WP.region [0, 1, 2, 3] rfl ?_
              refine WP.val rfl rfl rfl rfl (Yld.move rfl rfl) ?_
              refine WP.val rfl rfl rfl rfl (Yld.move rfl rfl) ?_
              refine WP.val rfl rfl rfl rfl (Yld.indexAddr (i := k) rfl ty_sl_23 rfl rfl (by omega)) ?_
              refine WP.loud rfl rfl ?_
              refine Op.store1 rfl rfl ty_sz_3 rfl rfl rfl (by repeat (first | exact Upd.head | apply Upd.tail | apply Upd.tailS)) (map_set (f := Value.int .i64) 1 (by omega)) ?_
              refine WP.nil ?_
              refine WP.sub [(0, _), (1, _), (2, _), (8, _), (9, _), (11, _), (12, _), (13, _), (14, _), (15, _), (16, _), (17, _), (80, _), (85, _)] ?_ ⟨rfl, rfl, rfl, rfl, rfl, rfl, rfl, rfl, rfl, rfl, rfl, rfl, rfl, rfl, trivial⟩
              refine WP.next ?_
              refine WP.exit ?_
              refine WP.thenE ?_
              refine WP.hit ?_
              exact WP.meet (⟨x, J3, L3, rt.set k e.tok, hs.set k 1, won⟩ : OX) ⟨Imm.le_trans hle2 hJ3, hT3, ⟨be, e, hget, het⟩, by (try dsimp only); omega, by simpa using hrl, by simpa using hhl, hw0, by (try dsimp only); omega⟩ ⟨rfl, rfl, rfl, rfl, rfl, rfl, rfl, rfl, rfl, trivial⟩ rfl (by (try simp only [List.append_eq, List.cons_append, List.nil_append, List.append_assoc]); repeat (first | exact Rm.chunk | exact Rm.here | exact Rm.nil0 | apply Rm.skip | apply Rm.skipS | apply PX.cons | (apply PX.done; (repeat (first | exact Leave.done | apply Leave.drop | apply Leave.dropS)); done) | apply PX.app))
            · refine WP.nil ?_
              refine WP.sub [(0, _), (1, _), (2, _), (8, _), (9, _), (11, _), (12, _), (13, _), (14, _), (15, _), (16, _), (17, _), (80, _), (85, _)] ?_ ⟨rfl, rfl, rfl, rfl, rfl, rfl, rfl, rfl, rfl, rfl, rfl, rfl, rfl, rfl, trivial⟩
              refine WP.next ?_
              refine WP.condF rfl ?_
              refine WP.skip ?_
              refine WP.next ?_
              refine WP.seq ?_
              refine WP.region [0, 1, 2, 3, 4, 5, 6, 7, 8, 9, 10, 11, 12, 13] rfl ?_
              refine WP.val rfl rfl rfl rfl (Yld.move rfl rfl) ?_
              refine WP.val rfl rfl rfl rfl (Yld.move rfl rfl) ?_
              refine WP.val rfl rfl rfl rfl (Yld.move rfl rfl) ?_
              refine WP.val rfl rfl rfl rfl (Yld.move rfl rfl) ?_
              refine WP.val rfl rfl rfl rfl (Yld.indexAddr (i := k) rfl ty_sl_59 rfl rfl (by omega)) ?_
              refine WP.val rfl rfl rfl rfl (Yld.load rfl ty_sc_60 rfl (by repeat (first | exact There.h | exact There.i (by assumption) | apply There.t | apply There.s)) (map_at0 (f := natV) (by omega))) ?_
              refine WP.val rfl rfl rfl rfl (Yld.move rfl rfl) ?_
              refine WP.val rfl rfl rfl rfl (Yld.conv rfl ty_un_3 ty_ik_5 rfl) ?_
              rw [wrap8 k (by omega)]
              refine WP.loud rfl rfl ?_
              refine Op.buildSlice rfl ty_sl_67 ty_el2_67 rfl rfl rfl rfl (vs := [_]) rfl (segs := [(0, [_])]) (cs := bytesV [UInt8.ofNat k]) rfl rfl (by repeat (first | exact SetSeg.nil | apply SetSeg.one | exact SetAt.zero | apply SetAt.succ)) (fun bz => ?_)
              refine WP.share (fun J4 hJ4 hb4 => ?_)
              refine WP.val rfl rfl rfl rfl (Yld.buildS (pl := [(1, 1, 1)]) rfl ty_zr_69 ty_zd_69 (by kernel_rfl) rfl (vs := [_]) rfl (segs := [(1, [_])]) rfl rfl (by repeat (first | exact SetSeg.nil | apply SetSeg.one | exact SetAt.zero | apply SetAt.succ))) ?_
              refine WP.loud rfl rfl ?_
              refine Op.buildSlice rfl ty_sl_61 ty_el2_61 rfl rfl rfl rfl (vs := [_]) rfl (segs := [(0, [.bool false, .slice (some ⟨bz, 0, none⟩) 1 1])]) (cs := [.bool false, .slice (some ⟨bz, 0, none⟩) 1 1]) rfl rfl (SetSeg.seg (Nat.le_of_ble_eq_true rfl) rfl .nil) (fun bn => ?_)
              refine WP.share (fun J5 hJ5 hb5 => ?_)
              have hT4 := hT3.mono (Imm.le_trans hJ4 hJ5)
              have hd4 : SlRd (Imv J5) (.slice (some ⟨bz, 0, none⟩) 1 1) [UInt8.ofNat k].length 1 (bytesV [UInt8.ofNat k]) := SlRd.lit (hJ5.2 _ _ hb4) rfl (Nat.le_refl _)
              refine WP.val rfl rfl rfl rfl (Yld.buildS (pl := [(1, 1, 1)]) rfl ty_zr_63 ty_zd_63 (by kernel_rfl) rfl (vs := [_]) rfl (segs := [(1, [_])]) rfl rfl (by repeat (first | exact SetSeg.nil | apply SetSeg.one | exact SetAt.zero | apply SetAt.succ))) ?_
              refine WP.loud rfl rfl ?_
              refine Op.call (tabT_SwapIn (tk := rt[k]) hT4 (one_rent hd4 hb5) (one_sized false (Nat.le_of_ble_eq_true rfl)) (by omega) (one_may _ _) hget) rfl Try.func31 rfl rfl rfl rfl (by repeat (first | exact Take.nil | with_reducible apply Take.cons | apply Take.app | exact Rm.chunk | exact Rm.here | exact Rm.nil0 | apply Rm.skip | apply Rm.skipS | (focus (apply Take.all; (repeat (first | exact Rm.chunk | exact Rm.here | exact Rm.nil0 | apply Rm.skip | apply Rm.skipS)); done)) | apply Take.cons)) ?_
              rintro v J6 L6 hJ6 ⟨x5, rfl, hT5, hsw, hns⟩
              try simp only [List.cons_append, List.nil_append, List.append_assoc]
              have htk5 : x5.tok ≤ x.tok + 1 := by by_cases h : e.tok = rt[k]; (have := (hsw h).tok; omega); (rw [hns h]; omega)
              have hge6 : ∃ b e', x5.get 1 = some (b, e') ∧ e'.tok ≤ x5.tok := by by_cases h : e.tok = rt[k]; (obtain ⟨b, hb⟩ := (hsw h).get; have := (hsw h).tok; exact ⟨b, _, (hb 1).trans (if_pos rfl), by (try dsimp only); omega⟩); (rw [hns h]; exact ⟨be, e, hget, het⟩)
              refine WP.val rfl rfl rfl rfl (Yld.assign rfl rfl) ?_
              refine WP.nil ?_
              refine WP.sub [(0, _), (1, _), (2, _), (8, _), (9, _), (11, _), (12, _), (13, _), (14, _), (15, _), (16, _), (17, _), (18, _), (80, _), (85, _)] ?_ ⟨rfl, rfl, rfl, rfl, rfl, rfl, rfl, rfl, rfl, rfl, rfl, rfl, rfl, rfl, rfl, trivial⟩
              refine WP.next ?_
              refine WP.seq ?_
              refine WP.region [0, 1, 2, 3] rfl ?_
              refine WP.val rfl rfl rfl rfl (Yld.move rfl rfl) ?_
              refine WP.val rfl rfl rfl rfl (Yld.move rfl rfl) ?_
              refine WP.val rfl rfl rfl rfl (Yld.indexAddr (i := k) rfl ty_sl_23 rfl rfl (by omega)) ?_
              refine WP.loud rfl rfl ?_
              refine Op.store1 rfl rfl ty_sz_3 rfl rfl rfl (by repeat (first | exact Upd.head | apply Upd.tail | apply Upd.tailS)) (map_set (f := Value.int .i64) 0 (by omega)) ?_
              refine WP.nil ?_
              refine WP.sub [(0, _), (1, _), (2, _), (8, _), (9, _), (11, _), (12, _), (13, _), (14, _), (15, _), (16, _), (17, _), (18, _), (80, _), (85, _)] ?_ ⟨rfl, rfl, rfl, rfl, rfl, rfl, rfl, rfl, rfl, rfl, rfl, rfl, rfl, rfl, rfl, trivial⟩
              refine WP.next ?_
              refine WP.seq ?_
              refine WP.seq ?_
              refine WP.region [0, 1] rfl ?_
              refine WP.val rfl rfl rfl rfl (Yld.move rfl rfl) ?_
              refine WP.split rfl rfl rfl rfl (Yld.eql rfl rfl rfl) (fun hw => ?_) (fun hw => ?_)
              · have heq : e.tok = rt[k] := by by_cases h : e.tok = rt[k]; exact h; (rw [if_neg h] at hw; exact absurd hw (by decide))
                obtain ⟨b6, hg6⟩ := (hsw heq).get
                have htk6 := (hsw heq).tok
                refine WP.nil ?_
                refine WP.sub [(0, _), (1, _), (2, _), (8, _), (9, _), (11, _), (12, _), (13, _), (14, _), (15, _), (16, _), (17, _), (18, _), (80, _), (85, _), (111, _)] ?_ ⟨rfl, rfl, rfl, rfl, rfl, rfl, rfl, rfl, rfl, rfl, rfl, rfl, rfl, rfl, rfl, rfl, trivial⟩
                refine WP.next ?_
                refine WP.condT rfl ?_
                refine WP.seq ?_
                refine WP.region [0, 1, 2] rfl ?_
                refine WP.val rfl rfl rfl rfl (Yld.move rfl rfl) ?_
                refine WP.val rfl rfl rfl rfl (Yld.add64 rfl rfl rfl (by omega)) ?_
                refine WP.val rfl rfl rfl rfl (Yld.assign rfl rfl) ?_
                refine WP.nil ?_
                refine WP.sub [(0, _), (1, _), (2, _), (8, _), (9, _), (11, _), (12, _), (13, _), (14, _), (15, _), (16, _), (17, _), (18, _), (80, _), (85, _), (111, _)] ?_ ⟨rfl, rfl, rfl, rfl, rfl, rfl, rfl, rfl, rfl, rfl, rfl, rfl, rfl, rfl, rfl, rfl, trivial⟩
                refine WP.next ?_
                refine WP.seq ?_
                refine WP.region [0, 1, 2, 3, 4, 5, 6, 7, 8] rfl ?_
                refine WP.val rfl rfl rfl rfl (Yld.move rfl rfl) ?_
                refine WP.val rfl rfl rfl rfl (Yld.move rfl rfl) ?_
                refine WP.loud rfl rfl ?_
                refine Op.call (tabT_Load1 hT5 ((hg6 1).trans (if_pos rfl))) rfl Try.func30 rfl rfl rfl rfl (by repeat (first | exact Take.nil | with_reducible apply Take.cons | apply Take.app | exact Rm.chunk | exact Rm.here | exact Rm.nil0 | apply Rm.skip | apply Rm.skipS | (focus (apply Take.all; (repeat (first | exact Rm.chunk | exact Rm.here | exact Rm.nil0 | apply Rm.skip | apply Rm.skipS)); done)) | apply Take.cons)) ?_
                rintro v J7 L7 hJ7 ⟨cs7, rfl, hre7, hT6⟩
                try simp only [List.cons_append, List.nil_append, List.append_assoc]
                obtain ⟨vn7, vw7, nv7, rfl, hvn7, hvo7, hvw7⟩ := hre7.ex
                obtain ⟨An7, cn7, rfl, hcn7⟩ := hvn7.slice'
                obtain ⟨Aw7, cw7, rfl, hcw7⟩ := hvw7.slice'
                obtain ⟨bq, kq, Tq, frq, arq, rfl, hbq, _, hcelq⟩ := hvn7.elem (i := 0) (show 0 < 1 by decide)
                have hlq : nv7.length = 1 := hvo7.len
                obtain ⟨dq, hdq1, hdq2⟩ := hvo7.at_ 0 nv7[0] (List.getElem?_eq_getElem (by omega))
                obtain rfl : dq = [UInt8.ofNat k] := (Option.some.inj (congrArg (Option.map Prod.snd) hdq1)).symm
                have hcq := hcelq 1 (by decide)
                have hcq : arq[kq + 0 * 2 + 1]? = some nv7[0].2 := by have := hcelq 1 (by decide); rw [this]; have := flat_at' ndV_len nv7 0 1 (by omega) (by decide) []; rw [List.append_nil] at this; rw [this]; rfl
                obtain ⟨vq2, hvq2⟩ : ∃ v, nv7[0].2 = v := ⟨_, rfl⟩
                rw [hvq2] at hdq2 hcq
                obtain ⟨Aq2, cq2, rfl, hcq2⟩ := hdq2.slice'
                obtain ⟨br2, kr2, Tr2, frr2, arr2, rfl, hbr2, _, hcelr⟩ := hdq2.elem (i := 0) (show 0 < 1 by decide)
                have hcr := hcelr 0 (by decide)
                refine WP.val rfl rfl rfl rfl (Yld.move rfl rfl) ?_
                refine WP.val rfl rfl rfl rfl (Yld.extract rfl rfl rfl) ?_
                refine WP.val rfl rfl rfl rfl (Yld.extract rfl rfl rfl) ?_
                refine WP.loud rfl rfl ?_
                refine Op.alloc rfl rfl rfl ty_zr_63 (fun b19 => ?_)
                refine WP.loud rfl rfl ?_
                refine Op.storeAll rfl rfl ty_sz_63 rfl rfl rfl rfl (by repeat (first | exact Upd.head | apply Upd.tail | apply Upd.tailS)) rfl ?_
                refine WP.val rfl rfl rfl rfl (Yld.assign rfl rfl) ?_
                refine WP.nil ?_
                refine WP.sub [(0, _), (1, _), (2, _), (8, _), (9, _), (11, _), (12, _), (13, _), (14, _), (15, _), (16, _), (17, _), (18, _), (19, _), (20, _), (80, _), (85, _), (111, _)] ?_ ⟨rfl, rfl, rfl, rfl, rfl, rfl, rfl, rfl, rfl, rfl, rfl, rfl, rfl, rfl, rfl, rfl, rfl, rfl, trivial⟩
                refine WP.next ?_
                refine WP.seq ?_
                refine WQ.startAll Trymixed (by kernel_rfl) _ rfl ?_
                refine WQ.val rfl rfl rfl (Yld.move rfl rfl) ?_
                refine WQ.val rfl rfl rfl (Yld.neq rfl rfl rfl false (decide_eq_false (by omega))) ?_
                refine WQ.val rfl rfl rfl (Yld.move rfl rfl) ?_
                refine WQ.valG rfl rfl rfl rfl rfl rfl (Yld.fieldAddr rfl ty_fd_63_0 rfl) ?_
                refine WQ.valG rfl rfl rfl rfl rfl rfl (Yld.load rfl ty_sc_60 rfl (by repeat (first | exact There.h | exact There.i (by assumption) | apply There.t | apply There.s)) rfl) ?_
                refine WQ.valG rfl rfl rfl rfl rfl rfl (Yld.move rfl rfl) ?_
                refine WQ.valG rfl rfl rfl rfl rfl rfl (Yld.move rfl rfl) ?_
                refine WQ.valG rfl rfl rfl rfl rfl rfl (Yld.indexAddr (i := k) rfl ty_sl_59 rfl rfl (by omega)) ?_
                refine WQ.valG rfl rfl rfl rfl rfl rfl (Yld.load rfl ty_sc_60 rfl (by repeat (first | exact There.h | exact There.i (by assumption) | apply There.t | apply There.s)) (map_at0 (f := natV) (by omega))) ?_
                refine WQ.valG rfl rfl rfl rfl rfl rfl (Yld.neq rfl rfl rfl false (decide_eq_false (by exact fun h => h (by rw [heq])))) ?_
                refine WQ.val rfl rfl rfl (Yld.pickF rfl rfl rfl) ?_
                refine WQ.val rfl rfl rfl (Yld.move rfl rfl) ?_
                refine WQ.valG rfl rfl rfl rfl rfl rfl (Yld.fieldAddr rfl ty_fd_63_0 rfl) ?_
                refine WQ.valG rfl rfl rfl rfl rfl rfl (Yld.load rfl ty_sc_60 rfl (by repeat (first | exact There.h | exact There.i (by assumption) | apply There.t | apply There.s)) rfl) ?_
                refine WQ.valG rfl rfl rfl rfl rfl rfl (Yld.move rfl rfl) ?_
                refine WQ.valG rfl rfl rfl rfl rfl rfl (Yld.move rfl rfl) ?_
                refine WQ.valG rfl rfl rfl rfl rfl rfl (Yld.indexAddr (i := k) rfl ty_sl_59 rfl rfl (by omega)) ?_
                refine WQ.valG rfl rfl rfl rfl rfl rfl (Yld.load rfl ty_sc_60 rfl (by repeat (first | exact There.h | exact There.i (by assumption) | apply There.t | apply There.s)) (map_at0 (f := natV) (by omega))) ?_
                refine WQ.valG rfl rfl rfl rfl rfl rfl (Yld.eql rfl rfl rfl false (decide_eq_false (by show ¬ ((x.tok + 1 : Nat) : Int) = (rt[k] : Int); omega))) ?_
                refine WQ.val rfl rfl rfl (Yld.pickF rfl rfl rfl) ?_
                refine WQ.val rfl rfl rfl (Yld.move rfl rfl) ?_
                refine WQ.valG rfl rfl rfl rfl rfl rfl (Yld.fieldAddr rfl ty_fd_63_1 rfl) ?_
                refine WQ.valG rfl rfl rfl rfl rfl rfl (Yld.load rfl ty_sc_61 rfl (by repeat (first | exact There.h | exact There.i (by assumption) | apply There.t | apply There.s)) rfl) ?_
                refine WQ.valG rfl rfl rfl rfl rfl rfl (Yld.len rfl ty_sl_61 rfl) ?_
                refine WQ.valG rfl rfl rfl rfl rfl rfl (Yld.neq rfl rfl rfl false (decide_eq_false (by show ¬ ((1 : Nat) : Int) ≠ 1; decide))) ?_
                refine WQ.val rfl rfl rfl (Yld.pickF rfl rfl rfl) ?_
                refine WQ.val rfl rfl rfl (Yld.move rfl rfl) ?_
                refine WQ.valG rfl rfl rfl rfl rfl rfl (Yld.fieldAddr rfl ty_fd_63_1 rfl) ?_
                refine WQ.valG rfl rfl rfl rfl rfl rfl (Yld.load rfl ty_sc_61 rfl (by repeat (first | exact There.h | exact There.i (by assumption) | apply There.t | apply There.s)) rfl) ?_
                refine WQ.valG rfl rfl rfl rfl rfl rfl (Yld.indexAddr (i := 0) rfl ty_sl_61 rfl rfl (show 0 < 1 by decide)) ?_
                refine WQ.valG rfl rfl rfl rfl rfl rfl (Yld.fieldAddr rfl ty_fd_69_1 rfl) ?_
                refine WQ.valG rfl rfl rfl rfl rfl rfl (Yld.loadC rfl ty_sc_67 rfl (There.i hbq) hcq) ?_
                refine WQ.valG rfl rfl rfl rfl rfl rfl (Yld.indexAddr (i := 0) rfl ty_sl_67 rfl rfl (show 0 < 1 by decide)) ?_
                refine WQ.valG rfl rfl rfl rfl rfl rfl (Yld.loadC rfl ty_sc_5 rfl (There.i hbr2) hcr) ?_
                refine WQ.valG rfl rfl rfl rfl rfl rfl (Yld.conv64 rfl ty_un_5 ty_ik_3 rfl (by rw [u8_of k (by omega)]; omega)) ?_
                refine WQ.valG rfl rfl rfl rfl rfl rfl (Yld.move rfl rfl) ?_
                refine WQ.valG rfl rfl rfl rfl rfl rfl (Yld.neq rfl rfl rfl false (decide_eq_false (by rw [u8_of k (by omega)]; omega))) ?_
                refine WQ.val rfl rfl rfl (Yld.pickF rfl rfl rfl) ?_
                refine WQ.nil ?_
                refine WP.sub [(0, _), (1, _), (2, _), (8, _), (9, _), (11, _), (12, _), (13, _), (14, _), (15, _), (16, _), (17, _), (18, _), (19, _), (20, _), (80, _), (85, _), (111, _), (157, _)] ?_ ⟨rfl, rfl, rfl, rfl, rfl, rfl, rfl, rfl, rfl, rfl, rfl, rfl, rfl, rfl, rfl, rfl, rfl, rfl, rfl, trivial⟩
                refine WP.next ?_
                refine WP.condF rfl ?_
                refine WP.skip ?_
                refine WP.next ?_
                refine WP.seq ?_
                by_cases hb_a2 : a2 = true
                · subst hb_a2
                  refine WP.region [0, 1, 2, 3, 4, 5] rfl ?_
                  refine WP.val rfl rfl rfl rfl (Yld.move rfl rfl) ?_
                  refine WP.val rfl rfl rfl rfl (Yld.move rfl rfl) ?_
                  refine WP.valG rfl rfl rfl rfl rfl rfl rfl (Yld.move rfl rfl) ?_
                  refine WP.valG rfl rfl rfl rfl rfl rfl rfl (Yld.rem64 rfl rfl rfl (by omega)) ?_
                  refine WP.splitG rfl rfl rfl rfl rfl rfl rfl (Yld.eql rfl rfl rfl) (fun hfr => ?_) (fun hfr => ?_)
                  · refine WP.val rfl rfl rfl rfl (Yld.pickT rfl rfl rfl) ?_
                    refine WP.nil ?_
                    refine WP.sub [(0, _), (1, _), (2, _), (8, _), (9, _), (11, _), (12, _), (13, _), (14, _), (15, _), (16, _), (17, _), (18, _), (19, _), (20, _), (80, _), (85, _), (111, _), (157, _), (174, _)] ?_ ⟨rfl, rfl, rfl, rfl, rfl, rfl, rfl, rfl, rfl, rfl, rfl, rfl, rfl, rfl, rfl, rfl, rfl, rfl, rfl, rfl, trivial⟩
                    refine WP.next ?_
                    refine WP.condT rfl ?_
                    refine WP.seq ?_
                    refine WP.region [0, 1, 2, 3] rfl ?_
                    refine WP.val rfl rfl rfl rfl (Yld.move rfl rfl) ?_
                    refine WP.val rfl rfl rfl rfl (Yld.move rfl rfl) ?_
                    refine WP.loud rfl rfl ?_
                    refine Op.call (tabT_Free hT6) rfl Try.func32 rfl rfl rfl rfl (by repeat (first | exact Take.nil | with_reducible apply Take.cons | apply Take.app | exact Rm.chunk | exact Rm.here | exact Rm.nil0 | apply Rm.skip | apply Rm.skipS | (focus (apply Take.all; (repeat (first | exact Rm.chunk | exact Rm.here | exact Rm.nil0 | apply Rm.skip | apply Rm.skipS)); done)) | apply Take.cons)) ?_
                    rintro v J L8 hJ ⟨x8, rfl, rfl, hT8, hf8⟩
                    clear hJ; try simp only [List.cons_append, List.nil_append, List.append_assoc]
                    obtain ⟨bg, eg, hgg, hgt⟩ := hge6
                    rw [show (if (x5.get 1).isSome = true then (0 : Int) else 90) = 0 by rw [hgg]; rfl]
                    have hf8t := hf8.tok
                    refine WP.val rfl rfl rfl rfl (Yld.assign rfl rfl) ?_
                    refine WP.nil ?_
                    refine WP.sub [(0, _), (1, _), (2, _), (8, _), (9, _), (11, _), (12, _), (13, _), (14, _), (15, _), (16, _), (17, _), (18, _), (19, _), (20, _), (21, _), (80, _), (85, _), (111, _), (157, _), (174, _)] ?_ ⟨rfl, rfl, rfl, rfl, rfl, rfl, rfl, rfl, rfl, rfl, rfl, rfl, rfl, rfl, rfl, rfl, rfl, rfl, rfl, rfl, rfl, trivial⟩
                    refine WP.next ?_
                    refine WP.seq ?_
                    refine WP.region [0, 1, 2, 3, 4, 5, 6] rfl ?_
                    refine WP.val rfl rfl rfl rfl (Yld.move rfl rfl) ?_
                    refine WP.loud rfl rfl ?_
                    refine Op.call (tabT_Alloc hT8 (by omega)) rfl Try.func29 rfl rfl rfl rfl (by repeat (first | exact Take.nil | with_reducible apply Take.cons | apply Take.app | exact Rm.chunk | exact Rm.here | exact Rm.nil0 | apply Rm.skip | apply Rm.skipS | (focus (apply Take.all; (repeat (first | exact Rm.chunk | exact Rm.here | exact Rm.nil0 | apply Rm.skip | apply Rm.skipS)); done)) | apply Take.cons)) ?_
                    rintro v J9 L9 hJ9 ⟨p9, hp9, hpa9, hpn9, hor9⟩
                    try simp only [List.cons_append, List.nil_append, List.append_assoc]
                    obtain rfl : p9 = 1 := least_eq hp9 hpa9 hpn9 (by decide) (by rw [hf8.get, if_pos rfl]) (fun k h1 h2 => by omega)
                    rcases hor9 with ⟨h, _⟩ | ⟨_, rfl, x9, hu9, hT9⟩
                    · exact absurd h (by decide)
                    obtain ⟨b9, hg9⟩ := hu9.get
                    have ht9 := hu9.tok
                    have hn9 := hu9.next
                    have hs9 := hu9.s3
                    have hsa9 := hu9.s1
                    refine WP.val rfl rfl rfl rfl (Yld.move rfl rfl) ?_
                    refine WP.val rfl rfl rfl rfl (Yld.extract rfl rfl rfl) ?_
                    refine WP.val rfl rfl rfl rfl (Yld.extract rfl rfl rfl) ?_
                    refine WP.val rfl rfl rfl rfl (Yld.assign rfl rfl) ?_
                    refine WP.val rfl rfl rfl rfl (Yld.assign rfl rfl) ?_
                    refine WP.nil ?_
                    refine WP.sub [(0, _), (1, _), (2, _), (8, _), (9, _), (11, _), (12, _), (13, _), (14, _), (15, _), (16, _), (17, _), (18, _), (19, _), (20, _), (21, _), (22, _), (23, _), (80, _), (85, _), (111, _), (157, _), (174, _)] ?_ ⟨rfl, rfl, rfl, rfl, rfl, rfl, rfl, rfl, rfl, rfl, rfl, rfl, rfl, rfl, rfl, rfl, rfl, rfl, rfl, rfl, rfl, rfl, rfl, trivial⟩
                    refine WP.next ?_
                    refine WP.seq ?_
                    refine WP.region [0, 1, 2, 3, 4, 5, 6, 7, 8, 9, 10] rfl ?_
                    refine WP.val rfl rfl rfl rfl (Yld.move rfl rfl) ?_
                    refine WP.val rfl rfl rfl rfl (Yld.neq rfl rfl rfl false (decide_eq_false (by omega))) ?_
                    refine WP.val rfl rfl rfl rfl (Yld.move rfl rfl) ?_
                    refine WP.valG rfl rfl rfl rfl rfl rfl rfl (Yld.move rfl rfl) ?_
                    refine WP.valG rfl rfl rfl rfl rfl rfl rfl (Yld.neq rfl rfl rfl false (decide_eq_false (by omega))) ?_
                    refine WP.val rfl rfl rfl rfl (Yld.pickF rfl rfl rfl) ?_
                    refine WP.val rfl rfl rfl rfl (Yld.move rfl rfl) ?_
                    refine WP.valG rfl rfl rfl rfl rfl rfl rfl (Yld.move rfl rfl) ?_
                    refine WP.valG rfl rfl rfl rfl rfl rfl rfl (Yld.move rfl rfl) ?_
                    refine WP.valG rfl rfl rfl rfl rfl rfl rfl (Yld.neq rfl rfl rfl false (decide_eq_false (by omega))) ?_
                    refine WP.val rfl rfl rfl rfl (Yld.pickF rfl rfl rfl) ?_
                    refine WP.nil ?_
                    refine WP.sub [(0, _), (1, _), (2, _), (8, _), (9, _), (11, _), (12, _), (13, _), (14, _), (15, _), (16, _), (17, _), (18, _), (19, _), (20, _), (21, _), (22, _), (23, _), (80, _), (85, _), (111, _), (157, _), (174, _), (193, _)] ?_ ⟨rfl, rfl, rfl, rfl, rfl, rfl, rfl, rfl, rfl, rfl, rfl, rfl, rfl, rfl, rfl, rfl, rfl, rfl, rfl, rfl, rfl, rfl, rfl, rfl, trivial⟩
                    refine WP.next ?_
                    refine WP.condF rfl ?_
                    refine WP.skip ?_
                    refine WP.leave ?_
                    exact WP.meet (⟨x9, J9, L9, rt, hs.set k 0, won + 1⟩ : OX) ⟨Imm.le_trans (Imm.le_trans (Imm.le_trans hle2 (Imm.le_trans hJ3 (Imm.le_trans hJ4 (Imm.le_trans hJ5 hJ6)))) hJ7) hJ9, hT9, ⟨b9, _, (hg9 1).trans (if_pos rfl), Nat.le_of_eq (show x8.tok + 1 = x9.tok by omega)⟩, by (try dsimp only); omega, hrl, by simpa using hhl, (by (try dsimp only); omega), (by (try dsimp only); omega)⟩ ⟨rfl, rfl, rfl, rfl, rfl, rfl, rfl, rfl, rfl, trivial⟩ rfl (by (try simp only [List.append_eq, List.cons_append, List.nil_append, List.append_assoc]); repeat (first | exact Rm.chunk | exact Rm.here | exact Rm.nil0 | apply Rm.skip | apply Rm.skipS | apply PX.cons | (apply PX.done; (repeat (first | exact Leave.done | apply Leave.drop | apply Leave.dropS)); done) | apply PX.app))
                  · refine WP.val rfl rfl rfl rfl (Yld.pickT rfl rfl rfl) ?_
                    refine WP.nil ?_
                    refine WP.sub [(0, _), (1, _), (2, _), (8, _), (9, _), (11, _), (12, _), (13, _), (14, _), (15, _), (16, _), (17, _), (18, _), (19, _), (20, _), (80, _), (85, _), (111, _), (157, _), (174, _)] ?_ ⟨rfl, rfl, rfl, rfl, rfl, rfl, rfl, rfl, rfl, rfl, rfl, rfl, rfl, rfl, rfl, rfl, rfl, rfl, rfl, rfl, trivial⟩
                    refine WP.next ?_
                    refine WP.condF rfl ?_
                    refine WP.skip ?_
                    refine WP.leave ?_
                    exact WP.meet (⟨x5, J7, L7, rt, hs.set k 0, won + 1⟩ : OX) ⟨Imm.le_trans (Imm.le_trans hle2 (Imm.le_trans hJ3 (Imm.le_trans hJ4 (Imm.le_trans hJ5 hJ6)))) hJ7, hT6, hge6, by (try dsimp only); omega, hrl, by simpa using hhl, (by (try dsimp only); omega), (by (try dsimp only); omega)⟩ ⟨rfl, rfl, rfl, rfl, rfl, rfl, rfl, rfl, rfl, trivial⟩ rfl (by (try simp only [List.append_eq, List.cons_append, List.nil_append, List.append_assoc]); repeat (first | exact Rm.chunk | exact Rm.here | exact Rm.nil0 | apply Rm.skip | apply Rm.skipS | apply PX.cons | (apply PX.done; (repeat (first | exact Leave.done | apply Leave.drop | apply Leave.dropS)); done) | apply PX.app))
                · obtain rfl : a2 = false := by simpa using hb_a2
                  refine WP.region [0, 1, 2, 3, 4, 5] rfl ?_
                  refine WP.val rfl rfl rfl rfl (Yld.move rfl rfl) ?_
                  refine WP.val rfl rfl rfl rfl (Yld.move rfl rfl) ?_
                  refine WP.passG rfl rfl rfl rfl rfl rfl rfl rfl ?_
                  refine WP.passG rfl rfl rfl rfl rfl rfl rfl rfl ?_
                  refine WP.passG rfl rfl rfl rfl rfl rfl rfl rfl ?_
                  refine WP.val rfl rfl rfl rfl (Yld.pickF rfl rfl rfl) ?_
                  refine WP.nil ?_
                  refine WP.sub [(0, _), (1, _), (2, _), (8, _), (9, _), (11, _), (12, _), (13, _), (14, _), (15, _), (16, _), (17, _), (18, _), (19, _), (20, _), (80, _), (85, _), (111, _), (157, _), (174, _)] ?_ ⟨rfl, rfl, rfl, rfl, rfl, rfl, rfl, rfl, rfl, rfl, rfl, rfl, rfl, rfl, rfl, rfl, rfl, rfl, rfl, rfl, trivial⟩
                  refine WP.next ?_
                  refine WP.condF rfl ?_
                  refine WP.skip ?_
                  refine WP.leave ?_
                  exact WP.meet (⟨x5, J7, L7, rt, hs.set k 0, won + 1⟩ : OX) ⟨Imm.le_trans (Imm.le_trans hle2 (Imm.le_trans hJ3 (Imm.le_trans hJ4 (Imm.le_trans hJ5 hJ6)))) hJ7, hT6, hge6, by (try dsimp only); omega, hrl, by simpa using hhl, (by (try dsimp only); omega), (by (try dsimp only); omega)⟩ ⟨rfl, rfl, rfl, rfl, rfl, rfl, rfl, rfl, rfl, trivial⟩ rfl (by (try simp only [List.append_eq, List.cons_append, List.nil_append, List.append_assoc]); repeat (first | exact Rm.chunk | exact Rm.here | exact Rm.nil0 | apply Rm.skip | apply Rm.skipS | apply PX.cons | (apply PX.done; (repeat (first | exact Leave.done | apply Leave.drop | apply Leave.dropS)); done) | apply PX.app))
              · have heq : ¬ e.tok = rt[k] := fun h => hw (if_pos h)
                refine WP.nil ?_
                refine WP.sub [(0, _), (1, _), (2, _), (8, _), (9, _), (11, _), (12, _), (13, _), (14, _), (15, _), (16, _), (17, _), (18, _), (80, _), (85, _), (111, _)] ?_ ⟨rfl, rfl, rfl, rfl, rfl, rfl, rfl, rfl, rfl, rfl, rfl, rfl, rfl, rfl, rfl, rfl, trivial⟩
                refine WP.next ?_
                refine WP.condF rfl ?_
                refine WP.seq ?_
                refine WQ.startAll Trymixed (by kernel_rfl) _ rfl ?_
                refine WQ.val rfl rfl rfl (Yld.move rfl rfl) ?_
                refine WQ.val rfl rfl rfl (Yld.neq rfl rfl rfl false (decide_eq_false (by rw [if_neg heq]; decide))) ?_
                refine WQ.val rfl rfl rfl (Yld.move rfl rfl) ?_
                refine WQ.valG rfl rfl rfl rfl rfl rfl (Yld.fieldAddr rfl ty_fd_63_0 rfl) ?_
                refine WQ.valG rfl rfl rfl rfl rfl rfl (Yld.load rfl ty_sc_60 rfl (by repeat (first | exact There.h | exact There.i (by assumption) | apply There.t | apply There.s)) rfl) ?_
                refine WQ.valG rfl rfl rfl rfl rfl rfl (Yld.move rfl rfl) ?_
                refine WQ.valG rfl rfl rfl rfl rfl rfl (Yld.move rfl rfl) ?_
                refine WQ.valG rfl rfl rfl rfl rfl rfl (Yld.indexAddr (i := k) rfl ty_sl_59 rfl rfl (by omega)) ?_
                refine WQ.valG rfl rfl rfl rfl rfl rfl (Yld.load rfl ty_sc_60 rfl (by repeat (first | exact There.h | exact There.i (by assumption) | apply There.t | apply There.s)) (map_at0 (f := natV) (by omega))) ?_
                refine WQ.valG rfl rfl rfl rfl rfl rfl (Yld.eql rfl rfl rfl false (decide_eq_false (by omega))) ?_
                refine WQ.val rfl rfl rfl (Yld.pickF rfl rfl rfl) ?_
                refine WQ.nil ?_
                refine WP.sub [(0, _), (1, _), (2, _), (8, _), (9, _), (11, _), (12, _), (13, _), (14, _), (15, _), (16, _), (17, _), (18, _), (80, _), (85, _), (111, _), (168, _)] ?_ ⟨rfl, rfl, rfl, rfl, rfl, rfl, rfl, rfl, rfl, rfl, rfl, rfl, rfl, rfl, rfl, rfl, rfl, trivial⟩
                refine WP.next ?_
                refine WP.condF rfl ?_
                refine WP.skip ?_
                refine WP.next ?_
                refine WP.seq ?_
                by_cases hb_a2 : a2 = true
                · subst hb_a2
                  refine WP.region [0, 1, 2, 3, 4, 5] rfl ?_
                  refine WP.val rfl rfl rfl rfl (Yld.move rfl rfl) ?_
                  refine WP.val rfl rfl rfl rfl (Yld.move rfl rfl) ?_
                  refine WP.valG rfl rfl rfl rfl rfl rfl rfl (Yld.move rfl rfl) ?_
                  refine WP.valG rfl rfl rfl rfl rfl rfl rfl (Yld.rem64 rfl rfl rfl (by omega)) ?_
                  refine WP.splitG rfl rfl rfl rfl rfl rfl rfl (Yld.eql rfl rfl rfl) (fun hfr => ?_) (fun hfr => ?_)
                  · refine WP.val rfl rfl rfl rfl (Yld.pickT rfl rfl rfl) ?_
                    refine WP.nil ?_
                    refine WP.sub [(0, _), (1, _), (2, _), (8, _), (9, _), (11, _), (12, _), (13, _), (14, _), (15, _), (16, _), (17, _), (18, _), (80, _), (85, _), (111, _), (168, _), (174, _)] ?_ ⟨rfl, rfl, rfl, rfl, rfl, rfl, rfl, rfl, rfl, rfl, rfl, rfl, rfl, rfl, rfl, rfl, rfl, rfl, trivial⟩
                    refine WP.next ?_
                    refine WP.condT rfl ?_
                    refine WP.seq ?_
                    refine WP.region [0, 1, 2, 3] rfl ?_
                    refine WP.val rfl rfl rfl rfl (Yld.move rfl rfl) ?_
                    refine WP.val rfl rfl rfl rfl (Yld.move rfl rfl) ?_
                    refine WP.loud rfl rfl ?_
                    refine Op.call (tabT_Free hT5) rfl Try.func32 rfl rfl rfl rfl (by repeat (first | exact Take.nil | with_reducible apply Take.cons | apply Take.app | exact Rm.chunk | exact Rm.here | exact Rm.nil0 | apply Rm.skip | apply Rm.skipS | (focus (apply Take.all; (repeat (first | exact Rm.chunk | exact Rm.here | exact Rm.nil0 | apply Rm.skip | apply Rm.skipS)); done)) | apply Take.cons)) ?_
                    rintro v J L8 hJ ⟨x8, rfl, rfl, hT8, hf8⟩
                    clear hJ; try simp only [List.cons_append, List.nil_append, List.append_assoc]
                    obtain ⟨bg, eg, hgg, hgt⟩ := hge6
                    rw [show (if (x5.get 1).isSome = true then (0 : Int) else 90) = 0 by rw [hgg]; rfl]
                    have hf8t := hf8.tok
                    refine WP.val rfl rfl rfl rfl (Yld.assign rfl rfl) ?_
                    refine WP.nil ?_
                    refine WP.sub [(0, _), (1, _), (2, _), (8, _), (9, _), (11, _), (12, _), (13, _), (14, _), (15, _), (16, _), (17, _), (18, _), (21, _), (80, _), (85, _), (111, _), (168, _), (174, _)] ?_ ⟨rfl, rfl, rfl, rfl, rfl, rfl, rfl, rfl, rfl, rfl, rfl, rfl, rfl, rfl, rfl, rfl, rfl, rfl, rfl, trivial⟩
                    refine WP.next ?_
                    refine WP.seq ?_
                    refine WP.region [0, 1, 2, 3, 4, 5, 6] rfl ?_
                    refine WP.val rfl rfl rfl rfl (Yld.move rfl rfl) ?_
                    refine WP.loud rfl rfl ?_
                    refine Op.call (tabT_Alloc hT8 (by omega)) rfl Try.func29 rfl rfl rfl rfl (by repeat (first | exact Take.nil | with_reducible apply Take.cons | apply Take.app | exact Rm.chunk | exact Rm.here | exact Rm.nil0 | apply Rm.skip | apply Rm.skipS | (focus (apply Take.all; (repeat (first | exact Rm.chunk | exact Rm.here | exact Rm.nil0 | apply Rm.skip | apply Rm.skipS)); done)) | apply Take.cons)) ?_
                    rintro v J9 L9 hJ9 ⟨p9, hp9, hpa9, hpn9, hor9⟩
                    try simp only [List.cons_append, List.nil_append, List.append_assoc]
                    obtain rfl : p9 = 1 := least_eq hp9 hpa9 hpn9 (by decide) (by rw [hf8.get, if_pos rfl]) (fun k h1 h2 => by omega)
                    rcases hor9 with ⟨h, _⟩ | ⟨_, rfl, x9, hu9, hT9⟩
                    · exact absurd h (by decide)
                    obtain ⟨b9, hg9⟩ := hu9.get
                    have ht9 := hu9.tok
                    have hn9 := hu9.next
                    have hs9 := hu9.s3
                    have hsa9 := hu9.s1
                    refine WP.val rfl rfl rfl rfl (Yld.move rfl rfl) ?_
                    refine WP.val rfl rfl rfl rfl (Yld.extract rfl rfl rfl) ?_
                    refine WP.val rfl rfl rfl rfl (Yld.extract rfl rfl rfl) ?_
                    refine WP.val rfl rfl rfl rfl (Yld.assign rfl rfl) ?_
                    refine WP.val rfl rfl rfl rfl (Yld.assign rfl rfl) ?_
                    refine WP.nil ?_
                    refine WP.sub [(0, _), (1, _), (2, _), (8, _), (9, _), (11, _), (12, _), (13, _), (14, _), (15, _), (16, _), (17, _), (18, _), (21, _), (22, _), (23, _), (80, _), (85, _), (111, _), (168, _), (174, _)] ?_ ⟨rfl, rfl, rfl, rfl, rfl, rfl, rfl, rfl, rfl, rfl, rfl, rfl, rfl, rfl, rfl, rfl, rfl, rfl, rfl, rfl, rfl, trivial⟩
                    refine WP.next ?_
                    refine WP.seq ?_
                    refine WP.region [0, 1, 2, 3, 4, 5, 6, 7, 8, 9, 10] rfl ?_
                    refine WP.val rfl rfl rfl rfl (Yld.move rfl rfl) ?_
                    refine WP.val rfl rfl rfl rfl (Yld.neq rfl rfl rfl false (decide_eq_false (by omega))) ?_
                    refine WP.val rfl rfl rfl rfl (Yld.move rfl rfl) ?_
                    refine WP.valG rfl rfl rfl rfl rfl rfl rfl (Yld.move rfl rfl) ?_
                    refine WP.valG rfl rfl rfl rfl rfl rfl rfl (Yld.neq rfl rfl rfl false (decide_eq_false (by omega))) ?_
                    refine WP.val rfl rfl rfl rfl (Yld.pickF rfl rfl rfl) ?_
                    refine WP.val rfl rfl rfl rfl (Yld.move rfl rfl) ?_
                    refine WP.valG rfl rfl rfl rfl rfl rfl rfl (Yld.move rfl rfl) ?_
                    refine WP.valG rfl rfl rfl rfl rfl rfl rfl (Yld.move rfl rfl) ?_
                    refine WP.valG rfl rfl rfl rfl rfl rfl rfl (Yld.neq rfl rfl rfl false (decide_eq_false (by omega))) ?_
                    refine WP.val rfl rfl rfl rfl (Yld.pickF rfl rfl rfl) ?_
                    refine WP.nil ?_
                    refine WP.sub [(0, _), (1, _), (2, _), (8, _), (9, _), (11, _), (12, _), (13, _), (14, _), (15, _), (16, _), (17, _), (18, _), (21, _), (22, _), (23, _), (80, _), (85, _), (111, _), (168, _), (174, _), (193, _)] ?_ ⟨rfl, rfl, rfl, rfl, rfl, rfl, rfl, rfl, rfl, rfl, rfl, rfl, rfl, rfl, rfl, rfl, rfl, rfl, rfl, rfl, rfl, rfl, trivial⟩
                    refine WP.next ?_
                    refine WP.condF rfl ?_
                    refine WP.skip ?_
                    refine WP.leave ?_
                    exact WP.meet (⟨x9, J9, L9, rt, hs.set k 0, won⟩ : OX) ⟨Imm.le_trans (Imm.le_trans hle2 (Imm.le_trans hJ3 (Imm.le_trans hJ4 (Imm.le_trans hJ5 hJ6)))) hJ9, hT9, ⟨b9, _, (hg9 1).trans (if_pos rfl), Nat.le_of_eq (show x8.tok + 1 = x9.tok by omega)⟩, by (try dsimp only); omega, hrl, by simpa using hhl, (by (try dsimp only); omega), (by (try dsimp only); omega)⟩ ⟨rfl, rfl, rfl, rfl, rfl, rfl, rfl, rfl, rfl, trivial⟩ rfl (by (try simp only [List.append_eq, List.cons_append, List.nil_append, List.append_assoc]); repeat (first | exact Rm.chunk | exact Rm.here | exact Rm.nil0 | apply Rm.skip | apply Rm.skipS | apply PX.cons | (apply PX.done; (repeat (first | exact Leave.done | apply Leave.drop | apply Leave.dropS)); done) | apply PX.app))
                  · refine WP.val rfl rfl rfl rfl (Yld.pickT rfl rfl rfl) ?_
                    refine WP.nil ?_
                    refine WP.sub [(0, _), (1, _), (2, _), (8, _), (9, _), (11, _), (12, _), (13, _), (14, _), (15, _), (16, _), (17, _), (18, _), (80, _), (85, _), (111, _), (168, _), (174, _)] ?_ ⟨rfl, rfl, rfl, rfl, rfl, rfl, rfl, rfl, rfl, rfl, rfl, rfl, rfl, rfl, rfl, rfl, rfl, rfl, trivial⟩
                    refine WP.next ?_
                    refine WP.condF rfl ?_
                    refine WP.skip ?_
                    refine WP.leave ?_
                    exact WP.meet (⟨x5, J6, L6, rt, hs.set k 0, won⟩ : OX) ⟨Imm.le_trans hle2 (Imm.le_trans hJ3 (Imm.le_trans hJ4 (Imm.le_trans hJ5 hJ6))), hT5, hge6, by (try dsimp only); omega, hrl, by simpa using hhl, (by (try dsimp only); omega), (by (try dsimp only); omega)⟩ ⟨rfl, rfl, rfl, rfl, rfl, rfl, rfl, rfl, rfl, trivial⟩ rfl (by (try simp only [List.append_eq, List.cons_append, List.nil_append, List.append_assoc]); repeat (first | exact Rm.chunk | exact Rm.here | exact Rm.nil0 | apply Rm.skip | apply Rm.skipS | apply PX.cons | (apply PX.done; (repeat (first | exact Leave.done | apply Leave.drop | apply Leave.dropS)); done) | apply PX.app))
                · obtain rfl : a2 = false := by simpa using hb_a2
                  refine WP.region [0, 1, 2, 3, 4, 5] rfl ?_
                  refine WP.val rfl rfl rfl rfl (Yld.move rfl rfl) ?_
                  refine WP.val rfl rfl rfl rfl (Yld.move rfl rfl) ?_
                  refine WP.passG rfl rfl rfl rfl rfl rfl rfl rfl ?_
                  refine WP.passG rfl rfl rfl rfl rfl rfl rfl rfl ?_
                  refine WP.passG rfl rfl rfl rfl rfl rfl rfl rfl ?_
                  refine WP.val rfl rfl rfl rfl (Yld.pickF rfl rfl rfl) ?_
                  refine WP.nil ?_
                  refine WP.sub [(0, _), (1, _), (2, _), (8, _), (9, _), (11, _), (12, _), (13, _), (14, _), (15, _), (16, _), (17, _), (18, _), (80, _), (85, _), (111, _), (168, _), (174, _)] ?_ ⟨rfl, rfl, rfl, rfl, rfl, rfl, rfl, rfl, rfl, rfl, rfl, rfl, rfl, rfl, rfl, rfl, rfl, rfl, trivial⟩
                  refine WP.next ?_
                  refine WP.condF rfl ?_
                  refine WP.skip ?_
                  refine WP.leave ?_
                  exact WP.meet (⟨x5, J6, L6, rt, hs.set k 0, won⟩ : OX) ⟨Imm.le_trans hle2 (Imm.le_trans hJ3 (Imm.le_trans hJ4 (Imm.le_trans hJ5 hJ6))), hT5, hge6, by (try dsimp only); omega, hrl, by simpa using hhl, (by (try dsimp only); omega), (by (try dsimp only); omega)⟩ ⟨rfl, rfl, rfl, rfl, rfl, rfl, rfl, rfl, rfl, trivial⟩ rfl (by (try simp only [List.append_eq, List.cons_append, List.nil_append, List.append_assoc]); repeat (first | exact Rm.chunk | exact Rm.here | exact Rm.nil0 | apply Rm.skip | apply Rm.skipS | apply PX.cons | (apply PX.done; (repeat (first | exact Leave.done | apply Leave.drop | apply Leave.dropS)); done) | apply PX.app))
        · intro u hu
          refine WP.region [0, 1, 2] rfl ?_
          refine WP.val rfl rfl rfl rfl (Yld.move rfl rfl) ?_
          refine WP.val rfl rfl rfl rfl (Yld.add64 rfl rfl rfl (by omega)) ?_
          refine WP.val rfl rfl rfl rfl (Yld.assign rfl rfl) ?_
          refine WP.nil ?_
          refine WP.sub [(0, _), (1, _), (2, _), (8, _), (9, _), (11, _), (12, _), (13, _), (14, _)] ?_ ⟨rfl, rfl, rfl, rfl, rfl, rfl, rfl, rfl, rfl, trivial⟩
          exact WP.again (u, i + 1) ⟨hio, hu⟩ (show order.length - (i + 1) < order.length - i by omega) ⟨rfl, rfl, rfl, rfl, rfl, rfl, rfl, rfl, rfl, trivial⟩ rfl (by (try simp only [List.append_eq, List.cons_append, List.nil_append, List.append_assoc]); repeat (first | exact Rm.chunk | exact Rm.here | exact Rm.nil0 | apply Rm.skip | apply Rm.skipS | apply PX.cons | (apply PX.done; (repeat (first | exact Leave.done | apply Leave.drop | apply Leave.dropS)); done) | apply PX.app))
      · obtain rfl : i = order.length := by omega
        refine WP.nil ?_
        refine WP.sub [(0, _), (1, _), (2, _), (8, _), (9, _), (11, _), (12, _), (13, _), (14, _), (59, _)] ?_ ⟨rfl, rfl, rfl, rfl, rfl, rfl, rfl, rfl, rfl, rfl, trivial⟩
        refine WP.next ?_
        refine WP.condF rfl ?_
        refine WP.exit ?_
        refine WP.thenE ?_
        refine WP.thenE ?_
        refine WP.hit ?_
        refine WP.next ?_
        refine WP.seq ?_
        refine WP.region [0, 1, 2, 3, 4] rfl ?_
        refine WP.val rfl rfl rfl rfl (Yld.move rfl rfl) ?_
        refine WP.val rfl rfl rfl rfl (Yld.move rfl rfl) ?_
        refine WP.val rfl rfl rfl rfl (Yld.len rfl ty_sl_23 rfl) ?_
        refine WP.val rfl rfl rfl rfl (Yld.leq rfl rfl rfl true (decide_eq_true (by omega))) ?_
        refine WP.val rfl rfl rfl rfl (Yld.assign rfl rfl) ?_
        refine WP.nil ?_
        refine WP.sub [(0, _), (1, _), (2, _), (6, _), (8, _), (9, _), (11, _), (12, _), (13, _), (14, _), (59, _)] ?_ ⟨rfl, rfl, rfl, rfl, rfl, rfl, rfl, rfl, rfl, rfl, rfl, trivial⟩
        refine WP.next ?_
        refine WP.ret ?_
        refine WP.fin .ret (.inr rfl) (res1 rfl rfl) [] (by repeat (first | exact Take.nil | with_reducible apply Take.cons | apply Take.app | exact Rm.chunk | exact Rm.here | exact Rm.nil0 | apply Rm.skip | apply Rm.skipS | (focus (apply Take.all; (repeat (first | exact Rm.chunk | exact Rm.here | exact Rm.nil0 | apply Rm.skip | apply Rm.skipS)); done)) | apply Take.cons)) (by repeat (first | exact Leave.done | apply Leave.drop | apply Leave.dropS)) hle2 ?_
        exact ⟨rfl, rfl⟩


end Go.Hp
