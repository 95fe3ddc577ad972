import Derived.Test.YtdobkjbpehdokaaTabP
import Derived.Test.YtdobkjbpehdokaaTabM
set_option linter.unusedVariables false
set_option linter.unusedSimpArgs false
namespace Go.Hp
open Go Go.Proofs

def usV (x : Tb) : List Value := (List.range 514).map fun (k : Nat) => .bool (x.get (k : Int)).isSome
theorem us_at {x : Tb} {p : Int} (h0 : 0 ≤ p) (h1 : p < 514) : (usV x)[0 + p.toNat * 1]? = some (.bool (x.get p).isSome) := by
  have e : ((p.toNat : Nat) : Int) = p := Int.toNat_of_nonneg h0
  rw [Nat.zero_add, Nat.mul_one]
  simp only [usV, List.getElem?_map]
  rw [List.getElem?_range (by omega)]
  simp only [Option.map_some, e]
theorem us_atV {x : Tb} {p : Int} {b : Bool} (h0 : 0 ≤ p) (h1 : p < 514) (hb : (x.get p).isSome = b) : (usV x)[0 + p.toNat * 1]? = some (.bool b) := by
  rw [us_at h0 h1, hb]
theorem us_set {x x' : Tb} {p : Int} {b : Bool} (h0 : 0 ≤ p) (h1 : p < 514) (hp : (x'.get p).isSome = b) (ho : ∀ k, k ≠ p → x'.get k = x.get k) : SetAt (usV x) (0 + p.toNat * 1) (.bool b) (usV x') := by
  have e : ((p.toNat : Nat) : Int) = p := Int.toNat_of_nonneg h0
  have hs := SetAt.sym (l := usV x) (k := 0 + p.toNat * 1) (v := .bool b) (by simp [usV]; omega)
  have e2 : (usV x).set (0 + p.toNat * 1) (.bool b) = usV x' := by
    rw [Nat.zero_add, Nat.mul_one]
    apply List.ext_getElem?
    intro k
    rw [List.getElem?_set]
    by_cases hk : p.toNat = k
    · subst hk
      rw [if_pos rfl, if_pos (by simp [usV]; omega)]
      simp only [usV, List.getElem?_map]
      rw [List.getElem?_range (by omega)]
      simp only [Option.map_some, e, hp]
    · rw [if_neg hk]
      simp only [usV, List.getElem?_map]
      by_cases h5 : k < 514
      · rw [List.getElem?_range h5]
        simp only [Option.map_some]
        rw [ho _ (by omega)]
      · rw [List.getElem?_eq_none (by simp; omega)]; rfl
  rwa [e2] at hs
theorem us_congr {x x' : Tb} (h : ∀ k, x'.get k = x.get k) : usV x = usV x' := by
  simp only [usV, h]
set_option maxRecDepth 100000 in
theorem us_zr : zeroTy Try.prog 76 (List.replicate 514 (.bool false)) := ⟨_, _, rfl, rfl, rfl⟩
theorem us_zero {x : Tb} (h : ∀ p, x.get p = none) : zeroTy Try.prog 76 (usV x) := by
  have : usV x = List.replicate 514 (.bool false) := by
    simp only [usV, h, Option.isSome_none]
    rw [List.map_const', List.length_range]
  rw [this]; exact us_zr
structure Tb.nxt (x : Tb) : Prop where
  used : ∀ k, (x.get k).isSome = true → k < x.next
  le : x.next ≤ x.size + 1
theorem Tb.nxt.freed {x x' : Tb} {p : Int} (h : x.nxt) (hf : x.Freed x' p) : x'.nxt := ⟨fun k hk => by
  rw [hf.get] at hk
  rw [hf.next]
  split at hk
  · cases hk
  · exact h.used k hk, by rw [hf.next, hf.size]; exact h.le⟩
theorem Tb.nxt.took {x x' : Tb} {p : Int} {e : Ent} (h : x.nxt) (hu : x.Used x' p e) : x'.nxt := ⟨fun k hk => by
  obtain ⟨b, hb⟩ := hu.get
  rw [hb] at hk
  rw [hu.next]
  split at hk
  · rename_i h1; subst h1; split <;> omega
  · have := h.used k hk
    split <;> omega, by
  have h1 := h.le
  have h2 := hu.s1
  have h3 := hu.s2
  rw [hu.next]; split <;> omega⟩
theorem pages_at {x : Tb} {k : Nat} (hk : (x.get ((k : Int) + 1)).isSome = true) : ∀ {m : Nat}, k < m → (x.pagesTo m)[(x.pagesTo k).length]? = some ((k : Int) + 1)
  | m + 1, h => by
    rw [Tb.pagesTo_succ]
    rcases Nat.lt_succ_iff_lt_or_eq.1 h with h | rfl
    · have ih := pages_at hk h
      have : (x.pagesTo k).length < (x.pagesTo m).length := (List.getElem?_eq_some_iff.1 ih).1
      rw [List.getElem?_append_left this, ih]
    · rw [if_pos hk, List.getElem?_append_right (Nat.le_refl _), Nat.sub_self]; rfl
theorem pages_stop {x : Tb} {a : Nat} (h : ∀ k, a ≤ k → x.get ((k : Int) + 1) = none) : ∀ {b : Nat}, a ≤ b → x.pagesTo b = x.pagesTo a
  | 0, hb => by obtain rfl : a = 0 := by omega
                rfl
  | b + 1, hb => by
    rcases Nat.lt_or_ge a (b + 1) with h1 | h1
    · rw [Tb.pagesTo_succ, h b (by omega)]
      simp only [Option.isSome_none, Bool.false_eq_true, if_false, List.append_nil]
      exact pages_stop h (by omega)
    · obtain rfl : a = b + 1 := by omega
      rfl
theorem pages_full {x : Tb} : ∀ (m : Nat), (∀ k, k < m → (x.get ((k : Int) + 1)).isSome = true) → (x.pagesTo m).length = m
  | 0, _ => rfl
  | m + 1, h => by
    rw [Tb.pagesTo_succ, if_pos (h m (by omega)), List.length_append, pages_full m fun k hk => h k (by omega)]; rfl
theorem pages_512 {x : Tb} (h : x.nxt) (hn : 1 ≤ x.next ∧ x.next ≤ 513) : x.pagesTo 512 = x.pages := pages_stop (fun k hk => by
  cases hh : x.get ((k : Int) + 1) with
  | none => rfl
  | some e => have := h.used ((k : Int) + 1) (by rw [hh]; rfl); omega) (by omega)
structure TL where
  x : Tb
  J : Imm
  L : Chunks
structure TL.ok (I : Imm) (t : Nat) (u : TL) (i : Nat) : Prop where
  le : I.le u.J
  tab : IsT u.J t u.x u.L
  tk : u.x.tok ≤ i
  nx : u.x.nxt
set_option maxHeartbeats 1000000 in
theorem table_Least {I : Imm} {ops : List TOp} {vo : Value} (hops : Slc I 12 (RTOp I) vo ops) (hn : ops.length ≤ 17592186044416) (hsz : ∀ o ∈ ops, o.e.sized) : Spec Try.prog 10 [vo] I [] (fun v J L => v = .bool true ∧ L = []) := by
  obtain ⟨Ao, co, rfl, hco, _⟩ := id hops
  refine Spec.of Try.func10 rfl Try.ntmps10 (Nat.le_of_ble_eq_true rfl) (fun F => ?_)
  try simp only [List.cons_append, List.nil_append, List.append_assoc]
  dsimp only [argsEnv]
  refine WP.seq ?_
  refine WP.region [0] rfl ?_
  refine WP.val rfl rfl rfl rfl (Yld.assign rfl rfl) ?_
  refine WP.nil ?_
  refine WP.next ?_
  refine WP.seq ?_
  refine WP.region [0, 1] rfl ?_
  refine WP.loud rfl rfl ?_
  refine Op.call table_awake rfl Try.func27 rfl rfl rfl rfl (by repeat (first | exact Take.nil | with_reducible apply Take.cons | apply Take.app | exact Rm.chunk | exact Rm.here | exact Rm.nil0 | apply Rm.skip | apply Rm.skipS | (focus (apply Take.all; (repeat (first | exact Rm.chunk | exact Rm.here | exact Rm.nil0 | apply Rm.skip | apply Rm.skipS)); done)) | apply Take.cons)) ?_
  rintro v Ja L1 hJa ⟨rfl, rfl⟩
  try simp only [List.cons_append, List.nil_append, List.append_assoc]
  refine WP.val rfl rfl rfl rfl (Yld.assign rfl rfl) ?_
  refine WP.nil ?_
  refine WP.sub [(0, _), (2, _), (3, _)] ?_ ⟨rfl, rfl, rfl, trivial⟩
  refine WP.next ?_
  refine WP.seq ?_
  refine WP.region [0, 1] rfl ?_
  refine WP.loud rfl rfl ?_
  refine Op.call tabT_NewNil rfl Try.func28 rfl rfl rfl rfl (by repeat (first | exact Take.nil | with_reducible apply Take.cons | apply Take.app | exact Rm.chunk | exact Rm.here | exact Rm.nil0 | apply Rm.skip | apply Rm.skipS | (focus (apply Take.all; (repeat (first | exact Rm.chunk | exact Rm.here | exact Rm.nil0 | apply Rm.skip | apply Rm.skipS)); done)) | apply Take.cons)) ?_
  rintro v J L0 hJ ⟨t, x0, rfl, rfl, hT0, hk0, hn0, hs0, hg0⟩
  clear hJ; try simp only [List.cons_append, List.nil_append, List.append_assoc]
  refine WP.val rfl rfl rfl rfl (Yld.assign rfl rfl) ?_
  refine WP.nil ?_
  refine WP.sub [(0, _), (2, _), (3, _), (4, _)] ?_ ⟨rfl, rfl, rfl, rfl, trivial⟩
  refine WP.next ?_
  refine WP.seq ?_
  refine WP.seq ?_
  refine WP.region [0, 1, 2, 3, 4, 5] rfl ?_
  refine WP.val rfl rfl rfl rfl (Yld.move rfl rfl) ?_
  refine WP.val rfl rfl rfl rfl (Yld.not rfl rfl) ?_
  refine WP.val rfl rfl rfl rfl (Yld.move rfl rfl) ?_
  refine WP.valG rfl rfl rfl rfl rfl rfl rfl (Yld.move rfl rfl) ?_
  refine WP.valG rfl rfl rfl rfl rfl rfl rfl (Yld.eqlNil rfl ty_pt_55 rfl rfl) ?_
  refine WP.val rfl rfl rfl rfl (Yld.pickF rfl rfl rfl) ?_
  refine WP.nil ?_
  refine WP.sub [(0, _), (2, _), (3, _), (4, _), (23, _)] ?_ ⟨rfl, rfl, rfl, rfl, rfl, trivial⟩
  refine WP.next ?_
  refine WP.condF rfl ?_
  refine WP.skip ?_
  refine WP.next ?_
  refine WP.seq ?_
  refine WP.region [0] rfl ?_
  refine WP.loud rfl rfl ?_
  refine Op.alloc rfl rfl rfl (us_zero hg0) (fun b5 => ?_)
  refine WP.nil ?_
  refine WP.next ?_
  refine WP.seq ?_
  refine WP.seq ?_
  refine WP.region [0] rfl ?_
  refine WP.val rfl rfl rfl rfl (Yld.assign rfl rfl) ?_
  refine WP.nil ?_
  refine WP.next ?_
  refine WP.block ?_
  refine WP.loop (X := TL × Nat) (fun u : TL × Nat => [(0, .slice Ao ops.length co), (4, .pointer (some ⟨t, 0, none⟩)), (5, .pointer (some ⟨b5, 0, none⟩)), (6, .int .i64 (u.2 : Int))]) (fun u => u.1.J) (fun u : TL × Nat => u.1.L ++ ((b5, row 76 (usV u.1.x)) :: F)) (fun u => u.2 ≤ ops.length ∧ u.1.ok I t u.2) (fun u => ops.length - u.2) (⟨x0, Ja, L0⟩, 0) ⟨Nat.zero_le _, ⟨hJa, hT0, (show x0.tok ≤ 0 by omega), ⟨fun k hk => (by rw [hg0] at hk; cases hk), by show x0.next ≤ x0.size + 1; omega⟩⟩⟩ ⟨rfl, rfl, rfl, rfl, trivial⟩ rfl (by (try simp only [List.append_eq, List.cons_append, List.nil_append, List.append_assoc]); repeat (first | exact Rm.chunk | exact Rm.here | exact Rm.nil0 | apply Rm.skip | apply Rm.skipS | apply PX.cons | (apply PX.done; (repeat (first | exact Leave.done | apply Leave.drop | apply Leave.dropS)); done) | apply PX.app)) ?_
  rintro ⟨⟨x, J2, L2⟩, i⟩ ⟨hle, ⟨hle2, hT, htk, hnx⟩⟩; dsimp only at hle hle2 hT htk hnx; have hsl := hT.size_le
  try dsimp only
  try simp only [List.cons_append, List.nil_append, List.append_assoc]
  refine WP.seq ?_
  refine WP.seq ?_
  refine WP.region [0, 1, 2, 3] rfl ?_
  refine WP.val rfl rfl rfl rfl (Yld.move rfl rfl) ?_
  refine WP.val rfl rfl rfl rfl (Yld.move rfl rfl) ?_
  refine WP.val rfl rfl rfl rfl (Yld.len rfl ty_sl_71 rfl) ?_
  refine WP.split rfl rfl rfl rfl (Yld.lss rfl rfl rfl) (fun hlt => ?_) (fun hlt => ?_)
  · have hio : i < ops.length := by omega
    obtain ⟨bo, ko, To, fro, aro, csE, rfl, hbo, eK, eP, hE, hEl, hRE⟩ := (hops.mono hle2 (fun _ _ => RTOp.mono hle2)).top hio
    have hout : ¬ (1 ≤ ops[i].page ∧ ops[i].page ≤ 512) → x.get ops[i].page = none := fun h => Tb.get_out (by omega)
    refine WP.nil ?_
    refine WP.sub [(0, _), (4, _), (5, _), (6, _), (27, _)] ?_ ⟨rfl, rfl, rfl, rfl, rfl, trivial⟩
    refine WP.next ?_
    refine WP.condT rfl ?_
    refine WP.skip ?_
    refine WP.next ?_
    refine WP.seq ?_
    refine WP.block ?_
    refine WP.seq ?_
    refine WP.region [0, 1, 2, 3, 4, 5] rfl ?_
    refine WP.val rfl rfl rfl rfl (Yld.move rfl rfl) ?_
    refine WP.val rfl rfl rfl rfl (Yld.move rfl rfl) ?_
    refine WP.val rfl rfl rfl rfl (Yld.indexAddr (i := i) rfl ty_sl_71 rfl rfl hio) ?_
    refine WP.val rfl rfl rfl rfl (Yld.fieldAddr rfl ty_fd_73_1 rfl) ?_
    refine WP.val rfl rfl rfl rfl (Yld.loadC rfl ty_sc_3 rfl (There.i hbo) eP) ?_
    refine WP.val rfl rfl rfl rfl (Yld.assign rfl rfl) ?_
    refine WP.nil ?_
    refine WP.sub [(0, _), (4, _), (5, _), (6, _), (7, _), (27, _)] ?_ ⟨rfl, rfl, rfl, rfl, rfl, rfl, trivial⟩
    refine WP.next ?_
    refine WP.cut (X := TL) (fun u : TL => [(0, .slice (some ⟨bo, ko, none⟩) ops.length co), (4, .pointer (some ⟨t, 0, none⟩)), (5, .pointer (some ⟨b5, 0, none⟩)), (6, .int .i64 (i : Int))]) (fun u => u.J) (fun u : TL => u.L ++ ((b5, row 76 (usV u.x)) :: F)) (fun u => u.ok I t (i + 1)) ?_ ?_
    · skip
      refine WP.seq ?_
      refine WP.region [0, 1, 2, 3, 4] rfl ?_
      refine WP.val rfl rfl rfl rfl (Yld.move rfl rfl) ?_
      refine WP.val rfl rfl rfl rfl (Yld.move rfl rfl) ?_
      refine WP.val rfl rfl rfl rfl (Yld.indexAddr (i := i) rfl ty_sl_71 rfl rfl hio) ?_
      refine WP.val rfl rfl rfl rfl (Yld.fieldAddr rfl ty_fd_73_0 rfl) ?_
      refine WP.val rfl rfl rfl rfl (Yld.loadC rfl ty_sc_3 rfl (There.i hbo) eK) ?_
      refine WP.nil ?_
      refine WP.sub [(0, _), (4, _), (5, _), (6, _), (7, _), (27, _), (39, _)] ?_ ⟨rfl, rfl, rfl, rfl, rfl, rfl, rfl, trivial⟩
      refine WP.next ?_
      refine WP.block ?_
      refine WP.seq ?_
      refine WP.region [0, 1] rfl ?_
      refine WP.split rfl rfl rfl rfl (Yld.eql rfl rfl rfl) (fun k1 => ?_) (fun k1 => ?_)
      · refine WP.val rfl rfl rfl rfl (Yld.assign rfl rfl) ?_
        refine WP.nil ?_
        refine WP.sub [(0, _), (4, _), (5, _), (6, _), (7, _), (27, _), (39, _), (85, _)] ?_ ⟨rfl, rfl, rfl, rfl, rfl, rfl, rfl, rfl, trivial⟩
        refine WP.next ?_
        refine WP.condT rfl ?_
        refine WP.seq ?_
        refine WP.region [0, 1, 2, 3] rfl ?_
        refine WP.val rfl rfl rfl rfl (Yld.move rfl rfl) ?_
        refine WP.val rfl rfl rfl rfl (Yld.move rfl rfl) ?_
        refine WP.loud rfl rfl ?_
        refine Op.call (tabT_Free hT) rfl Try.func32 rfl rfl rfl rfl (by repeat (first | exact Take.nil | with_reducible apply Take.cons | apply Take.app | exact Rm.chunk | exact Rm.here | exact Rm.nil0 | apply Rm.skip | apply Rm.skipS | (focus (apply Take.all; (repeat (first | exact Rm.chunk | exact Rm.here | exact Rm.nil0 | apply Rm.skip | apply Rm.skipS)); done)) | apply Take.cons)) ?_
        rintro v J L5 hJ ⟨x5, rfl, rfl, hT5, hf5⟩
        clear hJ; try simp only [List.cons_append, List.nil_append, List.append_assoc]
        refine WP.val rfl rfl rfl rfl (Yld.assign rfl rfl) ?_
        refine WP.nil ?_
        refine WP.sub [(0, _), (4, _), (5, _), (6, _), (7, _), (8, _), (27, _), (39, _), (85, _)] ?_ ⟨rfl, rfl, rfl, rfl, rfl, rfl, rfl, rfl, rfl, trivial⟩
        refine WP.next ?_
        refine WP.seq ?_
        refine WP.seq ?_
        refine WP.region [0, 1, 2, 3, 4, 5, 6, 7, 8, 9, 10, 11, 12, 13] rfl ?_
        refine WP.val rfl rfl rfl rfl (Yld.move rfl rfl) ?_
        refine WP.val rfl rfl rfl rfl (Yld.eql rfl rfl rfl _ rfl) ?_
        refine WP.val rfl rfl rfl rfl (Yld.move rfl rfl) ?_
        refine WP.split rfl rfl rfl rfl (Yld.geq rfl rfl rfl) (fun g1 => ?_) (fun g1 => ?_)
        · refine WP.val rfl rfl rfl rfl (Yld.move rfl rfl) ?_
          refine WP.valG rfl rfl rfl rfl rfl rfl rfl (Yld.move rfl rfl) ?_
          refine WP.splitG rfl rfl rfl rfl rfl rfl rfl (Yld.leq rfl rfl rfl) (fun g2 => ?_) (fun g2 => ?_)
          · refine WP.val rfl rfl rfl rfl (Yld.pickT rfl rfl rfl) ?_
            refine WP.val rfl rfl rfl rfl (Yld.move rfl rfl) ?_
            refine WP.valG rfl rfl rfl rfl rfl rfl rfl (Yld.move rfl rfl) ?_
            refine WP.valG rfl rfl rfl rfl rfl rfl rfl (Yld.indexAddrAI rfl ty_ar_76 rfl rfl (by omega) (by omega)) ?_
            refine WP.valG rfl rfl rfl rfl rfl rfl rfl (Yld.load rfl ty_sc_4 rfl (by repeat (first | exact There.h | exact There.i (by assumption) | apply There.t | apply There.s)) (us_at (by omega) (by omega))) ?_
            refine WP.val rfl rfl rfl rfl (Yld.pickT rfl rfl rfl) ?_
            refine WP.val rfl rfl rfl rfl (Yld.neqBool rfl (by kernel_rfl) rfl rfl false (by first | (generalize (x.get ops[i].page).isSome = s; cases s <;> rfl) | (rw [hout (by omega)]; rfl))) ?_
            refine WP.nil ?_
            refine WP.sub [(0, _), (4, _), (5, _), (6, _), (7, _), (8, _), (27, _), (39, _), (85, _), (103, _)] ?_ ⟨rfl, rfl, rfl, rfl, rfl, rfl, rfl, rfl, rfl, rfl, trivial⟩
            refine WP.next ?_
            refine WP.condF rfl ?_
            refine WP.skip ?_
            refine WP.next ?_
            refine WP.seq ?_
            refine WP.region [0, 1] rfl ?_
            refine WP.val rfl rfl rfl rfl (Yld.move rfl rfl) ?_
            refine WP.split rfl rfl rfl rfl (Yld.eql rfl rfl rfl) (fun z1 => ?_) (fun z1 => ?_)
            · have hsm : (x.get ops[i].page).isSome = true := by by_cases h : (x.get ops[i].page).isSome = true; exact h; (rw [if_neg h] at z1; exact absurd z1 (by decide))
              have hpr : 1 ≤ ops[i].page ∧ ops[i].page ≤ 512 := by obtain ⟨e, he⟩ := Option.isSome_iff_exists.1 hsm; have := Tb.in_of_get he; omega
              refine WP.nil ?_
              refine WP.sub [(0, _), (4, _), (5, _), (6, _), (7, _), (8, _), (27, _), (39, _), (85, _), (103, _), (105, _)] ?_ ⟨rfl, rfl, rfl, rfl, rfl, rfl, rfl, rfl, rfl, rfl, rfl, trivial⟩
              refine WP.next ?_
              refine WP.condT rfl ?_
              refine WP.region [0, 1, 2] rfl ?_
              refine WP.val rfl rfl rfl rfl (Yld.move rfl rfl) ?_
              refine WP.val rfl rfl rfl rfl (Yld.indexAddrAI rfl ty_ar_76 rfl rfl (by omega) (by omega)) ?_
              refine WP.loud rfl rfl ?_
              refine Op.store1 rfl rfl ty_sz_4 rfl rfl rfl (by repeat (first | exact Upd.head | apply Upd.tail | apply Upd.tailS)) (us_set (by omega) (by omega) (by rw [hf5.get, if_pos rfl]; rfl) (fun k hk => by rw [hf5.get, if_neg hk])) ?_
              refine WP.nil ?_
              refine WP.sub [(0, _), (4, _), (5, _), (6, _), (7, _), (8, _), (27, _), (39, _), (85, _), (103, _), (105, _)] ?_ ⟨rfl, rfl, rfl, rfl, rfl, rfl, rfl, rfl, rfl, rfl, rfl, trivial⟩
              refine WP.leave ?_
              exact WP.meet (⟨x5, J2, L5⟩ : TL) ⟨hle2, hT5, (by have := hf5.tok; show x5.tok ≤ i + 1; omega), hnx.freed hf5⟩ ⟨rfl, rfl, rfl, rfl, trivial⟩ rfl (by (try simp only [List.append_eq, List.cons_append, List.nil_append, List.append_assoc]); repeat (first | exact Rm.chunk | exact Rm.here | exact Rm.nil0 | apply Rm.skip | apply Rm.skipS | apply PX.cons | (apply PX.done; (repeat (first | exact Leave.done | apply Leave.drop | apply Leave.dropS)); done) | apply PX.app))
            · have hsm : x.get ops[i].page = none := by cases h : x.get ops[i].page with | none => rfl | some e => rw [h] at z1; exact absurd rfl z1
              have hsame : ∀ k, x5.get k = x.get k := fun k => by rw [hf5.get]; split <;> simp_all
              refine WP.nil ?_
              refine WP.sub [(0, _), (4, _), (5, _), (6, _), (7, _), (8, _), (27, _), (39, _), (85, _), (103, _), (105, _)] ?_ ⟨rfl, rfl, rfl, rfl, rfl, rfl, rfl, rfl, rfl, rfl, rfl, trivial⟩
              refine WP.next ?_
              refine WP.condF rfl ?_
              refine WP.skip ?_
              refine WP.leave ?_
              rw [us_congr hsame]
              exact WP.meet (⟨x5, J2, L5⟩ : TL) ⟨hle2, hT5, (by have := hf5.tok; show x5.tok ≤ i + 1; omega), hnx.freed hf5⟩ ⟨rfl, rfl, rfl, rfl, trivial⟩ rfl (by (try simp only [List.append_eq, List.cons_append, List.nil_append, List.append_assoc]); repeat (first | exact Rm.chunk | exact Rm.here | exact Rm.nil0 | apply Rm.skip | apply Rm.skipS | apply PX.cons | (apply PX.done; (repeat (first | exact Leave.done | apply Leave.drop | apply Leave.dropS)); done) | apply PX.app))
          · refine WP.val rfl rfl rfl rfl (Yld.pickT rfl rfl rfl) ?_
            refine WP.val rfl rfl rfl rfl (Yld.move rfl rfl) ?_
            refine WP.passG rfl rfl rfl rfl rfl rfl rfl rfl ?_
            refine WP.passG rfl rfl rfl rfl rfl rfl rfl rfl ?_
            refine WP.passG rfl rfl rfl rfl rfl rfl rfl rfl ?_
            refine WP.val rfl rfl rfl rfl (Yld.pickF rfl rfl rfl) ?_
            refine WP.val rfl rfl rfl rfl (Yld.neqBool rfl (by kernel_rfl) rfl rfl false (by first | (generalize (x.get ops[i].page).isSome = s; cases s <;> rfl) | (rw [hout (by omega)]; rfl))) ?_
            refine WP.nil ?_
            refine WP.sub [(0, _), (4, _), (5, _), (6, _), (7, _), (8, _), (27, _), (39, _), (85, _), (103, _)] ?_ ⟨rfl, rfl, rfl, rfl, rfl, rfl, rfl, rfl, rfl, rfl, trivial⟩
            refine WP.next ?_
            refine WP.condF rfl ?_
            refine WP.skip ?_
            refine WP.next ?_
            refine WP.seq ?_
            refine WP.region [0, 1] rfl ?_
            refine WP.val rfl rfl rfl rfl (Yld.move rfl rfl) ?_
            refine WP.split rfl rfl rfl rfl (Yld.eql rfl rfl rfl) (fun z1 => ?_) (fun z1 => ?_)
            · have hsm : (x.get ops[i].page).isSome = true := by by_cases h : (x.get ops[i].page).isSome = true; exact h; (rw [if_neg h] at z1; exact absurd z1 (by decide))
              have hpr : 1 ≤ ops[i].page ∧ ops[i].page ≤ 512 := by obtain ⟨e, he⟩ := Option.isSome_iff_exists.1 hsm; have := Tb.in_of_get he; omega
              refine WP.nil ?_
              refine WP.sub [(0, _), (4, _), (5, _), (6, _), (7, _), (8, _), (27, _), (39, _), (85, _), (103, _), (105, _)] ?_ ⟨rfl, rfl, rfl, rfl, rfl, rfl, rfl, rfl, rfl, rfl, rfl, trivial⟩
              refine WP.next ?_
              refine WP.condT rfl ?_
              refine WP.region [0, 1, 2] rfl ?_
              refine WP.val rfl rfl rfl rfl (Yld.move rfl rfl) ?_
              refine WP.val rfl rfl rfl rfl (Yld.indexAddrAI rfl ty_ar_76 rfl rfl (by omega) (by omega)) ?_
              refine WP.loud rfl rfl ?_
              refine Op.store1 rfl rfl ty_sz_4 rfl rfl rfl (by repeat (first | exact Upd.head | apply Upd.tail | apply Upd.tailS)) (us_set (by omega) (by omega) (by rw [hf5.get, if_pos rfl]; rfl) (fun k hk => by rw [hf5.get, if_neg hk])) ?_
              refine WP.nil ?_
              refine WP.sub [(0, _), (4, _), (5, _), (6, _), (7, _), (8, _), (27, _), (39, _), (85, _), (103, _), (105, _)] ?_ ⟨rfl, rfl, rfl, rfl, rfl, rfl, rfl, rfl, rfl, rfl, rfl, trivial⟩
              refine WP.leave ?_
              exact WP.meet (⟨x5, J2, L5⟩ : TL) ⟨hle2, hT5, (by have := hf5.tok; show x5.tok ≤ i + 1; omega), hnx.freed hf5⟩ ⟨rfl, rfl, rfl, rfl, trivial⟩ rfl (by (try simp only [List.append_eq, List.cons_append, List.nil_append, List.append_assoc]); repeat (first | exact Rm.chunk | exact Rm.here | exact Rm.nil0 | apply Rm.skip | apply Rm.skipS | apply PX.cons | (apply PX.done; (repeat (first | exact Leave.done | apply Leave.drop | apply Leave.dropS)); done) | apply PX.app))
            · have hsm : x.get ops[i].page = none := by cases h : x.get ops[i].page with | none => rfl | some e => rw [h] at z1; exact absurd rfl z1
              have hsame : ∀ k, x5.get k = x.get k := fun k => by rw [hf5.get]; split <;> simp_all
              refine WP.nil ?_
              refine WP.sub [(0, _), (4, _), (5, _), (6, _), (7, _), (8, _), (27, _), (39, _), (85, _), (103, _), (105, _)] ?_ ⟨rfl, rfl, rfl, rfl, rfl, rfl, rfl, rfl, rfl, rfl, rfl, trivial⟩
              refine WP.next ?_
              refine WP.condF rfl ?_
              refine WP.skip ?_
              refine WP.leave ?_
              rw [us_congr hsame]
              exact WP.meet (⟨x5, J2, L5⟩ : TL) ⟨hle2, hT5, (by have := hf5.tok; show x5.tok ≤ i + 1; omega), hnx.freed hf5⟩ ⟨rfl, rfl, rfl, rfl, trivial⟩ rfl (by (try simp only [List.append_eq, List.cons_append, List.nil_append, List.append_assoc]); repeat (first | exact Rm.chunk | exact Rm.here | exact Rm.nil0 | apply Rm.skip | apply Rm.skipS | apply PX.cons | (apply PX.done; (repeat (first | exact Leave.done | apply Leave.drop | apply Leave.dropS)); done) | apply PX.app))
        · refine WP.val rfl rfl rfl rfl (Yld.move rfl rfl) ?_
          refine WP.passG rfl rfl rfl rfl rfl rfl rfl rfl ?_
          refine WP.passG rfl rfl rfl rfl rfl rfl rfl rfl ?_
          refine WP.val rfl rfl rfl rfl (Yld.pickF rfl rfl rfl) ?_
          refine WP.val rfl rfl rfl rfl (Yld.move rfl rfl) ?_
          refine WP.passG rfl rfl rfl rfl rfl rfl rfl rfl ?_
          refine WP.passG rfl rfl rfl rfl rfl rfl rfl rfl ?_
          refine WP.passG rfl rfl rfl rfl rfl rfl rfl rfl ?_
          refine WP.val rfl rfl rfl rfl (Yld.pickF rfl rfl rfl) ?_
          refine WP.val rfl rfl rfl rfl (Yld.neqBool rfl (by kernel_rfl) rfl rfl false (by first | (generalize (x.get ops[i].page).isSome = s; cases s <;> rfl) | (rw [hout (by omega)]; rfl))) ?_
          refine WP.nil ?_
          refine WP.sub [(0, _), (4, _), (5, _), (6, _), (7, _), (8, _), (27, _), (39, _), (85, _), (103, _)] ?_ ⟨rfl, rfl, rfl, rfl, rfl, rfl, rfl, rfl, rfl, rfl, trivial⟩
          refine WP.next ?_
          refine WP.condF rfl ?_
          refine WP.skip ?_
          refine WP.next ?_
          refine WP.seq ?_
          refine WP.region [0, 1] rfl ?_
          refine WP.val rfl rfl rfl rfl (Yld.move rfl rfl) ?_
          refine WP.split rfl rfl rfl rfl (Yld.eql rfl rfl rfl) (fun z1 => ?_) (fun z1 => ?_)
          · have hsm : (x.get ops[i].page).isSome = true := by by_cases h : (x.get ops[i].page).isSome = true; exact h; (rw [if_neg h] at z1; exact absurd z1 (by decide))
            have hpr : 1 ≤ ops[i].page ∧ ops[i].page ≤ 512 := by obtain ⟨e, he⟩ := Option.isSome_iff_exists.1 hsm; have := Tb.in_of_get he; omega
            refine WP.nil ?_
            refine WP.sub [(0, _), (4, _), (5, _), (6, _), (7, _), (8, _), (27, _), (39, _), (85, _), (103, _), (105, _)] ?_ ⟨rfl, rfl, rfl, rfl, rfl, rfl, rfl, rfl, rfl, rfl, rfl, trivial⟩
            refine WP.next ?_
            refine WP.condT rfl ?_
            refine WP.region [0, 1, 2] rfl ?_
            refine WP.val rfl rfl rfl rfl (Yld.move rfl rfl) ?_
            refine WP.val rfl rfl rfl rfl (Yld.indexAddrAI rfl ty_ar_76 rfl rfl (by omega) (by omega)) ?_
            refine WP.loud rfl rfl ?_
            refine Op.store1 rfl rfl ty_sz_4 rfl rfl rfl (by repeat (first | exact Upd.head | apply Upd.tail | apply Upd.tailS)) (us_set (by omega) (by omega) (by rw [hf5.get, if_pos rfl]; rfl) (fun k hk => by rw [hf5.get, if_neg hk])) ?_
            refine WP.nil ?_
            refine WP.sub [(0, _), (4, _), (5, _), (6, _), (7, _), (8, _), (27, _), (39, _), (85, _), (103, _), (105, _)] ?_ ⟨rfl, rfl, rfl, rfl, rfl, rfl, rfl, rfl, rfl, rfl, rfl, trivial⟩
            refine WP.leave ?_
            exact WP.meet (⟨x5, J2, L5⟩ : TL) ⟨hle2, hT5, (by have := hf5.tok; show x5.tok ≤ i + 1; omega), hnx.freed hf5⟩ ⟨rfl, rfl, rfl, rfl, trivial⟩ rfl (by (try simp only [List.append_eq, List.cons_append, List.nil_append, List.append_assoc]); repeat (first | exact Rm.chunk | exact Rm.here | exact Rm.nil0 | apply Rm.skip | apply Rm.skipS | apply PX.cons | (apply PX.done; (repeat (first | exact Leave.done | apply Leave.drop | apply Leave.dropS)); done) | apply PX.app))
          · have hsm : x.get ops[i].page = none := by cases h : x.get ops[i].page with | none => rfl | some e => rw [h] at z1; exact absurd rfl z1
            have hsame : ∀ k, x5.get k = x.get k := fun k => by rw [hf5.get]; split <;> simp_all
            refine WP.nil ?_
            refine WP.sub [(0, _), (4, _), (5, _), (6, _), (7, _), (8, _), (27, _), (39, _), (85, _), (103, _), (105, _)] ?_ ⟨rfl, rfl, rfl, rfl, rfl, rfl, rfl, rfl, rfl, rfl, rfl, trivial⟩
            refine WP.next ?_
            refine WP.condF rfl ?_
            refine WP.skip ?_
            refine WP.leave ?_
            rw [us_congr hsame]
            exact WP.meet (⟨x5, J2, L5⟩ : TL) ⟨hle2, hT5, (by have := hf5.tok; show x5.tok ≤ i + 1; omega), hnx.freed hf5⟩ ⟨rfl, rfl, rfl, rfl, trivial⟩ rfl (by (try simp only [List.append_eq, List.cons_append, List.nil_append, List.append_assoc]); repeat (first | exact Rm.chunk | exact Rm.here | exact Rm.nil0 | apply Rm.skip | apply Rm.skipS | apply PX.cons | (apply PX.done; (repeat (first | exact Leave.done | apply Leave.drop | apply Leave.dropS)); done) | apply PX.app))
      · refine WP.val rfl rfl rfl rfl (Yld.assign rfl rfl) ?_
        refine WP.nil ?_
        refine WP.sub [(0, _), (4, _), (5, _), (6, _), (7, _), (27, _), (39, _), (85, _)] ?_ ⟨rfl, rfl, rfl, rfl, rfl, rfl, rfl, rfl, trivial⟩
        refine WP.next ?_
        refine WP.condF rfl ?_
        refine WP.seq ?_
        refine WP.region [0, 1] rfl ?_
        refine WP.split rfl rfl rfl rfl (Yld.eql rfl rfl rfl) (fun k5 => ?_) (fun k5 => ?_)
        · refine WP.val rfl rfl rfl rfl (Yld.assign rfl rfl) ?_
          refine WP.nil ?_
          refine WP.sub [(0, _), (4, _), (5, _), (6, _), (7, _), (27, _), (39, _), (85, _), (108, _)] ?_ ⟨rfl, rfl, rfl, rfl, rfl, rfl, rfl, rfl, rfl, trivial⟩
          refine WP.next ?_
          refine WP.condT rfl ?_
          refine WP.seq ?_
          refine WP.region [0, 1, 2, 3, 4] rfl ?_
          refine WP.val rfl rfl rfl rfl (Yld.move rfl rfl) ?_
          refine WP.val rfl rfl rfl rfl (Yld.move rfl rfl) ?_
          refine WP.val rfl rfl rfl rfl (Yld.buildS (pl := []) rfl ty_zr_63 ty_zd_63 (by kernel_rfl) rfl (vs := []) rfl (segs := []) rfl rfl (by repeat (first | exact SetSeg.nil | apply SetSeg.one | exact SetAt.zero | apply SetAt.succ))) ?_
          refine WP.loud rfl rfl ?_
          refine Op.call (tabT_PutAny hT (zero_rent J2) zero_sized (by omega)) rfl Try.func33 rfl rfl rfl rfl (by repeat (first | exact Take.nil | with_reducible apply Take.cons | apply Take.app | exact Rm.chunk | exact Rm.here | exact Rm.nil0 | apply Rm.skip | apply Rm.skipS | (focus (apply Take.all; (repeat (first | exact Rm.chunk | exact Rm.here | exact Rm.nil0 | apply Rm.skip | apply Rm.skipS)); done)) | apply Take.cons)) ?_
          rintro v J5 L5 hJ5 ⟨x5, er5, rfl, hT5, hor5⟩
          try simp only [List.cons_append, List.nil_append, List.append_assoc]
          have hnx5 : x5.nxt := by rcases hor5 with ⟨_, _, hu⟩ | ⟨_, _, h⟩; exact hnx.took hu; (rw [h]; exact hnx)
          have htk5 : x5.tok ≤ i + 1 := by rcases hor5 with ⟨_, _, hu⟩ | ⟨_, _, h⟩; (have := hu.tok; omega); (rw [h]; omega)
          have hpe : er5 = 0 ↔ (1 ≤ ops[i].page ∧ ops[i].page ≤ 512) := by rcases hor5 with ⟨h0, h1, _⟩ | ⟨h0, h1, _⟩; exact ⟨fun _ => ⟨h1.1, h1.2.1⟩, fun _ => h0⟩; exact ⟨fun h => absurd h h0, fun h => absurd ⟨h.1, h.2, zero_may⟩ h1⟩
          refine WP.val rfl rfl rfl rfl (Yld.assign rfl rfl) ?_
          refine WP.nil ?_
          refine WP.sub [(0, _), (4, _), (5, _), (6, _), (7, _), (9, _), (27, _), (39, _), (85, _), (108, _)] ?_ ⟨rfl, rfl, rfl, rfl, rfl, rfl, rfl, rfl, rfl, rfl, trivial⟩
          refine WP.next ?_
          refine WP.seq ?_
          refine WP.seq ?_
          refine WP.region [0, 1, 2, 3, 4, 5, 6, 7, 8] rfl ?_
          refine WP.val rfl rfl rfl rfl (Yld.move rfl rfl) ?_
          refine WP.val rfl rfl rfl rfl (Yld.eql rfl rfl rfl _ rfl) ?_
          refine WP.val rfl rfl rfl rfl (Yld.move rfl rfl) ?_
          refine WP.split rfl rfl rfl rfl (Yld.geq rfl rfl rfl) (fun g1 => ?_) (fun g1 => ?_)
          · refine WP.val rfl rfl rfl rfl (Yld.move rfl rfl) ?_
            refine WP.valG rfl rfl rfl rfl rfl rfl rfl (Yld.move rfl rfl) ?_
            refine WP.splitG rfl rfl rfl rfl rfl rfl rfl (Yld.leq rfl rfl rfl) (fun g2 => ?_) (fun g2 => ?_)
            · refine WP.val rfl rfl rfl rfl (Yld.pickT rfl rfl rfl) ?_
              refine WP.val rfl rfl rfl rfl (Yld.neqBool rfl (by kernel_rfl) rfl rfl false (by first | (rw [decide_eq_true (show er5 = 0 from hpe.2 ⟨by omega, by omega⟩)]; rfl) | (rw [decide_eq_false (show ¬ er5 = 0 from fun h => by have := hpe.1 h; omega)]; rfl))) ?_
              refine WP.nil ?_
              refine WP.sub [(0, _), (4, _), (5, _), (6, _), (7, _), (9, _), (27, _), (39, _), (85, _), (108, _), (122, _)] ?_ ⟨rfl, rfl, rfl, rfl, rfl, rfl, rfl, rfl, rfl, rfl, rfl, trivial⟩
              refine WP.next ?_
              refine WP.condF rfl ?_
              refine WP.skip ?_
              refine WP.next ?_
              refine WP.seq ?_
              refine WP.region [0, 1] rfl ?_
              refine WP.val rfl rfl rfl rfl (Yld.move rfl rfl) ?_
              refine WP.split rfl rfl rfl rfl (Yld.eql rfl rfl rfl) (fun z5 => ?_) (fun z5 => ?_)
              · have hpr := hpe.1 z5
                have hu5 : x.Used x5 ops[i].page zeroEnt := by rcases hor5 with ⟨_, _, hu⟩ | ⟨h0, _, _⟩; exact hu; exact absurd z5 h0
                obtain ⟨b9, hg9⟩ := hu5.get
                refine WP.nil ?_
                refine WP.sub [(0, _), (4, _), (5, _), (6, _), (7, _), (9, _), (27, _), (39, _), (85, _), (108, _), (122, _), (124, _)] ?_ ⟨rfl, rfl, rfl, rfl, rfl, rfl, rfl, rfl, rfl, rfl, rfl, rfl, trivial⟩
                refine WP.next ?_
                refine WP.condT rfl ?_
                refine WP.region [0, 1, 2] rfl ?_
                refine WP.val rfl rfl rfl rfl (Yld.move rfl rfl) ?_
                refine WP.val rfl rfl rfl rfl (Yld.indexAddrAI rfl ty_ar_76 rfl rfl (by omega) (by omega)) ?_
                refine WP.loud rfl rfl ?_
                refine Op.store1 rfl rfl ty_sz_4 rfl rfl rfl (by repeat (first | exact Upd.head | apply Upd.tail | apply Upd.tailS)) (us_set (by omega) (by omega) (by rw [hg9, if_pos rfl]; rfl) (fun k hk => by rw [hg9, if_neg hk])) ?_
                refine WP.nil ?_
                refine WP.sub [(0, _), (4, _), (5, _), (6, _), (7, _), (9, _), (27, _), (39, _), (85, _), (108, _), (122, _), (124, _)] ?_ ⟨rfl, rfl, rfl, rfl, rfl, rfl, rfl, rfl, rfl, rfl, rfl, rfl, trivial⟩
                refine WP.leave ?_
                exact WP.meet (⟨x5, J5, L5⟩ : TL) ⟨Imm.le_trans hle2 hJ5, hT5, htk5, hnx5⟩ ⟨rfl, rfl, rfl, rfl, trivial⟩ rfl (by (try simp only [List.append_eq, List.cons_append, List.nil_append, List.append_assoc]); repeat (first | exact Rm.chunk | exact Rm.here | exact Rm.nil0 | apply Rm.skip | apply Rm.skipS | apply PX.cons | (apply PX.done; (repeat (first | exact Leave.done | apply Leave.drop | apply Leave.dropS)); done) | apply PX.app))
              · have hsame : ∀ k, x5.get k = x.get k := by rcases hor5 with ⟨h0, _, _⟩ | ⟨_, _, h⟩; exact absurd h0 z5; (rw [h]; exact fun _ => rfl)
                refine WP.nil ?_
                refine WP.sub [(0, _), (4, _), (5, _), (6, _), (7, _), (9, _), (27, _), (39, _), (85, _), (108, _), (122, _), (124, _)] ?_ ⟨rfl, rfl, rfl, rfl, rfl, rfl, rfl, rfl, rfl, rfl, rfl, rfl, trivial⟩
                refine WP.next ?_
                refine WP.condF rfl ?_
                refine WP.skip ?_
                refine WP.leave ?_
                rw [us_congr hsame]
                exact WP.meet (⟨x5, J5, L5⟩ : TL) ⟨Imm.le_trans hle2 hJ5, hT5, htk5, hnx5⟩ ⟨rfl, rfl, rfl, rfl, trivial⟩ rfl (by (try simp only [List.append_eq, List.cons_append, List.nil_append, List.append_assoc]); repeat (first | exact Rm.chunk | exact Rm.here | exact Rm.nil0 | apply Rm.skip | apply Rm.skipS | apply PX.cons | (apply PX.done; (repeat (first | exact Leave.done | apply Leave.drop | apply Leave.dropS)); done) | apply PX.app))
            · refine WP.val rfl rfl rfl rfl (Yld.pickT rfl rfl rfl) ?_
              refine WP.val rfl rfl rfl rfl (Yld.neqBool rfl (by kernel_rfl) rfl rfl false (by first | (rw [decide_eq_true (show er5 = 0 from hpe.2 ⟨by omega, by omega⟩)]; rfl) | (rw [decide_eq_false (show ¬ er5 = 0 from fun h => by have := hpe.1 h; omega)]; rfl))) ?_
              refine WP.nil ?_
              refine WP.sub [(0, _), (4, _), (5, _), (6, _), (7, _), (9, _), (27, _), (39, _), (85, _), (108, _), (122, _)] ?_ ⟨rfl, rfl, rfl, rfl, rfl, rfl, rfl, rfl, rfl, rfl, rfl, trivial⟩
              refine WP.next ?_
              refine WP.condF rfl ?_
              refine WP.skip ?_
              refine WP.next ?_
              refine WP.seq ?_
              refine WP.region [0, 1] rfl ?_
              refine WP.val rfl rfl rfl rfl (Yld.move rfl rfl) ?_
              refine WP.split rfl rfl rfl rfl (Yld.eql rfl rfl rfl) (fun z5 => ?_) (fun z5 => ?_)
              · have hpr := hpe.1 z5
                have hu5 : x.Used x5 ops[i].page zeroEnt := by rcases hor5 with ⟨_, _, hu⟩ | ⟨h0, _, _⟩; exact hu; exact absurd z5 h0
                obtain ⟨b9, hg9⟩ := hu5.get
                refine WP.nil ?_
                refine WP.sub [(0, _), (4, _), (5, _), (6, _), (7, _), (9, _), (27, _), (39, _), (85, _), (108, _), (122, _), (124, _)] ?_ ⟨rfl, rfl, rfl, rfl, rfl, rfl, rfl, rfl, rfl, rfl, rfl, rfl, trivial⟩
                refine WP.next ?_
                refine WP.condT rfl ?_
                refine WP.region [0, 1, 2] rfl ?_
                refine WP.val rfl rfl rfl rfl (Yld.move rfl rfl) ?_
                refine WP.val rfl rfl rfl rfl (Yld.indexAddrAI rfl ty_ar_76 rfl rfl (by omega) (by omega)) ?_
                refine WP.loud rfl rfl ?_
                refine Op.store1 rfl rfl ty_sz_4 rfl rfl rfl (by repeat (first | exact Upd.head | apply Upd.tail | apply Upd.tailS)) (us_set (by omega) (by omega) (by rw [hg9, if_pos rfl]; rfl) (fun k hk => by rw [hg9, if_neg hk])) ?_
                refine WP.nil ?_
                refine WP.sub [(0, _), (4, _), (5, _), (6, _), (7, _), (9, _), (27, _), (39, _), (85, _), (108, _), (122, _), (124, _)] ?_ ⟨rfl, rfl, rfl, rfl, rfl, rfl, rfl, rfl, rfl, rfl, rfl, rfl, trivial⟩
                refine WP.leave ?_
                exact WP.meet (⟨x5, J5, L5⟩ : TL) ⟨Imm.le_trans hle2 hJ5, hT5, htk5, hnx5⟩ ⟨rfl, rfl, rfl, rfl, trivial⟩ rfl (by (try simp only [List.append_eq, List.cons_append, List.nil_append, List.append_assoc]); repeat (first | exact Rm.chunk | exact Rm.here | exact Rm.nil0 | apply Rm.skip | apply Rm.skipS | apply PX.cons | (apply PX.done; (repeat (first | exact Leave.done | apply Leave.drop | apply Leave.dropS)); done) | apply PX.app))
              · have hsame : ∀ k, x5.get k = x.get k := by rcases hor5 with ⟨h0, _, _⟩ | ⟨_, _, h⟩; exact absurd h0 z5; (rw [h]; exact fun _ => rfl)
                refine WP.nil ?_
                refine WP.sub [(0, _), (4, _), (5, _), (6, _), (7, _), (9, _), (27, _), (39, _), (85, _), (108, _), (122, _), (124, _)] ?_ ⟨rfl, rfl, rfl, rfl, rfl, rfl, rfl, rfl, rfl, rfl, rfl, rfl, trivial⟩
                refine WP.next ?_
                refine WP.condF rfl ?_
                refine WP.skip ?_
                refine WP.leave ?_
                rw [us_congr hsame]
                exact WP.meet (⟨x5, J5, L5⟩ : TL) ⟨Imm.le_trans hle2 hJ5, hT5, htk5, hnx5⟩ ⟨rfl, rfl, rfl, rfl, trivial⟩ rfl (by (try simp only [List.append_eq, List.cons_append, List.nil_append, List.append_assoc]); repeat (first | exact Rm.chunk | exact Rm.here | exact Rm.nil0 | apply Rm.skip | apply Rm.skipS | apply PX.cons | (apply PX.done; (repeat (first | exact Leave.done | apply Leave.drop | apply Leave.dropS)); done) | apply PX.app))
          · refine WP.val rfl rfl rfl rfl (Yld.move rfl rfl) ?_
            refine WP.passG rfl rfl rfl rfl rfl rfl rfl rfl ?_
            refine WP.passG rfl rfl rfl rfl rfl rfl rfl rfl ?_
            refine WP.val rfl rfl rfl rfl (Yld.pickF rfl rfl rfl) ?_
            refine WP.val rfl rfl rfl rfl (Yld.neqBool rfl (by kernel_rfl) rfl rfl false (by first | (rw [decide_eq_true (show er5 = 0 from hpe.2 ⟨by omega, by omega⟩)]; rfl) | (rw [decide_eq_false (show ¬ er5 = 0 from fun h => by have := hpe.1 h; omega)]; rfl))) ?_
            refine WP.nil ?_
            refine WP.sub [(0, _), (4, _), (5, _), (6, _), (7, _), (9, _), (27, _), (39, _), (85, _), (108, _), (122, _)] ?_ ⟨rfl, rfl, rfl, rfl, rfl, rfl, rfl, rfl, rfl, rfl, rfl, trivial⟩
            refine WP.next ?_
            refine WP.condF rfl ?_
            refine WP.skip ?_
            refine WP.next ?_
            refine WP.seq ?_
            refine WP.region [0, 1] rfl ?_
            refine WP.val rfl rfl rfl rfl (Yld.move rfl rfl) ?_
            refine WP.split rfl rfl rfl rfl (Yld.eql rfl rfl rfl) (fun z5 => ?_) (fun z5 => ?_)
            · have hpr := hpe.1 z5
              have hu5 : x.Used x5 ops[i].page zeroEnt := by rcases hor5 with ⟨_, _, hu⟩ | ⟨h0, _, _⟩; exact hu; exact absurd z5 h0
              obtain ⟨b9, hg9⟩ := hu5.get
              refine WP.nil ?_
              refine WP.sub [(0, _), (4, _), (5, _), (6, _), (7, _), (9, _), (27, _), (39, _), (85, _), (108, _), (122, _), (124, _)] ?_ ⟨rfl, rfl, rfl, rfl, rfl, rfl, rfl, rfl, rfl, rfl, rfl, rfl, trivial⟩
              refine WP.next ?_
              refine WP.condT rfl ?_
              refine WP.region [0, 1, 2] rfl ?_
              refine WP.val rfl rfl rfl rfl (Yld.move rfl rfl) ?_
              refine WP.val rfl rfl rfl rfl (Yld.indexAddrAI rfl ty_ar_76 rfl rfl (by omega) (by omega)) ?_
              refine WP.loud rfl rfl ?_
              refine Op.store1 rfl rfl ty_sz_4 rfl rfl rfl (by repeat (first | exact Upd.head | apply Upd.tail | apply Upd.tailS)) (us_set (by omega) (by omega) (by rw [hg9, if_pos rfl]; rfl) (fun k hk => by rw [hg9, if_neg hk])) ?_
              refine WP.nil ?_
              refine WP.sub [(0, _), (4, _), (5, _), (6, _), (7, _), (9, _), (27, _), (39, _), (85, _), (108, _), (122, _), (124, _)] ?_ ⟨rfl, rfl, rfl, rfl, rfl, rfl, rfl, rfl, rfl, rfl, rfl, rfl, trivial⟩
              refine WP.leave ?_
              exact WP.meet (⟨x5, J5, L5⟩ : TL) ⟨Imm.le_trans hle2 hJ5, hT5, htk5, hnx5⟩ ⟨rfl, rfl, rfl, rfl, trivial⟩ rfl (by (try simp only [List.append_eq, List.cons_append, List.nil_append, List.append_assoc]); repeat (first | exact Rm.chunk | exact Rm.here | exact Rm.nil0 | apply Rm.skip | apply Rm.skipS | apply PX.cons | (apply PX.done; (repeat (first | exact Leave.done | apply Leave.drop | apply Leave.dropS)); done) | apply PX.app))
            · have hsame : ∀ k, x5.get k = x.get k := by rcases hor5 with ⟨h0, _, _⟩ | ⟨_, _, h⟩; exact absurd h0 z5; (rw [h]; exact fun _ => rfl)
              refine WP.nil ?_
              refine WP.sub [(0, _), (4, _), (5, _), (6, _), (7, _), (9, _), (27, _), (39, _), (85, _), (108, _), (122, _), (124, _)] ?_ ⟨rfl, rfl, rfl, rfl, rfl, rfl, rfl, rfl, rfl, rfl, rfl, rfl, trivial⟩
              refine WP.next ?_
              refine WP.condF rfl ?_
              refine WP.skip ?_
              refine WP.leave ?_
              rw [us_congr hsame]
              exact WP.meet (⟨x5, J5, L5⟩ : TL) ⟨Imm.le_trans hle2 hJ5, hT5, htk5, hnx5⟩ ⟨rfl, rfl, rfl, rfl, trivial⟩ rfl (by (try simp only [List.append_eq, List.cons_append, List.nil_append, List.append_assoc]); repeat (first | exact Rm.chunk | exact Rm.here | exact Rm.nil0 | apply Rm.skip | apply Rm.skipS | apply PX.cons | (apply PX.done; (repeat (first | exact Leave.done | apply Leave.drop | apply Leave.dropS)); done) | apply PX.app))
        · refine WP.val rfl rfl rfl rfl (Yld.assign rfl rfl) ?_
          refine WP.nil ?_
          refine WP.sub [(0, _), (4, _), (5, _), (6, _), (7, _), (27, _), (39, _), (85, _), (108, _)] ?_ ⟨rfl, rfl, rfl, rfl, rfl, rfl, rfl, rfl, rfl, trivial⟩
          refine WP.next ?_
          refine WP.condF rfl ?_
          refine WP.seq ?_
          refine WP.region [0, 1, 2, 3, 4, 5, 6] rfl ?_
          refine WP.val rfl rfl rfl rfl (Yld.move rfl rfl) ?_
          refine WP.loud rfl rfl ?_
          refine Op.call (tabT_AllocAny hT (by omega)) rfl Try.func29 rfl rfl rfl rfl (by repeat (first | exact Take.nil | with_reducible apply Take.cons | apply Take.app | exact Rm.chunk | exact Rm.here | exact Rm.nil0 | apply Rm.skip | apply Rm.skipS | (focus (apply Take.all; (repeat (first | exact Rm.chunk | exact Rm.here | exact Rm.nil0 | apply Rm.skip | apply Rm.skipS)); done)) | apply Take.cons)) ?_
          rintro v J5 L5 hJ5 ⟨x5, p5, er5, rfl, hT5, hor5⟩
          try simp only [List.cons_append, List.nil_append, List.append_assoc]
          have hnx5 : x5.nxt := by rcases hor5 with ⟨_, _, _, hu⟩ | ⟨_, _, h, _⟩; exact hnx.took hu; (rw [h]; exact hnx)
          have htk5 : x5.tok ≤ i + 1 := by rcases hor5 with ⟨_, _, _, hu⟩ | ⟨_, _, h, _⟩; (have := hu.tok; omega); (rw [h]; omega)
          refine WP.val rfl rfl rfl rfl (Yld.move rfl rfl) ?_
          refine WP.val rfl rfl rfl rfl (Yld.extract rfl rfl rfl) ?_
          refine WP.val rfl rfl rfl rfl (Yld.extract rfl rfl rfl) ?_
          refine WP.val rfl rfl rfl rfl (Yld.assign rfl rfl) ?_
          refine WP.val rfl rfl rfl rfl (Yld.assign rfl rfl) ?_
          refine WP.nil ?_
          refine WP.sub [(0, _), (4, _), (5, _), (6, _), (7, _), (10, _), (11, _), (27, _), (39, _), (85, _), (108, _)] ?_ ⟨rfl, rfl, rfl, rfl, rfl, rfl, rfl, rfl, rfl, rfl, rfl, trivial⟩
          refine WP.next ?_
          refine WP.seq ?_
          refine WP.seq ?_
          refine WP.region [0] rfl ?_
          refine WP.val rfl rfl rfl rfl (Yld.assign rfl rfl) ?_
          refine WP.nil ?_
          refine WP.next ?_
          refine WP.block ?_
          refine WP.loop (X := Nat) (fun k : Nat => [(0, .slice (some ⟨bo, ko, none⟩) ops.length co), (4, .pointer (some ⟨t, 0, none⟩)), (5, .pointer (some ⟨b5, 0, none⟩)), (6, .int .i64 (i : Int)), (10, .int .i64 p5), (11, .int .i64 er5), (12, .int .i64 ((k : Int) + 1))]) (fun _ => J5) (fun _ => L5 ++ ((b5, row 76 (usV x)) :: F)) (fun k => k ≤ 512) (fun k => 513 - k) 0 (Nat.zero_le _) ⟨rfl, rfl, rfl, rfl, rfl, rfl, rfl, trivial⟩ rfl (by (try simp only [List.append_eq, List.cons_append, List.nil_append, List.append_assoc]); repeat (first | exact Rm.chunk | exact Rm.here | exact Rm.nil0 | apply Rm.skip | apply Rm.skipS | apply PX.cons | (apply PX.done; (repeat (first | exact Leave.done | apply Leave.drop | apply Leave.dropS)); done) | apply PX.app)) ?_
          intro k hk; have hk : k ≤ 512 := hk
          try dsimp only
          try simp only [List.cons_append, List.nil_append, List.append_assoc]
          refine WP.seq ?_
          refine WP.seq ?_
          refine WP.region [0, 1, 2, 3, 4, 5, 6, 7, 8, 9, 10] rfl ?_
          refine WP.val rfl rfl rfl rfl (Yld.move rfl rfl) ?_
          refine WP.val rfl rfl rfl rfl (Yld.move rfl rfl) ?_
          refine WP.split rfl rfl rfl rfl (Yld.lss rfl rfl rfl) (fun l1 => ?_) (fun l1 => ?_)
          · refine WP.val rfl rfl rfl rfl (Yld.move rfl rfl) ?_
            refine WP.valG rfl rfl rfl rfl rfl rfl rfl (Yld.move rfl rfl) ?_
            refine WP.splitG rfl rfl rfl rfl rfl rfl rfl (Yld.leq rfl rfl rfl) (fun l2 => ?_) (fun l2 => ?_)
            · refine WP.val rfl rfl rfl rfl (Yld.pickT rfl rfl rfl) ?_
              refine WP.val rfl rfl rfl rfl (Yld.move rfl rfl) ?_
              refine WP.valG rfl rfl rfl rfl rfl rfl rfl (Yld.move rfl rfl) ?_
              refine WP.splitG rfl rfl rfl rfl rfl rfl rfl (Yld.eql rfl rfl rfl) (fun l3 => ?_) (fun l3 => ?_)
              · refine WP.val rfl rfl rfl rfl (Yld.pickT rfl rfl rfl) ?_
                refine WP.nil ?_
                refine WP.sub [(0, _), (4, _), (5, _), (6, _), (10, _), (11, _), (12, _), (55, _)] ?_ ⟨rfl, rfl, rfl, rfl, rfl, rfl, rfl, rfl, trivial⟩
                refine WP.next ?_
                refine WP.condT rfl ?_
                refine WP.skip ?_
                refine WP.next ?_
                refine WP.seq ?_
                refine WP.block ?_
                refine WP.seq ?_
                refine WP.region [0, 1, 2, 3] rfl ?_
                refine WP.val rfl rfl rfl rfl (Yld.move rfl rfl) ?_
                refine WP.val rfl rfl rfl rfl (Yld.indexAddrAI rfl ty_ar_76 rfl rfl (by omega) (by omega)) ?_
                have hus : (x.get ((k : Int) + 1)).isSome = true := by rcases hor5 with ⟨_, _, hl, _⟩ | ⟨h0, _⟩; exact hl.all _ (by omega) (by omega); omega
                refine WP.val rfl rfl rfl rfl (Yld.load rfl ty_sc_4 rfl (by repeat (first | exact There.h | exact There.i (by assumption) | apply There.t | apply There.s)) (us_atV (by omega) (by omega) hus)) ?_
                refine WP.val rfl rfl rfl rfl (Yld.not rfl rfl) ?_
                refine WP.nil ?_
                refine WP.sub [(0, _), (4, _), (5, _), (6, _), (10, _), (11, _), (12, _), (55, _), (61, _)] ?_ ⟨rfl, rfl, rfl, rfl, rfl, rfl, rfl, rfl, rfl, trivial⟩
                refine WP.next ?_
                refine WP.condF rfl ?_
                refine WP.skip ?_
                refine WP.leave ?_
                refine WP.next ?_
                refine WP.region [0, 1, 2] rfl ?_
                refine WP.val rfl rfl rfl rfl (Yld.move rfl rfl) ?_
                refine WP.val rfl rfl rfl rfl (Yld.add64 rfl rfl rfl (by omega)) ?_
                refine WP.val rfl rfl rfl rfl (Yld.assign rfl rfl) ?_
                refine WP.nil ?_
                refine WP.sub [(0, _), (4, _), (5, _), (6, _), (10, _), (11, _), (12, _), (55, _), (61, _)] ?_ ⟨rfl, rfl, rfl, rfl, rfl, rfl, rfl, rfl, rfl, trivial⟩
                rw [show ((k : Int) + 1) + 1 = ((k + 1 : Nat) : Int) + 1 by omega]
                exact WP.again (k + 1) (show k + 1 ≤ 512 by omega) (show 513 - (k + 1) < 513 - k by omega) ⟨rfl, rfl, rfl, rfl, rfl, rfl, rfl, trivial⟩ rfl (by (try simp only [List.append_eq, List.cons_append, List.nil_append, List.append_assoc]); repeat (first | exact Rm.chunk | exact Rm.here | exact Rm.nil0 | apply Rm.skip | apply Rm.skipS | apply PX.cons | (apply PX.done; (repeat (first | exact Leave.done | apply Leave.drop | apply Leave.dropS)); done) | apply PX.app))
              · refine WP.val rfl rfl rfl rfl (Yld.pickT rfl rfl rfl) ?_
                refine WP.nil ?_
                refine WP.sub [(0, _), (4, _), (5, _), (6, _), (10, _), (11, _), (12, _), (55, _)] ?_ ⟨rfl, rfl, rfl, rfl, rfl, rfl, rfl, rfl, trivial⟩
                refine WP.next ?_
                refine WP.condF rfl ?_
                refine WP.exit ?_
                refine WP.thenE ?_
                refine WP.thenE ?_
                refine WP.hit ?_
                refine WP.next ?_
                refine WP.seq ?_
                refine WP.seq ?_
                refine WP.region [0, 1] rfl ?_
                refine WP.val rfl rfl rfl rfl (Yld.move rfl rfl) ?_
                refine WP.split rfl rfl rfl rfl (Yld.eql rfl rfl rfl) (fun e91 => ?_) (fun e91 => ?_)
                · have hall : x5 = x ∧ ∀ k, 1 ≤ k → k ≤ 512 → (x.get k).isSome = true := by rcases hor5 with ⟨h0, _⟩ | ⟨_, _, h1, h2⟩; omega; exact ⟨h1, h2⟩
                  have hpg : x5.pages.length = 512 := by rw [← pages_512 hnx5 (by have := hT5.size_le; omega)]; exact pages_full 512 fun k hk => by rw [hall.1]; exact hall.2 _ (by omega) (by omega)
                  rw [us_congr (x' := x5) (fun k => by rw [hall.1])]
                  refine WP.nil ?_
                  refine WP.sub [(0, _), (4, _), (5, _), (6, _), (10, _), (11, _), (12, _), (55, _), (63, _)] ?_ ⟨rfl, rfl, rfl, rfl, rfl, rfl, rfl, rfl, rfl, trivial⟩
                  refine WP.next ?_
                  refine WP.condT rfl ?_
                  refine WP.seq ?_
                  refine WP.seq ?_
                  refine WP.region [0, 1, 2, 3] rfl ?_
                  refine WP.val rfl rfl rfl rfl (Yld.move rfl rfl) ?_
                  refine WP.loud rfl rfl ?_
                  refine Op.call (tabT_Pages hT5) rfl Try.func34 rfl rfl rfl rfl (by repeat (first | exact Take.nil | with_reducible apply Take.cons | apply Take.app | exact Rm.chunk | exact Rm.here | exact Rm.nil0 | apply Rm.skip | apply Rm.skipS | (focus (apply Take.all; (repeat (first | exact Rm.chunk | exact Rm.here | exact Rm.nil0 | apply Rm.skip | apply Rm.skipS)); done)) | apply Take.cons)) ?_
                  rintro v J Lq hJ ⟨Lo, rfl, rfl, how⟩
                  clear hJ; try simp only [List.cons_append, List.nil_append, List.append_assoc]
                  obtain ⟨Ap, cp, rfl, hcp⟩ := how.slice
                  refine WP.val rfl rfl rfl rfl (Yld.len rfl ty_sl_23 rfl) ?_
                  refine WP.val rfl rfl rfl rfl (Yld.neq rfl rfl rfl false (decide_eq_false (by omega))) ?_
                  refine WP.nil ?_
                  refine WP.sub [(0, _), (4, _), (5, _), (6, _), (10, _), (11, _), (12, _), (55, _), (63, _), (67, _)] ?_ ⟨rfl, rfl, rfl, rfl, rfl, rfl, rfl, rfl, rfl, rfl, trivial⟩
                  refine WP.next ?_
                  refine WP.condF rfl ?_
                  refine WP.skip ?_
                  refine WP.next ?_
                  refine WP.exit ?_
                  refine WP.thenE ?_
                  refine WP.miss rfl ?_
                  refine WP.thenE ?_
                  refine WP.hit ?_
                  refine WP.next ?_
                  refine WP.region [0, 1, 2] rfl ?_
                  refine WP.val rfl rfl rfl rfl (Yld.move rfl rfl) ?_
                  refine WP.val rfl rfl rfl rfl (Yld.add64 rfl rfl rfl (by omega)) ?_
                  refine WP.val rfl rfl rfl rfl (Yld.assign rfl rfl) ?_
                  refine WP.nil ?_
                  refine WP.sub [(0, _), (4, _), (5, _), (6, _), (10, _), (11, _), (12, _), (55, _), (63, _), (67, _)] ?_ ⟨rfl, rfl, rfl, rfl, rfl, rfl, rfl, rfl, rfl, rfl, trivial⟩
                  exact WP.again ((⟨x5, J5, L5⟩ : TL), i + 1) ⟨hio, ⟨Imm.le_trans hle2 hJ5, hT5, htk5, hnx5⟩⟩ (show ops.length - (i + 1) < ops.length - i by omega) ⟨rfl, rfl, rfl, rfl, trivial⟩ rfl (by (try simp only [List.append_eq, List.cons_append, List.nil_append, List.append_assoc]); repeat (first | exact Rm.chunk | exact Rm.here | exact Rm.nil0 | apply Rm.skip | apply Rm.skipS | apply PX.cons | (apply PX.done; (repeat (first | exact Leave.done | apply Leave.drop | apply Leave.dropS)); done) | apply PX.app))
                · have hal : er5 = 0 ∧ p5 ≤ 512 ∧ x.Least p5 ∧ x.Used x5 p5 zeroEnt := by rcases hor5 with h | ⟨h0, _⟩; exact h; exact absurd h0 e91
                  obtain ⟨b9, hg9⟩ := hal.2.2.2.get
                  have hp5 := hal.2.2.1.p1
                  have hp6 := hal.2.1
                  have her := hal.1
                  refine WP.nil ?_
                  refine WP.sub [(0, _), (4, _), (5, _), (6, _), (10, _), (11, _), (12, _), (55, _), (63, _)] ?_ ⟨rfl, rfl, rfl, rfl, rfl, rfl, rfl, rfl, rfl, trivial⟩
                  refine WP.next ?_
                  refine WP.condF rfl ?_
                  refine WP.skip ?_
                  refine WP.next ?_
                  refine WP.seq ?_
                  refine WP.seq ?_
                  refine WP.region [0, 1, 2, 3, 4, 5, 6, 7, 8, 9, 10, 11, 12, 13, 14] rfl ?_
                  refine WP.val rfl rfl rfl rfl (Yld.move rfl rfl) ?_
                  refine WP.val rfl rfl rfl rfl (Yld.neq rfl rfl rfl false (decide_eq_false (by omega))) ?_
                  refine WP.val rfl rfl rfl rfl (Yld.move rfl rfl) ?_
                  refine WP.valG rfl rfl rfl rfl rfl rfl rfl (Yld.move rfl rfl) ?_
                  refine WP.valG rfl rfl rfl rfl rfl rfl rfl (Yld.lss rfl rfl rfl false (decide_eq_false (by omega))) ?_
                  refine WP.val rfl rfl rfl rfl (Yld.pickF rfl rfl rfl) ?_
                  refine WP.val rfl rfl rfl rfl (Yld.move rfl rfl) ?_
                  refine WP.valG rfl rfl rfl rfl rfl rfl rfl (Yld.move rfl rfl) ?_
                  refine WP.valG rfl rfl rfl rfl rfl rfl rfl (Yld.gtr rfl rfl rfl false (decide_eq_false (by omega))) ?_
                  refine WP.val rfl rfl rfl rfl (Yld.pickF rfl rfl rfl) ?_
                  refine WP.val rfl rfl rfl rfl (Yld.move rfl rfl) ?_
                  refine WP.valG rfl rfl rfl rfl rfl rfl rfl (Yld.move rfl rfl) ?_
                  refine WP.valG rfl rfl rfl rfl rfl rfl rfl (Yld.indexAddrAI rfl ty_ar_76 rfl rfl (by omega) (by omega)) ?_
                  refine WP.valG rfl rfl rfl rfl rfl rfl rfl (Yld.load rfl ty_sc_4 rfl (by repeat (first | exact There.h | exact There.i (by assumption) | apply There.t | apply There.s)) (us_atV (b := false) (by omega) (by omega) (by rw [hal.2.2.1.free]; rfl))) ?_
                  refine WP.val rfl rfl rfl rfl (Yld.pickF rfl rfl rfl) ?_
                  refine WP.nil ?_
                  refine WP.sub [(0, _), (4, _), (5, _), (6, _), (10, _), (11, _), (12, _), (55, _), (63, _), (82, _)] ?_ ⟨rfl, rfl, rfl, rfl, rfl, rfl, rfl, rfl, rfl, rfl, trivial⟩
                  refine WP.next ?_
                  refine WP.condF rfl ?_
                  refine WP.skip ?_
                  refine WP.next ?_
                  refine WP.region [0, 1, 2] rfl ?_
                  refine WP.val rfl rfl rfl rfl (Yld.move rfl rfl) ?_
                  refine WP.val rfl rfl rfl rfl (Yld.indexAddrAI rfl ty_ar_76 rfl rfl (by omega) (by omega)) ?_
                  refine WP.loud rfl rfl ?_
                  refine Op.store1 rfl rfl ty_sz_4 rfl rfl rfl (by repeat (first | exact Upd.head | apply Upd.tail | apply Upd.tailS)) (us_set (by omega) (by omega) (by rw [hg9, if_pos rfl]; rfl) (fun k hk => by rw [hg9, if_neg hk])) ?_
                  refine WP.nil ?_
                  refine WP.sub [(0, _), (4, _), (5, _), (6, _), (10, _), (11, _), (12, _), (55, _), (63, _), (82, _)] ?_ ⟨rfl, rfl, rfl, rfl, rfl, rfl, rfl, rfl, rfl, rfl, trivial⟩
                  refine WP.leave ?_
                  exact WP.meet (⟨x5, J5, L5⟩ : TL) ⟨Imm.le_trans hle2 hJ5, hT5, htk5, hnx5⟩ ⟨rfl, rfl, rfl, rfl, trivial⟩ rfl (by (try simp only [List.append_eq, List.cons_append, List.nil_append, List.append_assoc]); repeat (first | exact Rm.chunk | exact Rm.here | exact Rm.nil0 | apply Rm.skip | apply Rm.skipS | apply PX.cons | (apply PX.done; (repeat (first | exact Leave.done | apply Leave.drop | apply Leave.dropS)); done) | apply PX.app))
            · refine WP.val rfl rfl rfl rfl (Yld.pickT rfl rfl rfl) ?_
              refine WP.val rfl rfl rfl rfl (Yld.move rfl rfl) ?_
              refine WP.passG rfl rfl rfl rfl rfl rfl rfl rfl ?_
              refine WP.passG rfl rfl rfl rfl rfl rfl rfl rfl ?_
              refine WP.val rfl rfl rfl rfl (Yld.pickF rfl rfl rfl) ?_
              refine WP.nil ?_
              refine WP.sub [(0, _), (4, _), (5, _), (6, _), (10, _), (11, _), (12, _), (55, _)] ?_ ⟨rfl, rfl, rfl, rfl, rfl, rfl, rfl, rfl, trivial⟩
              refine WP.next ?_
              refine WP.condF rfl ?_
              refine WP.exit ?_
              refine WP.thenE ?_
              refine WP.thenE ?_
              refine WP.hit ?_
              refine WP.next ?_
              refine WP.seq ?_
              refine WP.seq ?_
              refine WP.region [0, 1] rfl ?_
              refine WP.val rfl rfl rfl rfl (Yld.move rfl rfl) ?_
              refine WP.split rfl rfl rfl rfl (Yld.eql rfl rfl rfl) (fun e91 => ?_) (fun e91 => ?_)
              · have hall : x5 = x ∧ ∀ k, 1 ≤ k → k ≤ 512 → (x.get k).isSome = true := by rcases hor5 with ⟨h0, _⟩ | ⟨_, _, h1, h2⟩; omega; exact ⟨h1, h2⟩
                have hpg : x5.pages.length = 512 := by rw [← pages_512 hnx5 (by have := hT5.size_le; omega)]; exact pages_full 512 fun k hk => by rw [hall.1]; exact hall.2 _ (by omega) (by omega)
                rw [us_congr (x' := x5) (fun k => by rw [hall.1])]
                refine WP.nil ?_
                refine WP.sub [(0, _), (4, _), (5, _), (6, _), (10, _), (11, _), (12, _), (55, _), (63, _)] ?_ ⟨rfl, rfl, rfl, rfl, rfl, rfl, rfl, rfl, rfl, trivial⟩
                refine WP.next ?_
                refine WP.condT rfl ?_
                refine WP.seq ?_
                refine WP.seq ?_
                refine WP.region [0, 1, 2, 3] rfl ?_
                refine WP.val rfl rfl rfl rfl (Yld.move rfl rfl) ?_
                refine WP.loud rfl rfl ?_
                refine Op.call (tabT_Pages hT5) rfl Try.func34 rfl rfl rfl rfl (by repeat (first | exact Take.nil | with_reducible apply Take.cons | apply Take.app | exact Rm.chunk | exact Rm.here | exact Rm.nil0 | apply Rm.skip | apply Rm.skipS | (focus (apply Take.all; (repeat (first | exact Rm.chunk | exact Rm.here | exact Rm.nil0 | apply Rm.skip | apply Rm.skipS)); done)) | apply Take.cons)) ?_
                rintro v J Lq hJ ⟨Lo, rfl, rfl, how⟩
                clear hJ; try simp only [List.cons_append, List.nil_append, List.append_assoc]
                obtain ⟨Ap, cp, rfl, hcp⟩ := how.slice
                refine WP.val rfl rfl rfl rfl (Yld.len rfl ty_sl_23 rfl) ?_
                refine WP.val rfl rfl rfl rfl (Yld.neq rfl rfl rfl false (decide_eq_false (by omega))) ?_
                refine WP.nil ?_
                refine WP.sub [(0, _), (4, _), (5, _), (6, _), (10, _), (11, _), (12, _), (55, _), (63, _), (67, _)] ?_ ⟨rfl, rfl, rfl, rfl, rfl, rfl, rfl, rfl, rfl, rfl, trivial⟩
                refine WP.next ?_
                refine WP.condF rfl ?_
                refine WP.skip ?_
                refine WP.next ?_
                refine WP.exit ?_
                refine WP.thenE ?_
                refine WP.miss rfl ?_
                refine WP.thenE ?_
                refine WP.hit ?_
                refine WP.next ?_
                refine WP.region [0, 1, 2] rfl ?_
                refine WP.val rfl rfl rfl rfl (Yld.move rfl rfl) ?_
                refine WP.val rfl rfl rfl rfl (Yld.add64 rfl rfl rfl (by omega)) ?_
                refine WP.val rfl rfl rfl rfl (Yld.assign rfl rfl) ?_
                refine WP.nil ?_
                refine WP.sub [(0, _), (4, _), (5, _), (6, _), (10, _), (11, _), (12, _), (55, _), (63, _), (67, _)] ?_ ⟨rfl, rfl, rfl, rfl, rfl, rfl, rfl, rfl, rfl, rfl, trivial⟩
                exact WP.again ((⟨x5, J5, L5⟩ : TL), i + 1) ⟨hio, ⟨Imm.le_trans hle2 hJ5, hT5, htk5, hnx5⟩⟩ (show ops.length - (i + 1) < ops.length - i by omega) ⟨rfl, rfl, rfl, rfl, trivial⟩ rfl (by (try simp only [List.append_eq, List.cons_append, List.nil_append, List.append_assoc]); repeat (first | exact Rm.chunk | exact Rm.here | exact Rm.nil0 | apply Rm.skip | apply Rm.skipS | apply PX.cons | (apply PX.done; (repeat (first | exact Leave.done | apply Leave.drop | apply Leave.dropS)); done) | apply PX.app))
              · have hal : er5 = 0 ∧ p5 ≤ 512 ∧ x.Least p5 ∧ x.Used x5 p5 zeroEnt := by rcases hor5 with h | ⟨h0, _⟩; exact h; exact absurd h0 e91
                obtain ⟨b9, hg9⟩ := hal.2.2.2.get
                have hp5 := hal.2.2.1.p1
                have hp6 := hal.2.1
                have her := hal.1
                refine WP.nil ?_
                refine WP.sub [(0, _), (4, _), (5, _), (6, _), (10, _), (11, _), (12, _), (55, _), (63, _)] ?_ ⟨rfl, rfl, rfl, rfl, rfl, rfl, rfl, rfl, rfl, trivial⟩
                refine WP.next ?_
                refine WP.condF rfl ?_
                refine WP.skip ?_
                refine WP.next ?_
                refine WP.seq ?_
                refine WP.seq ?_
                refine WP.region [0, 1, 2, 3, 4, 5, 6, 7, 8, 9, 10, 11, 12, 13, 14] rfl ?_
                refine WP.val rfl rfl rfl rfl (Yld.move rfl rfl) ?_
                refine WP.val rfl rfl rfl rfl (Yld.neq rfl rfl rfl false (decide_eq_false (by omega))) ?_
                refine WP.val rfl rfl rfl rfl (Yld.move rfl rfl) ?_
                refine WP.valG rfl rfl rfl rfl rfl rfl rfl (Yld.move rfl rfl) ?_
                refine WP.valG rfl rfl rfl rfl rfl rfl rfl (Yld.lss rfl rfl rfl false (decide_eq_false (by omega))) ?_
                refine WP.val rfl rfl rfl rfl (Yld.pickF rfl rfl rfl) ?_
                refine WP.val rfl rfl rfl rfl (Yld.move rfl rfl) ?_
                refine WP.valG rfl rfl rfl rfl rfl rfl rfl (Yld.move rfl rfl) ?_
                refine WP.valG rfl rfl rfl rfl rfl rfl rfl (Yld.gtr rfl rfl rfl false (decide_eq_false (by omega))) ?_
                refine WP.val rfl rfl rfl rfl (Yld.pickF rfl rfl rfl) ?_
                refine WP.val rfl rfl rfl rfl (Yld.move rfl rfl) ?_
                refine WP.valG rfl rfl rfl rfl rfl rfl rfl (Yld.move rfl rfl) ?_
                refine WP.valG rfl rfl rfl rfl rfl rfl rfl (Yld.indexAddrAI rfl ty_ar_76 rfl rfl (by omega) (by omega)) ?_
                refine WP.valG rfl rfl rfl rfl rfl rfl rfl (Yld.load rfl ty_sc_4 rfl (by repeat (first | exact There.h | exact There.i (by assumption) | apply There.t | apply There.s)) (us_atV (b := false) (by omega) (by omega) (by rw [hal.2.2.1.free]; rfl))) ?_
                refine WP.val rfl rfl rfl rfl (Yld.pickF rfl rfl rfl) ?_
                refine WP.nil ?_
                refine WP.sub [(0, _), (4, _), (5, _), (6, _), (10, _), (11, _), (12, _), (55, _), (63, _), (82, _)] ?_ ⟨rfl, rfl, rfl, rfl, rfl, rfl, rfl, rfl, rfl, rfl, trivial⟩
                refine WP.next ?_
                refine WP.condF rfl ?_
                refine WP.skip ?_
                refine WP.next ?_
                refine WP.region [0, 1, 2] rfl ?_
                refine WP.val rfl rfl rfl rfl (Yld.move rfl rfl) ?_
                refine WP.val rfl rfl rfl rfl (Yld.indexAddrAI rfl ty_ar_76 rfl rfl (by omega) (by omega)) ?_
                refine WP.loud rfl rfl ?_
                refine Op.store1 rfl rfl ty_sz_4 rfl rfl rfl (by repeat (first | exact Upd.head | apply Upd.tail | apply Upd.tailS)) (us_set (by omega) (by omega) (by rw [hg9, if_pos rfl]; rfl) (fun k hk => by rw [hg9, if_neg hk])) ?_
                refine WP.nil ?_
                refine WP.sub [(0, _), (4, _), (5, _), (6, _), (10, _), (11, _), (12, _), (55, _), (63, _), (82, _)] ?_ ⟨rfl, rfl, rfl, rfl, rfl, rfl, rfl, rfl, rfl, rfl, trivial⟩
                refine WP.leave ?_
                exact WP.meet (⟨x5, J5, L5⟩ : TL) ⟨Imm.le_trans hle2 hJ5, hT5, htk5, hnx5⟩ ⟨rfl, rfl, rfl, rfl, trivial⟩ rfl (by (try simp only [List.append_eq, List.cons_append, List.nil_append, List.append_assoc]); repeat (first | exact Rm.chunk | exact Rm.here | exact Rm.nil0 | apply Rm.skip | apply Rm.skipS | apply PX.cons | (apply PX.done; (repeat (first | exact Leave.done | apply Leave.drop | apply Leave.dropS)); done) | apply PX.app))
          · refine WP.val rfl rfl rfl rfl (Yld.move rfl rfl) ?_
            refine WP.passG rfl rfl rfl rfl rfl rfl rfl rfl ?_
            refine WP.passG rfl rfl rfl rfl rfl rfl rfl rfl ?_
            refine WP.val rfl rfl rfl rfl (Yld.pickF rfl rfl rfl) ?_
            refine WP.val rfl rfl rfl rfl (Yld.move rfl rfl) ?_
            refine WP.passG rfl rfl rfl rfl rfl rfl rfl rfl ?_
            refine WP.passG rfl rfl rfl rfl rfl rfl rfl rfl ?_
            refine WP.val rfl rfl rfl rfl (Yld.pickF rfl rfl rfl) ?_
            refine WP.nil ?_
            refine WP.sub [(0, _), (4, _), (5, _), (6, _), (10, _), (11, _), (12, _), (55, _)] ?_ ⟨rfl, rfl, rfl, rfl, rfl, rfl, rfl, rfl, trivial⟩
            refine WP.next ?_
            refine WP.condF rfl ?_
            refine WP.exit ?_
            refine WP.thenE ?_
            refine WP.thenE ?_
            refine WP.hit ?_
            refine WP.next ?_
            refine WP.seq ?_
            refine WP.seq ?_
            refine WP.region [0, 1] rfl ?_
            refine WP.val rfl rfl rfl rfl (Yld.move rfl rfl) ?_
            refine WP.split rfl rfl rfl rfl (Yld.eql rfl rfl rfl) (fun e91 => ?_) (fun e91 => ?_)
            · have hall : x5 = x ∧ ∀ k, 1 ≤ k → k ≤ 512 → (x.get k).isSome = true := by rcases hor5 with ⟨h0, _⟩ | ⟨_, _, h1, h2⟩; omega; exact ⟨h1, h2⟩
              have hpg : x5.pages.length = 512 := by rw [← pages_512 hnx5 (by have := hT5.size_le; omega)]; exact pages_full 512 fun k hk => by rw [hall.1]; exact hall.2 _ (by omega) (by omega)
              rw [us_congr (x' := x5) (fun k => by rw [hall.1])]
              refine WP.nil ?_
              refine WP.sub [(0, _), (4, _), (5, _), (6, _), (10, _), (11, _), (12, _), (55, _), (63, _)] ?_ ⟨rfl, rfl, rfl, rfl, rfl, rfl, rfl, rfl, rfl, trivial⟩
              refine WP.next ?_
              refine WP.condT rfl ?_
              refine WP.seq ?_
              refine WP.seq ?_
              refine WP.region [0, 1, 2, 3] rfl ?_
              refine WP.val rfl rfl rfl rfl (Yld.move rfl rfl) ?_
              refine WP.loud rfl rfl ?_
              refine Op.call (tabT_Pages hT5) rfl Try.func34 rfl rfl rfl rfl (by repeat (first | exact Take.nil | with_reducible apply Take.cons | apply Take.app | exact Rm.chunk | exact Rm.here | exact Rm.nil0 | apply Rm.skip | apply Rm.skipS | (focus (apply Take.all; (repeat (first | exact Rm.chunk | exact Rm.here | exact Rm.nil0 | apply Rm.skip | apply Rm.skipS)); done)) | apply Take.cons)) ?_
              rintro v J Lq hJ ⟨Lo, rfl, rfl, how⟩
              clear hJ; try simp only [List.cons_append, List.nil_append, List.append_assoc]
              obtain ⟨Ap, cp, rfl, hcp⟩ := how.slice
              refine WP.val rfl rfl rfl rfl (Yld.len rfl ty_sl_23 rfl) ?_
              refine WP.val rfl rfl rfl rfl (Yld.neq rfl rfl rfl false (decide_eq_false (by omega))) ?_
              refine WP.nil ?_
              refine WP.sub [(0, _), (4, _), (5, _), (6, _), (10, _), (11, _), (12, _), (55, _), (63, _), (67, _)] ?_ ⟨rfl, rfl, rfl, rfl, rfl, rfl, rfl, rfl, rfl, rfl, trivial⟩
              refine WP.next ?_
              refine WP.condF rfl ?_
              refine WP.skip ?_
              refine WP.next ?_
              refine WP.exit ?_
              refine WP.thenE ?_
              refine WP.miss rfl ?_
              refine WP.thenE ?_
              refine WP.hit ?_
              refine WP.next ?_
              refine WP.region [0, 1, 2] rfl ?_
              refine WP.val rfl rfl rfl rfl (Yld.move rfl rfl) ?_
              refine WP.val rfl rfl rfl rfl (Yld.add64 rfl rfl rfl (by omega)) ?_
              refine WP.val rfl rfl rfl rfl (Yld.assign rfl rfl) ?_
              refine WP.nil ?_
              refine WP.sub [(0, _), (4, _), (5, _), (6, _), (10, _), (11, _), (12, _), (55, _), (63, _), (67, _)] ?_ ⟨rfl, rfl, rfl, rfl, rfl, rfl, rfl, rfl, rfl, rfl, trivial⟩
              exact WP.again ((⟨x5, J5, L5⟩ : TL), i + 1) ⟨hio, ⟨Imm.le_trans hle2 hJ5, hT5, htk5, hnx5⟩⟩ (show ops.length - (i + 1) < ops.length - i by omega) ⟨rfl, rfl, rfl, rfl, trivial⟩ rfl (by (try simp only [List.append_eq, List.cons_append, List.nil_append, List.append_assoc]); repeat (first | exact Rm.chunk | exact Rm.here | exact Rm.nil0 | apply Rm.skip | apply Rm.skipS | apply PX.cons | (apply PX.done; (repeat (first | exact Leave.done | apply Leave.drop | apply Leave.dropS)); done) | apply PX.app))
            · have hal : er5 = 0 ∧ p5 ≤ 512 ∧ x.Least p5 ∧ x.Used x5 p5 zeroEnt := by rcases hor5 with h | ⟨h0, _⟩; exact h; exact absurd h0 e91
              obtain ⟨b9, hg9⟩ := hal.2.2.2.get
              have hp5 := hal.2.2.1.p1
              have hp6 := hal.2.1
              have her := hal.1
              refine WP.nil ?_
              refine WP.sub [(0, _), (4, _), (5, _), (6, _), (10, _), (11, _), (12, _), (55, _), (63, _)] ?_ ⟨rfl, rfl, rfl, rfl, rfl, rfl, rfl, rfl, rfl, trivial⟩
              refine WP.next ?_
              refine WP.condF rfl ?_
              refine WP.skip ?_
              refine WP.next ?_
              refine WP.seq ?_
              refine WP.seq ?_
              refine WP.region [0, 1, 2, 3, 4, 5, 6, 7, 8, 9, 10, 11, 12, 13, 14] rfl ?_
              refine WP.val rfl rfl rfl rfl (Yld.move rfl rfl) ?_
              refine WP.val rfl rfl rfl rfl (Yld.neq rfl rfl rfl false (decide_eq_false (by omega))) ?_
              refine WP.val rfl rfl rfl rfl (Yld.move rfl rfl) ?_
              refine WP.valG rfl rfl rfl rfl rfl rfl rfl (Yld.move rfl rfl) ?_
              refine WP.valG rfl rfl rfl rfl rfl rfl rfl (Yld.lss rfl rfl rfl false (decide_eq_false (by omega))) ?_
              refine WP.val rfl rfl rfl rfl (Yld.pickF rfl rfl rfl) ?_
              refine WP.val rfl rfl rfl rfl (Yld.move rfl rfl) ?_
              refine WP.valG rfl rfl rfl rfl rfl rfl rfl (Yld.move rfl rfl) ?_
              refine WP.valG rfl rfl rfl rfl rfl rfl rfl (Yld.gtr rfl rfl rfl false (decide_eq_false (by omega))) ?_
              refine WP.val rfl rfl rfl rfl (Yld.pickF rfl rfl rfl) ?_
              refine WP.val rfl rfl rfl rfl (Yld.move rfl rfl) ?_
              refine WP.valG rfl rfl rfl rfl rfl rfl rfl (Yld.move rfl rfl) ?_
              refine WP.valG rfl rfl rfl rfl rfl rfl rfl (Yld.indexAddrAI rfl ty_ar_76 rfl rfl (by omega) (by omega)) ?_
              refine WP.valG rfl rfl rfl rfl rfl rfl rfl (Yld.load rfl ty_sc_4 rfl (by repeat (first | exact There.h | exact There.i (by assumption) | apply There.t | apply There.s)) (us_atV (b := false) (by omega) (by omega) (by rw [hal.2.2.1.free]; rfl))) ?_
              refine WP.val rfl rfl rfl rfl (Yld.pickF rfl rfl rfl) ?_
              refine WP.nil ?_
              refine WP.sub [(0, _), (4, _), (5, _), (6, _), (10, _), (11, _), (12, _), (55, _), (63, _), (82, _)] ?_ ⟨rfl, rfl, rfl, rfl, rfl, rfl, rfl, rfl, rfl, rfl, trivial⟩
              refine WP.next ?_
              refine WP.condF rfl ?_
              refine WP.skip ?_
              refine WP.next ?_
              refine WP.region [0, 1, 2] rfl ?_
              refine WP.val rfl rfl rfl rfl (Yld.move rfl rfl) ?_
              refine WP.val rfl rfl rfl rfl (Yld.indexAddrAI rfl ty_ar_76 rfl rfl (by omega) (by omega)) ?_
              refine WP.loud rfl rfl ?_
              refine Op.store1 rfl rfl ty_sz_4 rfl rfl rfl (by repeat (first | exact Upd.head | apply Upd.tail | apply Upd.tailS)) (us_set (by omega) (by omega) (by rw [hg9, if_pos rfl]; rfl) (fun k hk => by rw [hg9, if_neg hk])) ?_
              refine WP.nil ?_
              refine WP.sub [(0, _), (4, _), (5, _), (6, _), (10, _), (11, _), (12, _), (55, _), (63, _), (82, _)] ?_ ⟨rfl, rfl, rfl, rfl, rfl, rfl, rfl, rfl, rfl, rfl, trivial⟩
              refine WP.leave ?_
              exact WP.meet (⟨x5, J5, L5⟩ : TL) ⟨Imm.le_trans hle2 hJ5, hT5, htk5, hnx5⟩ ⟨rfl, rfl, rfl, rfl, trivial⟩ rfl (by (try simp only [List.append_eq, List.cons_append, List.nil_append, List.append_assoc]); repeat (first | exact Rm.chunk | exact Rm.here | exact Rm.nil0 | apply Rm.skip | apply Rm.skipS | apply PX.cons | (apply PX.done; (repeat (first | exact Leave.done | apply Leave.drop | apply Leave.dropS)); done) | apply PX.app))
    · rintro ⟨y, J3, L3⟩ hok; try dsimp only
      refine WP.seq ?_
      have hTy : IsT J3 t y L3 := hok.tab
      have hny : y.nxt := hok.nx
      have hsy := hTy.size_le
      have h512 := pages_512 hny (by omega)
      refine WP.region [0, 1, 2] rfl ?_
      refine WP.val rfl rfl rfl rfl (Yld.move rfl rfl) ?_
      refine WP.loud rfl rfl ?_
      refine Op.call (tabT_Pages hTy) rfl Try.func34 rfl rfl rfl rfl (by repeat (first | exact Take.nil | with_reducible apply Take.cons | apply Take.app | exact Rm.chunk | exact Rm.here | exact Rm.nil0 | apply Rm.skip | apply Rm.skipS | (focus (apply Take.all; (repeat (first | exact Rm.chunk | exact Rm.here | exact Rm.nil0 | apply Rm.skip | apply Rm.skipS)); done)) | apply Take.cons)) ?_
      rintro v J Lq hJ ⟨Lo, rfl, rfl, how⟩
      clear hJ; try simp only [List.cons_append, List.nil_append, List.append_assoc]
      refine WP.val rfl rfl rfl rfl (Yld.assign rfl rfl) ?_
      refine WP.nil ?_
      refine WP.sub [(0, _), (4, _), (5, _), (6, _), (13, _)] ?_ ⟨rfl, rfl, rfl, rfl, rfl, trivial⟩
      refine WP.next ?_
      refine WP.seq ?_
      refine WP.region [0] rfl ?_
      refine WP.val rfl rfl rfl rfl (Yld.assign rfl rfl) ?_
      refine WP.nil ?_
      refine WP.next ?_
      refine WP.seq ?_
      refine WP.seq ?_
      refine WP.region [0] rfl ?_
      refine WP.val rfl rfl rfl rfl (Yld.assign rfl rfl) ?_
      refine WP.nil ?_
      refine WP.next ?_
      refine WP.block ?_
      refine WP.loop (X := Nat) (fun k : Nat => [(0, .slice (some ⟨bo, ko, none⟩) ops.length co), (4, .pointer (some ⟨t, 0, none⟩)), (5, .pointer (some ⟨b5, 0, none⟩)), (6, .int .i64 (i : Int)), (13, v), (14, .int .i64 ((y.pagesTo k).length : Int)), (15, .int .i64 ((k : Int) + 1))]) (fun _ => J3) (fun _ => Lo ++ (L3 ++ ((b5, row 76 (usV y)) :: F))) (fun k => k ≤ 512) (fun k => 513 - k) 0 (Nat.zero_le _) ⟨rfl, rfl, rfl, rfl, rfl, rfl, rfl, trivial⟩ rfl (by (try simp only [List.append_eq, List.cons_append, List.nil_append, List.append_assoc]); repeat (first | exact Rm.chunk | exact Rm.here | exact Rm.nil0 | apply Rm.skip | apply Rm.skipS | apply PX.cons | (apply PX.done; (repeat (first | exact Leave.done | apply Leave.drop | apply Leave.dropS)); done) | apply PX.app)) ?_
      intro k hk; have hk : k ≤ 512 := hk
      try dsimp only
      try simp only [List.cons_append, List.nil_append, List.append_assoc]
      refine WP.seq ?_
      refine WP.seq ?_
      refine WP.region [0, 1] rfl ?_
      refine WP.val rfl rfl rfl rfl (Yld.move rfl rfl) ?_
      refine WP.split rfl rfl rfl rfl (Yld.leq rfl rfl rfl) (fun lk => ?_) (fun lk => ?_)
      · refine WP.nil ?_
        refine WP.sub [(0, _), (4, _), (5, _), (6, _), (13, _), (14, _), (15, _), (130, _)] ?_ ⟨rfl, rfl, rfl, rfl, rfl, rfl, rfl, rfl, trivial⟩
        refine WP.next ?_
        refine WP.condT rfl ?_
        refine WP.skip ?_
        refine WP.next ?_
        refine WP.seq ?_
        refine WP.block ?_
        refine WP.seq ?_
        refine WP.region [0, 1, 2] rfl ?_
        refine WP.val rfl rfl rfl rfl (Yld.move rfl rfl) ?_
        refine WP.val rfl rfl rfl rfl (Yld.indexAddrAI rfl ty_ar_76 rfl rfl (by omega) (by omega)) ?_
        refine WP.splitB rfl rfl rfl rfl (Yld.load rfl ty_sc_4 rfl (by repeat (first | exact There.h | apply There.t | apply There.s)) (us_at (by omega) (by omega))) (fun hu => ?_) (fun hu => ?_)
        · have hpl2 := Tb.pagesTo_len y k
          have hpa := pages_at hu (m := (y.next - 1).toNat) (by have := hny.used _ hu; omega)
          change y.pages[_]? = _ at hpa
          obtain ⟨hpl, hpv⟩ := List.getElem?_eq_some_iff.1 hpa
          obtain ⟨bp, cp, sp, rfl, rfl, hcp1, hcp2⟩ := how.get (by omega)
          refine WP.nil ?_
          refine WP.sub [(0, _), (4, _), (5, _), (6, _), (13, _), (14, _), (15, _), (130, _), (135, _)] ?_ ⟨rfl, rfl, rfl, rfl, rfl, rfl, rfl, rfl, rfl, trivial⟩
          refine WP.next ?_
          refine WP.condT rfl ?_
          refine WP.seq ?_
          refine WP.seq ?_
          refine WP.region [0, 1, 2, 3, 4, 5, 6, 7, 8, 9, 10, 11] rfl ?_
          refine WP.val rfl rfl rfl rfl (Yld.move rfl rfl) ?_
          refine WP.val rfl rfl rfl rfl (Yld.move rfl rfl) ?_
          refine WP.val rfl rfl rfl rfl (Yld.len rfl ty_sl_23 rfl) ?_
          refine WP.val rfl rfl rfl rfl (Yld.geq rfl rfl rfl false (decide_eq_false (by omega))) ?_
          refine WP.val rfl rfl rfl rfl (Yld.move rfl rfl) ?_
          refine WP.valG rfl rfl rfl rfl rfl rfl rfl (Yld.move rfl rfl) ?_
          refine WP.valG rfl rfl rfl rfl rfl rfl rfl (Yld.move rfl rfl) ?_
          refine WP.valG rfl rfl rfl rfl rfl rfl rfl (Yld.indexAddr (i := (y.pagesTo k).length) rfl ty_sl_23 rfl rfl hpl) ?_
          refine WP.valG rfl rfl rfl rfl rfl rfl rfl (Yld.load rfl ty_sc_3 rfl (by repeat (first | exact There.h | exact There.i (by assumption) | apply There.t | apply There.s)) (map_at (f := Value.int .i64) hpl sp)) ?_
          refine WP.valG rfl rfl rfl rfl rfl rfl rfl (Yld.move rfl rfl) ?_
          refine WP.valG rfl rfl rfl rfl rfl rfl rfl (Yld.neq rfl rfl rfl false (decide_eq_false (by rw [hpv]; exact fun h => h rfl))) ?_
          refine WP.val rfl rfl rfl rfl (Yld.pickF rfl rfl rfl) ?_
          refine WP.nil ?_
          refine WP.sub [(0, _), (4, _), (5, _), (6, _), (13, _), (14, _), (15, _), (130, _), (135, _), (147, _)] ?_ ⟨rfl, rfl, rfl, rfl, rfl, rfl, rfl, rfl, rfl, rfl, trivial⟩
          refine WP.next ?_
          refine WP.condF rfl ?_
          refine WP.skip ?_
          refine WP.next ?_
          refine WP.region [0, 1, 2] rfl ?_
          refine WP.val rfl rfl rfl rfl (Yld.move rfl rfl) ?_
          refine WP.val rfl rfl rfl rfl (Yld.add64 rfl rfl rfl (by omega)) ?_
          refine WP.val rfl rfl rfl rfl (Yld.assign rfl rfl) ?_
          refine WP.nil ?_
          refine WP.sub [(0, _), (4, _), (5, _), (6, _), (13, _), (14, _), (15, _), (130, _), (135, _), (147, _)] ?_ ⟨rfl, rfl, rfl, rfl, rfl, rfl, rfl, rfl, rfl, rfl, trivial⟩
          refine WP.leave ?_
          refine WP.next ?_
          refine WP.region [0, 1, 2] rfl ?_
          refine WP.val rfl rfl rfl rfl (Yld.move rfl rfl) ?_
          refine WP.val rfl rfl rfl rfl (Yld.add64 rfl rfl rfl (by omega)) ?_
          refine WP.val rfl rfl rfl rfl (Yld.assign rfl rfl) ?_
          refine WP.nil ?_
          refine WP.sub [(0, _), (4, _), (5, _), (6, _), (13, _), (14, _), (15, _), (130, _), (135, _), (147, _)] ?_ ⟨rfl, rfl, rfl, rfl, rfl, rfl, rfl, rfl, rfl, rfl, trivial⟩
          rw [show ((k : Int) + 1) + 1 = ((k + 1 : Nat) : Int) + 1 by omega]
          rw [show ((y.pagesTo k).length : Int) + 1 = ((y.pagesTo (k + 1)).length : Int) by rw [Tb.pagesTo_succ, if_pos hu]; simp]
          exact WP.again (k + 1) (show k + 1 ≤ 512 by omega) (show 513 - (k + 1) < 513 - k by omega) ⟨rfl, rfl, rfl, rfl, rfl, rfl, rfl, trivial⟩ rfl (by (try simp only [List.append_eq, List.cons_append, List.nil_append, List.append_assoc]); repeat (first | exact Rm.chunk | exact Rm.here | exact Rm.nil0 | apply Rm.skip | apply Rm.skipS | apply PX.cons | (apply PX.done; (repeat (first | exact Leave.done | apply Leave.drop | apply Leave.dropS)); done) | apply PX.app))
        · refine WP.nil ?_
          refine WP.sub [(0, _), (4, _), (5, _), (6, _), (13, _), (14, _), (15, _), (130, _), (135, _)] ?_ ⟨rfl, rfl, rfl, rfl, rfl, rfl, rfl, rfl, rfl, trivial⟩
          refine WP.next ?_
          refine WP.condF rfl ?_
          refine WP.skip ?_
          refine WP.leave ?_
          refine WP.next ?_
          refine WP.region [0, 1, 2] rfl ?_
          refine WP.val rfl rfl rfl rfl (Yld.move rfl rfl) ?_
          refine WP.val rfl rfl rfl rfl (Yld.add64 rfl rfl rfl (by omega)) ?_
          refine WP.val rfl rfl rfl rfl (Yld.assign rfl rfl) ?_
          refine WP.nil ?_
          refine WP.sub [(0, _), (4, _), (5, _), (6, _), (13, _), (14, _), (15, _), (130, _), (135, _)] ?_ ⟨rfl, rfl, rfl, rfl, rfl, rfl, rfl, rfl, rfl, trivial⟩
          rw [show ((k : Int) + 1) + 1 = ((k + 1 : Nat) : Int) + 1 by omega]
          rw [show ((y.pagesTo k).length : Int) = ((y.pagesTo (k + 1)).length : Int) by rw [Tb.pagesTo_succ, if_neg (by rw [hu]; decide), List.append_nil]]
          exact WP.again (k + 1) (show k + 1 ≤ 512 by omega) (show 513 - (k + 1) < 513 - k by omega) ⟨rfl, rfl, rfl, rfl, rfl, rfl, rfl, trivial⟩ rfl (by (try simp only [List.append_eq, List.cons_append, List.nil_append, List.append_assoc]); repeat (first | exact Rm.chunk | exact Rm.here | exact Rm.nil0 | apply Rm.skip | apply Rm.skipS | apply PX.cons | (apply PX.done; (repeat (first | exact Leave.done | apply Leave.drop | apply Leave.dropS)); done) | apply PX.app))
      · obtain rfl : k = 512 := by omega
        rw [h512]
        obtain ⟨Ap, cp, rfl, hcp⟩ := how.slice
        refine WP.nil ?_
        refine WP.sub [(0, _), (4, _), (5, _), (6, _), (13, _), (14, _), (15, _), (130, _)] ?_ ⟨rfl, rfl, rfl, rfl, rfl, rfl, rfl, rfl, trivial⟩
        refine WP.next ?_
        refine WP.condF rfl ?_
        refine WP.exit ?_
        refine WP.thenE ?_
        refine WP.thenE ?_
        refine WP.hit ?_
        refine WP.next ?_
        refine WP.seq ?_
        refine WP.region [0, 1, 2, 3, 4, 5, 6, 7, 8, 9, 10, 11, 12, 13, 14, 15, 16, 17] rfl ?_
        refine WP.val rfl rfl rfl rfl (Yld.move rfl rfl) ?_
        refine WP.val rfl rfl rfl rfl (Yld.move rfl rfl) ?_
        refine WP.val rfl rfl rfl rfl (Yld.len rfl ty_sl_23 rfl) ?_
        refine WP.val rfl rfl rfl rfl (Yld.neq rfl rfl rfl false (decide_eq_false (by exact fun h => h rfl))) ?_
        refine WP.val rfl rfl rfl rfl (Yld.move rfl rfl) ?_
        refine WP.valG rfl rfl rfl rfl rfl rfl rfl (Yld.move rfl rfl) ?_
        refine WP.loudG rfl rfl rfl rfl rfl ?_
        refine Op.call (tabT_Size hTy) rfl Try.func35 rfl rfl rfl rfl (by repeat (first | exact Take.nil | with_reducible apply Take.cons | apply Take.app | exact Rm.chunk | exact Rm.here | exact Rm.nil0 | apply Rm.skip | apply Rm.skipS | (focus (apply Take.all; (repeat (first | exact Rm.chunk | exact Rm.here | exact Rm.nil0 | apply Rm.skip | apply Rm.skipS)); done)) | apply Take.cons)) ?_
        rintro v J3 L3 hJ ⟨rfl, rfl, rfl⟩
        clear hJ; try simp only [List.cons_append, List.nil_append, List.append_assoc]
        refine WP.valG rfl rfl rfl rfl rfl rfl rfl (Yld.rem64 rfl rfl rfl (by omega)) ?_
        refine WP.valG rfl rfl rfl rfl rfl rfl rfl (Yld.neq rfl rfl rfl false (decide_eq_false (by unfold Tb.size; omega))) ?_
        refine WP.val rfl rfl rfl rfl (Yld.pickF rfl rfl rfl) ?_
        refine WP.val rfl rfl rfl rfl (Yld.move rfl rfl) ?_
        refine WP.valG rfl rfl rfl rfl rfl rfl rfl (Yld.move rfl rfl) ?_
        refine WP.loudG rfl rfl rfl rfl rfl ?_
        refine Op.call (tabT_Next hTy) rfl Try.func36 rfl rfl rfl rfl (by repeat (first | exact Take.nil | with_reducible apply Take.cons | apply Take.app | exact Rm.chunk | exact Rm.here | exact Rm.nil0 | apply Rm.skip | apply Rm.skipS | (focus (apply Take.all; (repeat (first | exact Rm.chunk | exact Rm.here | exact Rm.nil0 | apply Rm.skip | apply Rm.skipS)); done)) | apply Take.cons)) ?_
        rintro v J3 L3 hJ ⟨rfl, rfl, rfl⟩
        clear hJ; try simp only [List.cons_append, List.nil_append, List.append_assoc]
        refine WP.valG rfl rfl rfl rfl rfl rfl rfl (Yld.move rfl rfl) ?_
        refine WP.loudG rfl rfl rfl rfl rfl ?_
        refine Op.call (tabT_Size hTy) rfl Try.func35 rfl rfl rfl rfl (by repeat (first | exact Take.nil | with_reducible apply Take.cons | apply Take.app | exact Rm.chunk | exact Rm.here | exact Rm.nil0 | apply Rm.skip | apply Rm.skipS | (focus (apply Take.all; (repeat (first | exact Rm.chunk | exact Rm.here | exact Rm.nil0 | apply Rm.skip | apply Rm.skipS)); done)) | apply Take.cons)) ?_
        rintro v J3 L3 hJ ⟨rfl, rfl, rfl⟩
        clear hJ; try simp only [List.cons_append, List.nil_append, List.append_assoc]
        refine WP.valG rfl rfl rfl rfl rfl rfl rfl (Yld.add64 rfl rfl rfl (by omega)) ?_
        refine WP.valG rfl rfl rfl rfl rfl rfl rfl (Yld.gtr rfl rfl rfl false (decide_eq_false (by have := hny.le; omega))) ?_
        refine WP.val rfl rfl rfl rfl (Yld.pickF rfl rfl rfl) ?_
        refine WP.nil ?_
        refine WP.sub [(0, _), (4, _), (5, _), (6, _), (13, _), (14, _), (15, _), (130, _), (167, _)] ?_ ⟨rfl, rfl, rfl, rfl, rfl, rfl, rfl, rfl, rfl, trivial⟩
        refine WP.next ?_
        refine WP.condF rfl ?_
        refine WP.skip ?_
        refine WP.leave ?_
        refine WP.next ?_
        refine WP.region [0, 1, 2] rfl ?_
        refine WP.val rfl rfl rfl rfl (Yld.move rfl rfl) ?_
        refine WP.val rfl rfl rfl rfl (Yld.add64 rfl rfl rfl (by omega)) ?_
        refine WP.val rfl rfl rfl rfl (Yld.assign rfl rfl) ?_
        refine WP.nil ?_
        refine WP.sub [(0, _), (4, _), (5, _), (6, _), (13, _), (14, _), (15, _), (130, _), (167, _)] ?_ ⟨rfl, rfl, rfl, rfl, rfl, rfl, rfl, rfl, rfl, trivial⟩
        exact WP.again ((⟨y, J3, L3⟩ : TL), i + 1) ⟨hio, hok⟩ (show ops.length - (i + 1) < ops.length - i by omega) ⟨rfl, rfl, rfl, rfl, trivial⟩ rfl (by (try simp only [List.append_eq, List.cons_append, List.nil_append, List.append_assoc]); repeat (first | exact Rm.chunk | exact Rm.here | exact Rm.nil0 | apply Rm.skip | apply Rm.skipS | apply PX.cons | (apply PX.done; (repeat (first | exact Leave.done | apply Leave.drop | apply Leave.dropS)); done) | apply PX.app))
  · obtain rfl : i = ops.length := by omega
    refine WP.nil ?_
    refine WP.sub [(0, _), (4, _), (5, _), (6, _), (27, _)] ?_ ⟨rfl, rfl, rfl, rfl, rfl, trivial⟩
    refine WP.next ?_
    refine WP.condF rfl ?_
    refine WP.exit ?_
    refine WP.thenE ?_
    refine WP.thenE ?_
    refine WP.hit ?_
    refine WP.next ?_
    refine WP.seq ?_
    refine WP.region [0] rfl ?_
    refine WP.val rfl rfl rfl rfl (Yld.assign rfl rfl) ?_
    refine WP.nil ?_
    refine WP.next ?_
    refine WP.ret ?_
    refine WP.fin .ret (.inr rfl) (res1 rfl rfl) [] (by repeat (first | exact Take.nil | with_reducible apply Take.cons | apply Take.app | exact Rm.chunk | exact Rm.here | exact Rm.nil0 | apply Rm.skip | apply Rm.skipS | (focus (apply Take.all; (repeat (first | exact Rm.chunk | exact Rm.here | exact Rm.nil0 | apply Rm.skip | apply Rm.skipS)); done)) | apply Take.cons)) (by repeat (first | exact Leave.done | apply Leave.drop | apply Leave.dropS)) hle2 ?_
    exact ⟨rfl, rfl⟩


end Go.Hp
