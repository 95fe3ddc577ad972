import Derived.Test.YtdobkjbpehdokaaTabO
set_option linter.unusedVariables false
set_option linter.unusedSimpArgs false
namespace Go.Hp
open Go Go.Proofs

theorem RTOp.mono {I J : Imm} (h : I.le J) {o : TOp} {cs : List Value} (hr : RTOp I o cs) : RTOp J o cs := by
  obtain ⟨cs', h1, h2⟩ := hr; exact ⟨cs', h1, h2.mono h⟩
structure TK where
  x : Tb
  J : Imm
  L : Chunks
  last : Nat
structure TK.ok (I : Imm) (t : Nat) (u : TK) (i : Nat) : Prop where
  le : I.le u.J
  tab : IsT u.J t u.x u.L
  lt : u.last ≤ u.x.tok
  tk : u.x.tok ≤ i
structure TK2 where
  x : Tb
  J : Imm
  L : Chunks
  pg : Int
  er : Int
  lv : Bool
structure TK2.ok (I : Imm) (t last : Nat) (u : TK2) (i : Nat) : Prop where
  le : I.le u.J
  tab : IsT u.J t u.x u.L
  lt : last ≤ u.x.tok
  tk : u.x.tok ≤ i
  new : u.er = 0 → u.lv = true → ∃ b e, u.x.get u.pg = some (b, e) ∧ e.tok = u.x.tok ∧ last < u.x.tok
theorem Used.tok2 {x x' : Tb} {p : Int} {e : Ent} (h : x.Used x' p e) : ∃ b e', x'.get p = some (b, e') ∧ e'.tok = x'.tok := by
  obtain ⟨b, hb⟩ := h.get; exact ⟨b, _, (hb p).trans (if_pos rfl), h.tok.symm⟩
theorem Swapped.tok2 {x x' : Tb} {p : Int} {e : Ent} (h : x.Swapped x' p e) : ∃ b e', x'.get p = some (b, e') ∧ e'.tok = x'.tok := by
  obtain ⟨b, hb⟩ := h.get; exact ⟨b, _, (hb p).trans (if_pos rfl), h.tok.symm⟩
theorem table_Tokens {I : Imm} {ops : List TOp} {vo : Value} (hops : Slc I 12 (RTOp I) vo ops) (hn : ops.length ≤ 17592186044416) (hsz : ∀ o ∈ ops, o.e.sized) : Spec Try.prog 9 [vo] I [] (fun v J L => v = .bool true ∧ L = []) := by
  obtain ⟨Ao, co, rfl, hco, _⟩ := id hops
  refine Spec.of Try.func9 rfl Try.ntmps9 (Nat.le_of_ble_eq_true rfl) (fun F => ?_)
  try simp only [List.cons_append, List.nil_append, List.append_assoc]
  dsimp only [argsEnv]
  refine WP.seq ?_
  refine WP.region [0] rfl ?_
  refine WP.val rfl rfl rfl rfl (Yld.assign rfl rfl) ?_
  refine WP.nil ?_
  refine WP.next ?_
  refine WP.seq ?_
  refine WP.region [0, 1] rfl ?_
  refine WP.loud rfl rfl ?_
  refine Op.call table_awake rfl Try.func27 rfl rfl rfl rfl (by repeat (first | exact Take.nil | with_reducible apply Take.cons | apply Take.app | exact Rm.chunk | exact Rm.here | exact Rm.nil0 | apply Rm.skip | apply Rm.skipS | (focus (apply Take.all; (repeat (first | exact Rm.chunk | exact Rm.here | exact Rm.nil0 | apply Rm.skip | apply Rm.skipS)); done)) | apply Take.cons)) ?_
  rintro v Ja L1 hJa ⟨rfl, rfl⟩
  try simp only [List.cons_append, List.nil_append, List.append_assoc]
  refine WP.val rfl rfl rfl rfl (Yld.assign rfl rfl) ?_
  refine WP.nil ?_
  refine WP.sub [(0, _), (2, _), (3, _)] ?_ ⟨rfl, rfl, rfl, trivial⟩
  refine WP.next ?_
  refine WP.seq ?_
  refine WP.region [0, 1] rfl ?_
  refine WP.loud rfl rfl ?_
  refine Op.call tabT_NewNil rfl Try.func28 rfl rfl rfl rfl (by repeat (first | exact Take.nil | with_reducible apply Take.cons | apply Take.app | exact Rm.chunk | exact Rm.here | exact Rm.nil0 | apply Rm.skip | apply Rm.skipS | (focus (apply Take.all; (repeat (first | exact Rm.chunk | exact Rm.here | exact Rm.nil0 | apply Rm.skip | apply Rm.skipS)); done)) | apply Take.cons)) ?_
  rintro v J L0 hJ ⟨t, x0, rfl, rfl, hT0, hk0, hn0, hs0, hg0⟩
  clear hJ; try simp only [List.cons_append, List.nil_append, List.append_assoc]
  refine WP.val rfl rfl rfl rfl (Yld.assign rfl rfl) ?_
  refine WP.nil ?_
  refine WP.sub [(0, _), (2, _), (3, _), (4, _)] ?_ ⟨rfl, rfl, rfl, rfl, trivial⟩
  refine WP.next ?_
  refine WP.seq ?_
  refine WP.seq ?_
  refine WP.region [0, 1, 2, 3, 4, 5] rfl ?_
  refine WP.val rfl rfl rfl rfl (Yld.move rfl rfl) ?_
  refine WP.val rfl rfl rfl rfl (Yld.not rfl rfl) ?_
  refine WP.val rfl rfl rfl rfl (Yld.move rfl rfl) ?_
  refine WP.valG rfl rfl rfl rfl rfl rfl rfl (Yld.move rfl rfl) ?_
  refine WP.valG rfl rfl rfl rfl rfl rfl rfl (Yld.eqlNil rfl ty_pt_55 rfl rfl) ?_
  refine WP.val rfl rfl rfl rfl (Yld.pickF rfl rfl rfl) ?_
  refine WP.nil ?_
  refine WP.sub [(0, _), (2, _), (3, _), (4, _), (21, _)] ?_ ⟨rfl, rfl, rfl, rfl, rfl, trivial⟩
  refine WP.next ?_
  refine WP.condF rfl ?_
  refine WP.skip ?_
  refine WP.next ?_
  refine WP.seq ?_
  refine WP.region [0] rfl ?_
  refine WP.val rfl rfl rfl rfl (Yld.assign rfl rfl) ?_
  refine WP.nil ?_
  refine WP.next ?_
  refine WP.seq ?_
  refine WP.seq ?_
  refine WP.region [0] rfl ?_
  refine WP.val rfl rfl rfl rfl (Yld.assign rfl rfl) ?_
  refine WP.nil ?_
  refine WP.next ?_
  refine WP.block ?_
  refine WP.loop (X := TK × Nat) (fun u : TK × Nat => [(0, .slice Ao ops.length co), (4, .pointer (some ⟨t, 0, none⟩)), (5, .int .u64 (u.1.last : Int)), (6, .int .i64 (u.2 : Int))]) (fun u => u.1.J) (fun u : TK × Nat => u.1.L ++ F) (fun u => u.2 ≤ ops.length ∧ u.1.ok I t u.2) (fun u => ops.length - u.2) (⟨x0, Ja, L0, 0⟩, 0) ⟨Nat.zero_le _, ⟨hJa, hT0, Nat.zero_le _, (show x0.tok ≤ 0 by omega)⟩⟩ ⟨rfl, rfl, rfl, rfl, trivial⟩ rfl (by (try simp only [List.append_eq, List.cons_append, List.nil_append, List.append_assoc]); repeat (first | exact Rm.chunk | exact Rm.here | exact Rm.nil0 | apply Rm.skip | apply Rm.skipS | apply PX.cons | (apply PX.done; (repeat (first | exact Leave.done | apply Leave.drop | apply Leave.dropS)); done) | apply PX.app)) ?_
  rintro ⟨⟨x, J2, L2, last⟩, i⟩ ⟨hle, ⟨hle2, hT, hlt2, htk⟩⟩; dsimp only at hle hle2 hT hlt2 htk
  try dsimp only
  try simp only [List.cons_append, List.nil_append, List.append_assoc]
  refine WP.seq ?_
  refine WP.seq ?_
  refine WP.region [0, 1, 2, 3] rfl ?_
  refine WP.val rfl rfl rfl rfl (Yld.move rfl rfl) ?_
  refine WP.val rfl rfl rfl rfl (Yld.move rfl rfl) ?_
  refine WP.val rfl rfl rfl rfl (Yld.len rfl ty_sl_71 rfl) ?_
  refine WP.split rfl rfl rfl rfl (Yld.lss rfl rfl rfl) (fun hlt => ?_) (fun hlt => ?_)
  · have hio : i < ops.length := by omega
    obtain ⟨bo, ko, To, fro, aro, csE, rfl, hbo, eK, eP, hE, hEl, hRE⟩ := (hops.mono hle2 (fun _ _ => RTOp.mono hle2)).top hio
    have hszi := hsz _ (List.getElem_mem hio)
    refine WP.nil ?_
    refine WP.sub [(0, _), (4, _), (5, _), (6, _), (25, _)] ?_ ⟨rfl, rfl, rfl, rfl, rfl, trivial⟩
    refine WP.next ?_
    refine WP.condT rfl ?_
    refine WP.skip ?_
    refine WP.next ?_
    refine WP.cut (X := TK) (fun u : TK => [(0, .slice (some ⟨bo, ko, none⟩) ops.length co), (4, .pointer (some ⟨t, 0, none⟩)), (5, .int .u64 (u.last : Int)), (6, .int .i64 (i : Int))]) (fun u => u.J) (fun u : TK => u.L ++ F) (fun u => u.ok I t (i + 1)) ?_ ?_
    · skip
      refine WP.block ?_
      refine WP.seq ?_
      refine WP.region [0, 1, 2, 3, 4, 5] rfl ?_
      refine WP.val rfl rfl rfl rfl (Yld.move rfl rfl) ?_
      refine WP.val rfl rfl rfl rfl (Yld.move rfl rfl) ?_
      refine WP.val rfl rfl rfl rfl (Yld.indexAddr (i := i) rfl ty_sl_71 rfl rfl hio) ?_
      refine WP.val rfl rfl rfl rfl (Yld.fieldAddr rfl ty_fd_73_1 rfl) ?_
      refine WP.val rfl rfl rfl rfl (Yld.loadC rfl ty_sc_3 rfl (There.i hbo) eP) ?_
      refine WP.val rfl rfl rfl rfl (Yld.assign rfl rfl) ?_
      refine WP.nil ?_
      refine WP.sub [(0, _), (4, _), (5, _), (6, _), (7, _), (25, _)] ?_ ⟨rfl, rfl, rfl, rfl, rfl, rfl, trivial⟩
      refine WP.next ?_
      refine WP.seq ?_
      refine WP.region [0] rfl ?_
      refine WP.val rfl rfl rfl rfl (Yld.assign rfl rfl) ?_
      refine WP.nil ?_
      refine WP.next ?_
      refine WP.seq ?_
      refine WP.region [0] rfl ?_
      refine WP.val rfl rfl rfl rfl (Yld.assign rfl rfl) ?_
      refine WP.nil ?_
      refine WP.next ?_
      refine WP.cut (X := TK2) (fun u : TK2 => [(0, .slice (some ⟨bo, ko, none⟩) ops.length co), (4, .pointer (some ⟨t, 0, none⟩)), (5, .int .u64 (last : Int)), (6, .int .i64 (i : Int)), (7, .int .i64 u.pg), (8, .int .i64 u.er), (9, .bool u.lv)]) (fun u => u.J) (fun u : TK2 => u.L ++ F) (fun u => u.ok I t last (i + 1)) ?_ ?_
      · skip
        refine WP.seq ?_
        refine WP.region [0, 1, 2, 3, 4] rfl ?_
        refine WP.val rfl rfl rfl rfl (Yld.move rfl rfl) ?_
        refine WP.val rfl rfl rfl rfl (Yld.move rfl rfl) ?_
        refine WP.val rfl rfl rfl rfl (Yld.indexAddr (i := i) rfl ty_sl_71 rfl rfl hio) ?_
        refine WP.val rfl rfl rfl rfl (Yld.fieldAddr rfl ty_fd_73_0 rfl) ?_
        refine WP.val rfl rfl rfl rfl (Yld.loadC rfl ty_sc_3 rfl (There.i hbo) eK) ?_
        refine WP.nil ?_
        refine WP.sub [(0, _), (4, _), (5, _), (6, _), (7, _), (8, _), (9, _), (25, _), (37, _)] ?_ ⟨rfl, rfl, rfl, rfl, rfl, rfl, rfl, rfl, rfl, trivial⟩
        refine WP.next ?_
        refine WP.block ?_
        refine WP.seq ?_
        refine WP.region [0, 1] rfl ?_
        refine WP.split rfl rfl rfl rfl (Yld.eql rfl rfl rfl) (fun k0 => ?_) (fun k0 => ?_)
        · refine WP.val rfl rfl rfl rfl (Yld.assign rfl rfl) ?_
          refine WP.nil ?_
          refine WP.sub [(0, _), (4, _), (5, _), (6, _), (7, _), (8, _), (9, _), (25, _), (37, _), (46, _)] ?_ ⟨rfl, rfl, rfl, rfl, rfl, rfl, rfl, rfl, rfl, rfl, trivial⟩
          refine WP.next ?_
          refine WP.condT rfl ?_
          refine WP.region [0, 1, 2, 3, 4, 5, 6] rfl ?_
          refine WP.val rfl rfl rfl rfl (Yld.move rfl rfl) ?_
          refine WP.loud rfl rfl ?_
          refine Op.call (tabT_AllocAny hT (by omega)) rfl Try.func29 rfl rfl rfl rfl (by repeat (first | exact Take.nil | with_reducible apply Take.cons | apply Take.app | exact Rm.chunk | exact Rm.here | exact Rm.nil0 | apply Rm.skip | apply Rm.skipS | (focus (apply Take.all; (repeat (first | exact Rm.chunk | exact Rm.here | exact Rm.nil0 | apply Rm.skip | apply Rm.skipS)); done)) | apply Take.cons)) ?_
          rintro v J5 L5 hJ5 ⟨x5, p5, er5, rfl, hT5, hor5⟩
          try simp only [List.cons_append, List.nil_append, List.append_assoc]
          refine WP.val rfl rfl rfl rfl (Yld.move rfl rfl) ?_
          refine WP.val rfl rfl rfl rfl (Yld.extract rfl rfl rfl) ?_
          refine WP.val rfl rfl rfl rfl (Yld.extract rfl rfl rfl) ?_
          refine WP.val rfl rfl rfl rfl (Yld.assign rfl rfl) ?_
          refine WP.val rfl rfl rfl rfl (Yld.assign rfl rfl) ?_
          refine WP.nil ?_
          refine WP.sub [(0, _), (4, _), (5, _), (6, _), (7, _), (8, _), (9, _), (25, _), (37, _), (46, _)] ?_ ⟨rfl, rfl, rfl, rfl, rfl, rfl, rfl, rfl, rfl, rfl, trivial⟩
          refine WP.leave ?_
          have htk5 : last ≤ x5.tok ∧ x5.tok ≤ i + 1 ∧ (er5 = 0 → ∃ b e, x5.get p5 = some (b, e) ∧ e.tok = x5.tok ∧ last < x5.tok) := by
            rcases hor5 with ⟨h0, _, _, hu⟩ | ⟨h0, _, h, _⟩
            · have := hu.tok
              obtain ⟨b, e', h1, h2⟩ := Used.tok2 hu
              exact ⟨by omega, by omega, fun _ => ⟨b, e', h1, h2, by omega⟩⟩
            · rw [h]; exact ⟨by omega, by omega, fun he => absurd he (by omega)⟩
          have hok : TK2.ok I t last ⟨x5, J5, L5, p5, er5, true⟩ (i + 1) := ⟨Imm.le_trans hle2 hJ5, hT5, htk5.1, htk5.2.1, fun h _ => htk5.2.2 h⟩
          exact WP.meet (⟨x5, J5, L5, p5, er5, true⟩ : TK2) hok ⟨rfl, rfl, rfl, rfl, rfl, rfl, rfl, trivial⟩ rfl (by (try simp only [List.append_eq, List.cons_append, List.nil_append, List.append_assoc]); repeat (first | exact Rm.chunk | exact Rm.here | exact Rm.nil0 | apply Rm.skip | apply Rm.skipS | apply PX.cons | (apply PX.done; (repeat (first | exact Leave.done | apply Leave.drop | apply Leave.dropS)); done) | apply PX.app))
        · refine WP.val rfl rfl rfl rfl (Yld.assign rfl rfl) ?_
          refine WP.nil ?_
          refine WP.sub [(0, _), (4, _), (5, _), (6, _), (7, _), (8, _), (9, _), (25, _), (37, _), (46, _)] ?_ ⟨rfl, rfl, rfl, rfl, rfl, rfl, rfl, rfl, rfl, rfl, trivial⟩
          refine WP.next ?_
          refine WP.condF rfl ?_
          refine WP.seq ?_
          refine WP.region [0, 1] rfl ?_
          refine WP.split rfl rfl rfl rfl (Yld.eql rfl rfl rfl) (fun k1 => ?_) (fun k1 => ?_)
          · refine WP.val rfl rfl rfl rfl (Yld.assign rfl rfl) ?_
            refine WP.nil ?_
            refine WP.sub [(0, _), (4, _), (5, _), (6, _), (7, _), (8, _), (9, _), (25, _), (37, _), (46, _), (53, _)] ?_ ⟨rfl, rfl, rfl, rfl, rfl, rfl, rfl, rfl, rfl, rfl, rfl, trivial⟩
            refine WP.next ?_
            refine WP.condT rfl ?_
            refine WP.seq ?_
            refine WP.region [0, 1, 2, 3] rfl ?_
            refine WP.val rfl rfl rfl rfl (Yld.move rfl rfl) ?_
            refine WP.val rfl rfl rfl rfl (Yld.move rfl rfl) ?_
            refine WP.loud rfl rfl ?_
            refine Op.call (tabT_Free hT) rfl Try.func32 rfl rfl rfl rfl (by repeat (first | exact Take.nil | with_reducible apply Take.cons | apply Take.app | exact Rm.chunk | exact Rm.here | exact Rm.nil0 | apply Rm.skip | apply Rm.skipS | (focus (apply Take.all; (repeat (first | exact Rm.chunk | exact Rm.here | exact Rm.nil0 | apply Rm.skip | apply Rm.skipS)); done)) | apply Take.cons)) ?_
            rintro v J L5 hJ ⟨x5, rfl, rfl, hT5, hf5⟩
            clear hJ; try simp only [List.cons_append, List.nil_append, List.append_assoc]
            refine WP.val rfl rfl rfl rfl (Yld.assign rfl rfl) ?_
            refine WP.nil ?_
            refine WP.sub [(0, _), (4, _), (5, _), (6, _), (7, _), (8, _), (9, _), (25, _), (37, _), (46, _), (53, _)] ?_ ⟨rfl, rfl, rfl, rfl, rfl, rfl, rfl, rfl, rfl, rfl, rfl, trivial⟩
            refine WP.next ?_
            refine WP.region [0] rfl ?_
            refine WP.val rfl rfl rfl rfl (Yld.assign rfl rfl) ?_
            refine WP.nil ?_
            refine WP.leave ?_
            have hf := hf5.tok
            have hok : TK2.ok I t last ⟨x5, J2, L5, ops[i].page, (if (x.get ops[i].page).isSome = true then 0 else 90), false⟩ (i + 1) := ⟨hle2, hT5, (show last ≤ x5.tok by omega), (show x5.tok ≤ i + 1 by omega), fun _ h => (by cases h)⟩
            exact WP.meet (⟨x5, J2, L5, ops[i].page, (if (x.get ops[i].page).isSome = true then 0 else 90), false⟩ : TK2) hok ⟨rfl, rfl, rfl, rfl, rfl, rfl, rfl, trivial⟩ rfl (by (try simp only [List.append_eq, List.cons_append, List.nil_append, List.append_assoc]); repeat (first | exact Rm.chunk | exact Rm.here | exact Rm.nil0 | apply Rm.skip | apply Rm.skipS | apply PX.cons | (apply PX.done; (repeat (first | exact Leave.done | apply Leave.drop | apply Leave.dropS)); done) | apply PX.app))
          · refine WP.val rfl rfl rfl rfl (Yld.assign rfl rfl) ?_
            refine WP.nil ?_
            refine WP.sub [(0, _), (4, _), (5, _), (6, _), (7, _), (8, _), (9, _), (25, _), (37, _), (46, _), (53, _)] ?_ ⟨rfl, rfl, rfl, rfl, rfl, rfl, rfl, rfl, rfl, rfl, rfl, trivial⟩
            refine WP.next ?_
            refine WP.condF rfl ?_
            refine WP.seq ?_
            refine WP.seq ?_
            refine WP.region [0, 1] rfl ?_
            refine WP.split rfl rfl rfl rfl (Yld.eql rfl rfl rfl) (fun k2 => ?_) (fun k2 => ?_)
            · refine WP.val rfl rfl rfl rfl (Yld.assign rfl rfl) ?_
              refine WP.nil ?_
              refine WP.sub [(0, _), (4, _), (5, _), (6, _), (7, _), (8, _), (9, _), (25, _), (37, _), (46, _), (53, _), (58, _)] ?_ ⟨rfl, rfl, rfl, rfl, rfl, rfl, rfl, rfl, rfl, rfl, rfl, rfl, trivial⟩
              refine WP.next ?_
              refine WP.condT rfl ?_
              refine WP.skip ?_
              refine WP.next ?_
              refine WP.condT rfl ?_
              refine WP.seq ?_
              refine WP.region [0, 1, 2, 3, 4, 5, 6, 7, 8] rfl ?_
              refine WP.val rfl rfl rfl rfl (Yld.move rfl rfl) ?_
              refine WP.val rfl rfl rfl rfl (Yld.move rfl rfl) ?_
              refine WP.loud rfl rfl ?_
              refine Op.call (tabT_LoadAny hT) rfl Try.func30 rfl rfl rfl rfl (by repeat (first | exact Take.nil | with_reducible apply Take.cons | apply Take.app | exact Rm.chunk | exact Rm.here | exact Rm.nil0 | apply Rm.skip | apply Rm.skipS | (focus (apply Take.all; (repeat (first | exact Rm.chunk | exact Rm.here | exact Rm.nil0 | apply Rm.skip | apply Rm.skipS)); done)) | apply Take.cons)) ?_
              rintro v J3 L3 hJ3 ⟨e3, cs3, er3, rfl, hre3, hT3, hor3⟩
              try simp only [List.cons_append, List.nil_append, List.append_assoc]
              have hbo3 := hJ3.2 _ _ hbo
              obtain ⟨vn3, vw3, nv3, rfl, hvn3, hvo3, hvw3⟩ := hre3.ex
              obtain ⟨An3, cn3, rfl, hcn3⟩ := hvn3.slice'
              obtain ⟨Aw3, cw3, rfl, hcw3⟩ := hvw3.slice'
              refine WP.val rfl rfl rfl rfl (Yld.move rfl rfl) ?_
              refine WP.val rfl rfl rfl rfl (Yld.extract rfl rfl rfl) ?_
              refine WP.val rfl rfl rfl rfl (Yld.extract rfl rfl rfl) ?_
              refine WP.loud rfl rfl ?_
              refine Op.alloc rfl rfl rfl ty_zr_63 (fun b10 => ?_)
              refine WP.loud rfl rfl ?_
              refine Op.storeAll rfl rfl ty_sz_63 rfl rfl rfl rfl (by repeat (first | exact Upd.head | apply Upd.tail | apply Upd.tailS)) rfl ?_
              refine WP.val rfl rfl rfl rfl (Yld.assign rfl rfl) ?_
              refine WP.nil ?_
              refine WP.sub [(0, _), (4, _), (5, _), (6, _), (7, _), (8, _), (9, _), (10, _), (11, _), (25, _), (37, _), (46, _), (53, _), (58, _)] ?_ ⟨rfl, rfl, rfl, rfl, rfl, rfl, rfl, rfl, rfl, rfl, rfl, rfl, rfl, rfl, trivial⟩
              refine WP.next ?_
              refine WP.seq ?_
              refine WP.seq ?_
              refine WP.region [0, 1] rfl ?_
              refine WP.val rfl rfl rfl rfl (Yld.move rfl rfl) ?_
              refine WP.split rfl rfl rfl rfl (Yld.eql rfl rfl rfl) (fun hz => ?_) (fun hz => ?_)
              · refine WP.nil ?_
                refine WP.sub [(0, _), (4, _), (5, _), (6, _), (7, _), (8, _), (9, _), (10, _), (11, _), (25, _), (37, _), (46, _), (53, _), (58, _), (69, _)] ?_ ⟨rfl, rfl, rfl, rfl, rfl, rfl, rfl, rfl, rfl, rfl, rfl, rfl, rfl, rfl, rfl, trivial⟩
                refine WP.next ?_
                refine WP.condT rfl ?_
                refine WQ.start Trymixed 9 (by kernel_rfl) _ rfl [9, 10] rfl ?_
                refine WQ.val rfl rfl rfl (Yld.move rfl rfl) ?_
                refine WQ.val rfl rfl rfl (Yld.move rfl rfl) ?_
                refine WQ.val rfl rfl rfl (Yld.fieldAddr rfl ty_fd_63_0 rfl) ?_
                refine WQ.val rfl rfl rfl (Yld.load rfl ty_sc_60 rfl (by repeat (first | exact There.h | exact There.i (by assumption) | apply There.t | apply There.s)) rfl) ?_
                refine WQ.val rfl rfl rfl (Yld.move rfl rfl) ?_
                refine WQ.val rfl rfl rfl (Yld.move rfl rfl) ?_
                refine WQ.val rfl rfl rfl (Yld.indexAddr (i := i) rfl ty_sl_71 rfl rfl hio) ?_
                refine WQ.val rfl rfl rfl (Yld.fieldAddr rfl ty_fd_73_3 rfl) ?_
                refine WQ.val rfl rfl rfl (Yld.loadAggC rfl ty_ag_63 rfl (There.i hbo3) hE hEl) ?_
                refine WQ.nil ?_
                refine WP.loud rfl rfl ?_
                refine Op.call (tabT_SwapAny (tk := e3.tok) hT3 (hRE.mono hJ3) hszi (by omega)) rfl Try.func31 rfl rfl rfl rfl (by repeat (first | exact Take.nil | with_reducible apply Take.cons | apply Take.app | exact Rm.chunk | exact Rm.here | exact Rm.nil0 | apply Rm.skip | apply Rm.skipS | (focus (apply Take.all; (repeat (first | exact Rm.chunk | exact Rm.here | exact Rm.nil0 | apply Rm.skip | apply Rm.skipS)); done)) | apply Take.cons)) ?_
                rintro v J5 L5 hJ5 ⟨x5, er5, rfl, hT5, hor5⟩
                try simp only [List.cons_append, List.nil_append, List.append_assoc]
                refine WP.val rfl rfl rfl rfl (Yld.assign rfl rfl) ?_
                refine WP.nil ?_
                refine WP.sub [(0, _), (4, _), (5, _), (6, _), (7, _), (8, _), (9, _), (10, _), (11, _), (25, _), (37, _), (46, _), (53, _), (58, _), (69, _)] ?_ ⟨rfl, rfl, rfl, rfl, rfl, rfl, rfl, rfl, rfl, rfl, rfl, rfl, rfl, rfl, rfl, trivial⟩
                refine WP.next ?_
                refine WP.region [0, 1, 2] rfl ?_
                refine WP.val rfl rfl rfl rfl (Yld.move rfl rfl) ?_
                refine WP.val rfl rfl rfl rfl (Yld.eql rfl rfl rfl true (decide_eq_true (by omega))) ?_
                refine WP.val rfl rfl rfl rfl (Yld.assign rfl rfl) ?_
                refine WP.nil ?_
                refine WP.sub [(0, _), (4, _), (5, _), (6, _), (7, _), (8, _), (9, _), (10, _), (11, _), (25, _), (37, _), (46, _), (53, _), (58, _), (69, _)] ?_ ⟨rfl, rfl, rfl, rfl, rfl, rfl, rfl, rfl, rfl, rfl, rfl, rfl, rfl, rfl, rfl, trivial⟩
                refine WP.leave ?_
                have htk5 : last ≤ x5.tok ∧ x5.tok ≤ i + 1 ∧ (er5 = 0 → ∃ b e, x5.get ops[i].page = some (b, e) ∧ e.tok = x5.tok ∧ last < x5.tok) := by
                  rcases hor5 with ⟨h0, hu⟩ | ⟨h0, h⟩
                  · have := hu.tok
                    obtain ⟨b, e', h1, h2⟩ := Swapped.tok2 hu
                    exact ⟨by omega, by omega, fun _ => ⟨b, e', h1, h2, by omega⟩⟩
                  · rw [h]; exact ⟨by omega, by omega, fun he => absurd he (by omega)⟩
                have hok : TK2.ok I t last ⟨x5, J5, L5, ops[i].page, er5, true⟩ (i + 1) := ⟨Imm.le_trans hle2 (Imm.le_trans hJ3 hJ5), hT5, htk5.1, htk5.2.1, fun h _ => htk5.2.2 h⟩
                exact WP.meet (⟨x5, J5, L5, ops[i].page, er5, true⟩ : TK2) hok ⟨rfl, rfl, rfl, rfl, rfl, rfl, rfl, trivial⟩ rfl (by (try simp only [List.append_eq, List.cons_append, List.nil_append, List.append_assoc]); repeat (first | exact Rm.chunk | exact Rm.here | exact Rm.nil0 | apply Rm.skip | apply Rm.skipS | apply PX.cons | (apply PX.done; (repeat (first | exact Leave.done | apply Leave.drop | apply Leave.dropS)); done) | apply PX.app))
              · refine WP.nil ?_
                refine WP.sub [(0, _), (4, _), (5, _), (6, _), (7, _), (8, _), (9, _), (10, _), (11, _), (25, _), (37, _), (46, _), (53, _), (58, _), (69, _)] ?_ ⟨rfl, rfl, rfl, rfl, rfl, rfl, rfl, rfl, rfl, rfl, rfl, rfl, rfl, rfl, rfl, trivial⟩
                refine WP.next ?_
                refine WP.condF rfl ?_
                refine WP.skip ?_
                refine WP.next ?_
                refine WP.region [0, 1, 2] rfl ?_
                refine WP.val rfl rfl rfl rfl (Yld.move rfl rfl) ?_
                refine WP.val rfl rfl rfl rfl (Yld.eql rfl rfl rfl false (decide_eq_false (by omega))) ?_
                refine WP.val rfl rfl rfl rfl (Yld.assign rfl rfl) ?_
                refine WP.nil ?_
                refine WP.sub [(0, _), (4, _), (5, _), (6, _), (7, _), (8, _), (9, _), (10, _), (11, _), (25, _), (37, _), (46, _), (53, _), (58, _), (69, _)] ?_ ⟨rfl, rfl, rfl, rfl, rfl, rfl, rfl, rfl, rfl, rfl, rfl, rfl, rfl, rfl, rfl, trivial⟩
                refine WP.leave ?_
                have hok : TK2.ok I t last ⟨x, J3, L3, ops[i].page, 0, false⟩ (i + 1) := ⟨Imm.le_trans hle2 hJ3, hT3, (show last ≤ x.tok from hlt2), (show x.tok ≤ i + 1 by omega), fun _ h => (by cases h)⟩
                exact WP.meet (⟨x, J3, L3, ops[i].page, 0, false⟩ : TK2) hok ⟨rfl, rfl, rfl, rfl, rfl, rfl, rfl, trivial⟩ rfl (by (try simp only [List.append_eq, List.cons_append, List.nil_append, List.append_assoc]); repeat (first | exact Rm.chunk | exact Rm.here | exact Rm.nil0 | apply Rm.skip | apply Rm.skipS | apply PX.cons | (apply PX.done; (repeat (first | exact Leave.done | apply Leave.drop | apply Leave.dropS)); done) | apply PX.app))
            · refine WP.val rfl rfl rfl rfl (Yld.assign rfl rfl) ?_
              refine WP.nil ?_
              refine WP.sub [(0, _), (4, _), (5, _), (6, _), (7, _), (8, _), (9, _), (25, _), (37, _), (46, _), (53, _), (58, _)] ?_ ⟨rfl, rfl, rfl, rfl, rfl, rfl, rfl, rfl, rfl, rfl, rfl, rfl, trivial⟩
              refine WP.next ?_
              refine WP.condF rfl ?_
              refine WP.seq ?_
              refine WP.region [0, 1] rfl ?_
              refine WP.split rfl rfl rfl rfl (Yld.eql rfl rfl rfl) (fun k3 => ?_) (fun k3 => ?_)
              · refine WP.val rfl rfl rfl rfl (Yld.assign rfl rfl) ?_
                refine WP.nil ?_
                refine WP.sub [(0, _), (4, _), (5, _), (6, _), (7, _), (8, _), (9, _), (25, _), (37, _), (46, _), (53, _), (58, _)] ?_ ⟨rfl, rfl, rfl, rfl, rfl, rfl, rfl, rfl, rfl, rfl, rfl, rfl, trivial⟩
                refine WP.next ?_
                refine WP.condT rfl ?_
                refine WP.skip ?_
                refine WP.next ?_
                refine WP.condT rfl ?_
                refine WP.seq ?_
                refine WP.region [0, 1, 2, 3, 4, 5, 6, 7, 8] rfl ?_
                refine WP.val rfl rfl rfl rfl (Yld.move rfl rfl) ?_
                refine WP.val rfl rfl rfl rfl (Yld.move rfl rfl) ?_
                refine WP.loud rfl rfl ?_
                refine Op.call (tabT_LoadAny hT) rfl Try.func30 rfl rfl rfl rfl (by repeat (first | exact Take.nil | with_reducible apply Take.cons | apply Take.app | exact Rm.chunk | exact Rm.here | exact Rm.nil0 | apply Rm.skip | apply Rm.skipS | (focus (apply Take.all; (repeat (first | exact Rm.chunk | exact Rm.here | exact Rm.nil0 | apply Rm.skip | apply Rm.skipS)); done)) | apply Take.cons)) ?_
                rintro v J3 L3 hJ3 ⟨e3, cs3, er3, rfl, hre3, hT3, hor3⟩
                try simp only [List.cons_append, List.nil_append, List.append_assoc]
                have hbo3 := hJ3.2 _ _ hbo
                obtain ⟨vn3, vw3, nv3, rfl, hvn3, hvo3, hvw3⟩ := hre3.ex
                obtain ⟨An3, cn3, rfl, hcn3⟩ := hvn3.slice'
                obtain ⟨Aw3, cw3, rfl, hcw3⟩ := hvw3.slice'
                refine WP.val rfl rfl rfl rfl (Yld.move rfl rfl) ?_
                refine WP.val rfl rfl rfl rfl (Yld.extract rfl rfl rfl) ?_
                refine WP.val rfl rfl rfl rfl (Yld.extract rfl rfl rfl) ?_
                refine WP.loud rfl rfl ?_
                refine Op.alloc rfl rfl rfl ty_zr_63 (fun b10 => ?_)
                refine WP.loud rfl rfl ?_
                refine Op.storeAll rfl rfl ty_sz_63 rfl rfl rfl rfl (by repeat (first | exact Upd.head | apply Upd.tail | apply Upd.tailS)) rfl ?_
                refine WP.val rfl rfl rfl rfl (Yld.assign rfl rfl) ?_
                refine WP.nil ?_
                refine WP.sub [(0, _), (4, _), (5, _), (6, _), (7, _), (8, _), (9, _), (10, _), (11, _), (25, _), (37, _), (46, _), (53, _), (58, _)] ?_ ⟨rfl, rfl, rfl, rfl, rfl, rfl, rfl, rfl, rfl, rfl, rfl, rfl, rfl, rfl, trivial⟩
                refine WP.next ?_
                refine WP.seq ?_
                refine WP.seq ?_
                refine WP.region [0, 1] rfl ?_
                refine WP.val rfl rfl rfl rfl (Yld.move rfl rfl) ?_
                refine WP.split rfl rfl rfl rfl (Yld.eql rfl rfl rfl) (fun hz => ?_) (fun hz => ?_)
                · refine WP.nil ?_
                  refine WP.sub [(0, _), (4, _), (5, _), (6, _), (7, _), (8, _), (9, _), (10, _), (11, _), (25, _), (37, _), (46, _), (53, _), (58, _), (69, _)] ?_ ⟨rfl, rfl, rfl, rfl, rfl, rfl, rfl, rfl, rfl, rfl, rfl, rfl, rfl, rfl, rfl, trivial⟩
                  refine WP.next ?_
                  refine WP.condT rfl ?_
                  refine WQ.start Trymixed 9 (by kernel_rfl) _ rfl [9, 10] rfl ?_
                  refine WQ.val rfl rfl rfl (Yld.move rfl rfl) ?_
                  refine WQ.val rfl rfl rfl (Yld.move rfl rfl) ?_
                  refine WQ.val rfl rfl rfl (Yld.fieldAddr rfl ty_fd_63_0 rfl) ?_
                  refine WQ.val rfl rfl rfl (Yld.load rfl ty_sc_60 rfl (by repeat (first | exact There.h | exact There.i (by assumption) | apply There.t | apply There.s)) rfl) ?_
                  refine WQ.val rfl rfl rfl (Yld.move rfl rfl) ?_
                  refine WQ.val rfl rfl rfl (Yld.move rfl rfl) ?_
                  refine WQ.val rfl rfl rfl (Yld.indexAddr (i := i) rfl ty_sl_71 rfl rfl hio) ?_
                  refine WQ.val rfl rfl rfl (Yld.fieldAddr rfl ty_fd_73_3 rfl) ?_
                  refine WQ.val rfl rfl rfl (Yld.loadAggC rfl ty_ag_63 rfl (There.i hbo3) hE hEl) ?_
                  refine WQ.nil ?_
                  refine WP.loud rfl rfl ?_
                  refine Op.call (tabT_SwapAny (tk := e3.tok) hT3 (hRE.mono hJ3) hszi (by omega)) rfl Try.func31 rfl rfl rfl rfl (by repeat (first | exact Take.nil | with_reducible apply Take.cons | apply Take.app | exact Rm.chunk | exact Rm.here | exact Rm.nil0 | apply Rm.skip | apply Rm.skipS | (focus (apply Take.all; (repeat (first | exact Rm.chunk | exact Rm.here | exact Rm.nil0 | apply Rm.skip | apply Rm.skipS)); done)) | apply Take.cons)) ?_
                  rintro v J5 L5 hJ5 ⟨x5, er5, rfl, hT5, hor5⟩
                  try simp only [List.cons_append, List.nil_append, List.append_assoc]
                  refine WP.val rfl rfl rfl rfl (Yld.assign rfl rfl) ?_
                  refine WP.nil ?_
                  refine WP.sub [(0, _), (4, _), (5, _), (6, _), (7, _), (8, _), (9, _), (10, _), (11, _), (25, _), (37, _), (46, _), (53, _), (58, _), (69, _)] ?_ ⟨rfl, rfl, rfl, rfl, rfl, rfl, rfl, rfl, rfl, rfl, rfl, rfl, rfl, rfl, rfl, trivial⟩
                  refine WP.next ?_
                  refine WP.region [0, 1, 2] rfl ?_
                  refine WP.val rfl rfl rfl rfl (Yld.move rfl rfl) ?_
                  refine WP.val rfl rfl rfl rfl (Yld.eql rfl rfl rfl true (decide_eq_true (by omega))) ?_
                  refine WP.val rfl rfl rfl rfl (Yld.assign rfl rfl) ?_
                  refine WP.nil ?_
                  refine WP.sub [(0, _), (4, _), (5, _), (6, _), (7, _), (8, _), (9, _), (10, _), (11, _), (25, _), (37, _), (46, _), (53, _), (58, _), (69, _)] ?_ ⟨rfl, rfl, rfl, rfl, rfl, rfl, rfl, rfl, rfl, rfl, rfl, rfl, rfl, rfl, rfl, trivial⟩
                  refine WP.leave ?_
                  have htk5 : last ≤ x5.tok ∧ x5.tok ≤ i + 1 ∧ (er5 = 0 → ∃ b e, x5.get ops[i].page = some (b, e) ∧ e.tok = x5.tok ∧ last < x5.tok) := by
                    rcases hor5 with ⟨h0, hu⟩ | ⟨h0, h⟩
                    · have := hu.tok
                      obtain ⟨b, e', h1, h2⟩ := Swapped.tok2 hu
                      exact ⟨by omega, by omega, fun _ => ⟨b, e', h1, h2, by omega⟩⟩
                    · rw [h]; exact ⟨by omega, by omega, fun he => absurd he (by omega)⟩
                  have hok : TK2.ok I t last ⟨x5, J5, L5, ops[i].page, er5, true⟩ (i + 1) := ⟨Imm.le_trans hle2 (Imm.le_trans hJ3 hJ5), hT5, htk5.1, htk5.2.1, fun h _ => htk5.2.2 h⟩
                  exact WP.meet (⟨x5, J5, L5, ops[i].page, er5, true⟩ : TK2) hok ⟨rfl, rfl, rfl, rfl, rfl, rfl, rfl, trivial⟩ rfl (by (try simp only [List.append_eq, List.cons_append, List.nil_append, List.append_assoc]); repeat (first | exact Rm.chunk | exact Rm.here | exact Rm.nil0 | apply Rm.skip | apply Rm.skipS | apply PX.cons | (apply PX.done; (repeat (first | exact Leave.done | apply Leave.drop | apply Leave.dropS)); done) | apply PX.app))
                · refine WP.nil ?_
                  refine WP.sub [(0, _), (4, _), (5, _), (6, _), (7, _), (8, _), (9, _), (10, _), (11, _), (25, _), (37, _), (46, _), (53, _), (58, _), (69, _)] ?_ ⟨rfl, rfl, rfl, rfl, rfl, rfl, rfl, rfl, rfl, rfl, rfl, rfl, rfl, rfl, rfl, trivial⟩
                  refine WP.next ?_
                  refine WP.condF rfl ?_
                  refine WP.skip ?_
                  refine WP.next ?_
                  refine WP.region [0, 1, 2] rfl ?_
                  refine WP.val rfl rfl rfl rfl (Yld.move rfl rfl) ?_
                  refine WP.val rfl rfl rfl rfl (Yld.eql rfl rfl rfl false (decide_eq_false (by omega))) ?_
                  refine WP.val rfl rfl rfl rfl (Yld.assign rfl rfl) ?_
                  refine WP.nil ?_
                  refine WP.sub [(0, _), (4, _), (5, _), (6, _), (7, _), (8, _), (9, _), (10, _), (11, _), (25, _), (37, _), (46, _), (53, _), (58, _), (69, _)] ?_ ⟨rfl, rfl, rfl, rfl, rfl, rfl, rfl, rfl, rfl, rfl, rfl, rfl, rfl, rfl, rfl, trivial⟩
                  refine WP.leave ?_
                  have hok : TK2.ok I t last ⟨x, J3, L3, ops[i].page, 0, false⟩ (i + 1) := ⟨Imm.le_trans hle2 hJ3, hT3, (show last ≤ x.tok from hlt2), (show x.tok ≤ i + 1 by omega), fun _ h => (by cases h)⟩
                  exact WP.meet (⟨x, J3, L3, ops[i].page, 0, false⟩ : TK2) hok ⟨rfl, rfl, rfl, rfl, rfl, rfl, rfl, trivial⟩ rfl (by (try simp only [List.append_eq, List.cons_append, List.nil_append, List.append_assoc]); repeat (first | exact Rm.chunk | exact Rm.here | exact Rm.nil0 | apply Rm.skip | apply Rm.skipS | apply PX.cons | (apply PX.done; (repeat (first | exact Leave.done | apply Leave.drop | apply Leave.dropS)); done) | apply PX.app))
              · refine WP.val rfl rfl rfl rfl (Yld.assign rfl rfl) ?_
                refine WP.nil ?_
                refine WP.sub [(0, _), (4, _), (5, _), (6, _), (7, _), (8, _), (9, _), (25, _), (37, _), (46, _), (53, _), (58, _)] ?_ ⟨rfl, rfl, rfl, rfl, rfl, rfl, rfl, rfl, rfl, rfl, rfl, rfl, trivial⟩
                refine WP.next ?_
                refine WP.condF rfl ?_
                refine WP.region [0, 1] rfl ?_
                refine WP.split rfl rfl rfl rfl (Yld.eql rfl rfl rfl) (fun k4 => ?_) (fun k4 => ?_)
                · refine WP.val rfl rfl rfl rfl (Yld.assign rfl rfl) ?_
                  refine WP.nil ?_
                  refine WP.sub [(0, _), (4, _), (5, _), (6, _), (7, _), (8, _), (9, _), (25, _), (37, _), (46, _), (53, _), (58, _)] ?_ ⟨rfl, rfl, rfl, rfl, rfl, rfl, rfl, rfl, rfl, rfl, rfl, rfl, trivial⟩
                  refine WP.next ?_
                  refine WP.condT rfl ?_
                  refine WP.seq ?_
                  refine WP.region [0, 1, 2, 3, 4, 5, 6, 7, 8] rfl ?_
                  refine WP.val rfl rfl rfl rfl (Yld.move rfl rfl) ?_
                  refine WP.val rfl rfl rfl rfl (Yld.move rfl rfl) ?_
                  refine WP.loud rfl rfl ?_
                  refine Op.call (tabT_LoadAny hT) rfl Try.func30 rfl rfl rfl rfl (by repeat (first | exact Take.nil | with_reducible apply Take.cons | apply Take.app | exact Rm.chunk | exact Rm.here | exact Rm.nil0 | apply Rm.skip | apply Rm.skipS | (focus (apply Take.all; (repeat (first | exact Rm.chunk | exact Rm.here | exact Rm.nil0 | apply Rm.skip | apply Rm.skipS)); done)) | apply Take.cons)) ?_
                  rintro v J3 L3 hJ3 ⟨e3, cs3, er3, rfl, hre3, hT3, hor3⟩
                  try simp only [List.cons_append, List.nil_append, List.append_assoc]
                  have hbo3 := hJ3.2 _ _ hbo
                  obtain ⟨vn3, vw3, nv3, rfl, hvn3, hvo3, hvw3⟩ := hre3.ex
                  obtain ⟨An3, cn3, rfl, hcn3⟩ := hvn3.slice'
                  obtain ⟨Aw3, cw3, rfl, hcw3⟩ := hvw3.slice'
                  refine WP.val rfl rfl rfl rfl (Yld.move rfl rfl) ?_
                  refine WP.val rfl rfl rfl rfl (Yld.extract rfl rfl rfl) ?_
                  refine WP.val rfl rfl rfl rfl (Yld.extract rfl rfl rfl) ?_
                  refine WP.loud rfl rfl ?_
                  refine Op.alloc rfl rfl rfl ty_zr_63 (fun b10 => ?_)
                  refine WP.loud rfl rfl ?_
                  refine Op.storeAll rfl rfl ty_sz_63 rfl rfl rfl rfl (by repeat (first | exact Upd.head | apply Upd.tail | apply Upd.tailS)) rfl ?_
                  refine WP.val rfl rfl rfl rfl (Yld.assign rfl rfl) ?_
                  refine WP.nil ?_
                  refine WP.sub [(0, _), (4, _), (5, _), (6, _), (7, _), (8, _), (9, _), (10, _), (11, _), (25, _), (37, _), (46, _), (53, _), (58, _)] ?_ ⟨rfl, rfl, rfl, rfl, rfl, rfl, rfl, rfl, rfl, rfl, rfl, rfl, rfl, rfl, trivial⟩
                  refine WP.next ?_
                  refine WP.seq ?_
                  refine WP.seq ?_
                  refine WP.region [0, 1] rfl ?_
                  refine WP.val rfl rfl rfl rfl (Yld.move rfl rfl) ?_
                  refine WP.split rfl rfl rfl rfl (Yld.eql rfl rfl rfl) (fun hz => ?_) (fun hz => ?_)
                  · refine WP.nil ?_
                    refine WP.sub [(0, _), (4, _), (5, _), (6, _), (7, _), (8, _), (9, _), (10, _), (11, _), (25, _), (37, _), (46, _), (53, _), (58, _), (69, _)] ?_ ⟨rfl, rfl, rfl, rfl, rfl, rfl, rfl, rfl, rfl, rfl, rfl, rfl, rfl, rfl, rfl, trivial⟩
                    refine WP.next ?_
                    refine WP.condT rfl ?_
                    refine WQ.start Trymixed 9 (by kernel_rfl) _ rfl [9, 10] rfl ?_
                    refine WQ.val rfl rfl rfl (Yld.move rfl rfl) ?_
                    refine WQ.val rfl rfl rfl (Yld.move rfl rfl) ?_
                    refine WQ.val rfl rfl rfl (Yld.fieldAddr rfl ty_fd_63_0 rfl) ?_
                    refine WQ.val rfl rfl rfl (Yld.load rfl ty_sc_60 rfl (by repeat (first | exact There.h | exact There.i (by assumption) | apply There.t | apply There.s)) rfl) ?_
                    refine WQ.val rfl rfl rfl (Yld.move rfl rfl) ?_
                    refine WQ.val rfl rfl rfl (Yld.move rfl rfl) ?_
                    refine WQ.val rfl rfl rfl (Yld.indexAddr (i := i) rfl ty_sl_71 rfl rfl hio) ?_
                    refine WQ.val rfl rfl rfl (Yld.fieldAddr rfl ty_fd_73_3 rfl) ?_
                    refine WQ.val rfl rfl rfl (Yld.loadAggC rfl ty_ag_63 rfl (There.i hbo3) hE hEl) ?_
                    refine WQ.nil ?_
                    refine WP.loud rfl rfl ?_
                    refine Op.call (tabT_SwapAny (tk := e3.tok) hT3 (hRE.mono hJ3) hszi (by omega)) rfl Try.func31 rfl rfl rfl rfl (by repeat (first | exact Take.nil | with_reducible apply Take.cons | apply Take.app | exact Rm.chunk | exact Rm.here | exact Rm.nil0 | apply Rm.skip | apply Rm.skipS | (focus (apply Take.all; (repeat (first | exact Rm.chunk | exact Rm.here | exact Rm.nil0 | apply Rm.skip | apply Rm.skipS)); done)) | apply Take.cons)) ?_
                    rintro v J5 L5 hJ5 ⟨x5, er5, rfl, hT5, hor5⟩
                    try simp only [List.cons_append, List.nil_append, List.append_assoc]
                    refine WP.val rfl rfl rfl rfl (Yld.assign rfl rfl) ?_
                    refine WP.nil ?_
                    refine WP.sub [(0, _), (4, _), (5, _), (6, _), (7, _), (8, _), (9, _), (10, _), (11, _), (25, _), (37, _), (46, _), (53, _), (58, _), (69, _)] ?_ ⟨rfl, rfl, rfl, rfl, rfl, rfl, rfl, rfl, rfl, rfl, rfl, rfl, rfl, rfl, rfl, trivial⟩
                    refine WP.next ?_
                    refine WP.region [0, 1, 2] rfl ?_
                    refine WP.val rfl rfl rfl rfl (Yld.move rfl rfl) ?_
                    refine WP.val rfl rfl rfl rfl (Yld.eql rfl rfl rfl true (decide_eq_true (by omega))) ?_
                    refine WP.val rfl rfl rfl rfl (Yld.assign rfl rfl) ?_
                    refine WP.nil ?_
                    refine WP.sub [(0, _), (4, _), (5, _), (6, _), (7, _), (8, _), (9, _), (10, _), (11, _), (25, _), (37, _), (46, _), (53, _), (58, _), (69, _)] ?_ ⟨rfl, rfl, rfl, rfl, rfl, rfl, rfl, rfl, rfl, rfl, rfl, rfl, rfl, rfl, rfl, trivial⟩
                    refine WP.leave ?_
                    have htk5 : last ≤ x5.tok ∧ x5.tok ≤ i + 1 ∧ (er5 = 0 → ∃ b e, x5.get ops[i].page = some (b, e) ∧ e.tok = x5.tok ∧ last < x5.tok) := by
                      rcases hor5 with ⟨h0, hu⟩ | ⟨h0, h⟩
                      · have := hu.tok
                        obtain ⟨b, e', h1, h2⟩ := Swapped.tok2 hu
                        exact ⟨by omega, by omega, fun _ => ⟨b, e', h1, h2, by omega⟩⟩
                      · rw [h]; exact ⟨by omega, by omega, fun he => absurd he (by omega)⟩
                    have hok : TK2.ok I t last ⟨x5, J5, L5, ops[i].page, er5, true⟩ (i + 1) := ⟨Imm.le_trans hle2 (Imm.le_trans hJ3 hJ5), hT5, htk5.1, htk5.2.1, fun h _ => htk5.2.2 h⟩
                    exact WP.meet (⟨x5, J5, L5, ops[i].page, er5, true⟩ : TK2) hok ⟨rfl, rfl, rfl, rfl, rfl, rfl, rfl, trivial⟩ rfl (by (try simp only [List.append_eq, List.cons_append, List.nil_append, List.append_assoc]); repeat (first | exact Rm.chunk | exact Rm.here | exact Rm.nil0 | apply Rm.skip | apply Rm.skipS | apply PX.cons | (apply PX.done; (repeat (first | exact Leave.done | apply Leave.drop | apply Leave.dropS)); done) | apply PX.app))
                  · refine WP.nil ?_
                    refine WP.sub [(0, _), (4, _), (5, _), (6, _), (7, _), (8, _), (9, _), (10, _), (11, _), (25, _), (37, _), (46, _), (53, _), (58, _), (69, _)] ?_ ⟨rfl, rfl, rfl, rfl, rfl, rfl, rfl, rfl, rfl, rfl, rfl, rfl, rfl, rfl, rfl, trivial⟩
                    refine WP.next ?_
                    refine WP.condF rfl ?_
                    refine WP.skip ?_
                    refine WP.next ?_
                    refine WP.region [0, 1, 2] rfl ?_
                    refine WP.val rfl rfl rfl rfl (Yld.move rfl rfl) ?_
                    refine WP.val rfl rfl rfl rfl (Yld.eql rfl rfl rfl false (decide_eq_false (by omega))) ?_
                    refine WP.val rfl rfl rfl rfl (Yld.assign rfl rfl) ?_
                    refine WP.nil ?_
                    refine WP.sub [(0, _), (4, _), (5, _), (6, _), (7, _), (8, _), (9, _), (10, _), (11, _), (25, _), (37, _), (46, _), (53, _), (58, _), (69, _)] ?_ ⟨rfl, rfl, rfl, rfl, rfl, rfl, rfl, rfl, rfl, rfl, rfl, rfl, rfl, rfl, rfl, trivial⟩
                    refine WP.leave ?_
                    have hok : TK2.ok I t last ⟨x, J3, L3, ops[i].page, 0, false⟩ (i + 1) := ⟨Imm.le_trans hle2 hJ3, hT3, (show last ≤ x.tok from hlt2), (show x.tok ≤ i + 1 by omega), fun _ h => (by cases h)⟩
                    exact WP.meet (⟨x, J3, L3, ops[i].page, 0, false⟩ : TK2) hok ⟨rfl, rfl, rfl, rfl, rfl, rfl, rfl, trivial⟩ rfl (by (try simp only [List.append_eq, List.cons_append, List.nil_append, List.append_assoc]); repeat (first | exact Rm.chunk | exact Rm.here | exact Rm.nil0 | apply Rm.skip | apply Rm.skipS | apply PX.cons | (apply PX.done; (repeat (first | exact Leave.done | apply Leave.drop | apply Leave.dropS)); done) | apply PX.app))
                · refine WP.val rfl rfl rfl rfl (Yld.assign rfl rfl) ?_
                  refine WP.nil ?_
                  refine WP.sub [(0, _), (4, _), (5, _), (6, _), (7, _), (8, _), (9, _), (25, _), (37, _), (46, _), (53, _), (58, _)] ?_ ⟨rfl, rfl, rfl, rfl, rfl, rfl, rfl, rfl, rfl, rfl, rfl, rfl, trivial⟩
                  refine WP.next ?_
                  refine WP.condF rfl ?_
                  refine WP.region [0, 1, 2, 3, 4, 5, 6, 7, 8] rfl ?_
                  refine WP.val rfl rfl rfl rfl (Yld.move rfl rfl) ?_
                  refine WP.val rfl rfl rfl rfl (Yld.move rfl rfl) ?_
                  refine WP.val rfl rfl rfl rfl (Yld.move rfl rfl) ?_
                  refine WP.val rfl rfl rfl rfl (Yld.move rfl rfl) ?_
                  refine WP.val rfl rfl rfl rfl (Yld.indexAddr (i := i) rfl ty_sl_71 rfl rfl hio) ?_
                  refine WP.val rfl rfl rfl rfl (Yld.fieldAddr rfl ty_fd_73_3 rfl) ?_
                  refine WP.val rfl rfl rfl rfl (Yld.loadAggC rfl ty_ag_63 rfl (There.i hbo) hE hEl) ?_
                  refine WP.loud rfl rfl ?_
                  refine Op.call (tabT_PutAny hT hRE hszi (by omega)) rfl Try.func33 rfl rfl rfl rfl (by repeat (first | exact Take.nil | with_reducible apply Take.cons | apply Take.app | exact Rm.chunk | exact Rm.here | exact Rm.nil0 | apply Rm.skip | apply Rm.skipS | (focus (apply Take.all; (repeat (first | exact Rm.chunk | exact Rm.here | exact Rm.nil0 | apply Rm.skip | apply Rm.skipS)); done)) | apply Take.cons)) ?_
                  rintro v J5 L5 hJ5 ⟨x5, er5, rfl, hT5, hor5⟩
                  try simp only [List.cons_append, List.nil_append, List.append_assoc]
                  refine WP.val rfl rfl rfl rfl (Yld.assign rfl rfl) ?_
                  refine WP.nil ?_
                  refine WP.sub [(0, _), (4, _), (5, _), (6, _), (7, _), (8, _), (9, _), (25, _), (37, _), (46, _), (53, _), (58, _)] ?_ ⟨rfl, rfl, rfl, rfl, rfl, rfl, rfl, rfl, rfl, rfl, rfl, rfl, trivial⟩
                  refine WP.leave ?_
                  have htk5 : last ≤ x5.tok ∧ x5.tok ≤ i + 1 ∧ (er5 = 0 → ∃ b e, x5.get ops[i].page = some (b, e) ∧ e.tok = x5.tok ∧ last < x5.tok) := by
                    rcases hor5 with ⟨h0, _, hu⟩ | ⟨h0, _, h⟩
                    · have := hu.tok
                      obtain ⟨b, e', h1, h2⟩ := Used.tok2 hu
                      exact ⟨by omega, by omega, fun _ => ⟨b, e', h1, h2, by omega⟩⟩
                    · rw [h]; exact ⟨by omega, by omega, fun he => absurd he (by omega)⟩
                  have hok : TK2.ok I t last ⟨x5, J5, L5, ops[i].page, er5, true⟩ (i + 1) := ⟨Imm.le_trans hle2 hJ5, hT5, htk5.1, htk5.2.1, fun h _ => htk5.2.2 h⟩
                  exact WP.meet (⟨x5, J5, L5, ops[i].page, er5, true⟩ : TK2) hok ⟨rfl, rfl, rfl, rfl, rfl, rfl, rfl, trivial⟩ rfl (by (try simp only [List.append_eq, List.cons_append, List.nil_append, List.append_assoc]); repeat (first | exact Rm.chunk | exact Rm.here | exact Rm.nil0 | apply Rm.skip | apply Rm.skipS | apply PX.cons | (apply PX.done; (repeat (first | exact Leave.done | apply Leave.drop | apply Leave.dropS)); done) | apply PX.app))
      · rintro ⟨x6, J6, L6, pg, er, lv⟩ hok6; try dsimp only
        refine WP.seq ?_
        refine WP.seq ?_
        by_cases hb_lv : lv = true
        · subst hb_lv
          refine WP.region [0, 1, 2, 3, 4, 5] rfl ?_
          refine WP.val rfl rfl rfl rfl (Yld.move rfl rfl) ?_
          refine WP.split rfl rfl rfl rfl (Yld.neq rfl rfl rfl) (fun her => ?_) (fun her => ?_)
          · refine WP.val rfl rfl rfl rfl (Yld.move rfl rfl) ?_
            refine WP.passG rfl rfl rfl rfl rfl rfl rfl rfl ?_
            refine WP.passG rfl rfl rfl rfl rfl rfl rfl rfl ?_
            refine WP.val rfl rfl rfl rfl (Yld.pickT rfl rfl rfl) ?_
            refine WP.nil ?_
            refine WP.sub [(0, _), (4, _), (5, _), (6, _), (7, _), (8, _), (9, _), (87, _)] ?_ ⟨rfl, rfl, rfl, rfl, rfl, rfl, rfl, rfl, trivial⟩
            refine WP.next ?_
            refine WP.condT rfl ?_
            refine WP.exit ?_
            refine WP.thenE ?_
            refine WP.hit ?_
            exact WP.meet (⟨x6, J6, L6, last⟩ : TK) ⟨hok6.le, hok6.tab, hok6.lt, hok6.tk⟩ ⟨rfl, rfl, rfl, rfl, trivial⟩ rfl (by (try simp only [List.append_eq, List.cons_append, List.nil_append, List.append_assoc]); repeat (first | exact Rm.chunk | exact Rm.here | exact Rm.nil0 | apply Rm.skip | apply Rm.skipS | apply PX.cons | (apply PX.done; (repeat (first | exact Leave.done | apply Leave.drop | apply Leave.dropS)); done) | apply PX.app))
          · have her0 : er = 0 := by omega
            refine WP.val rfl rfl rfl rfl (Yld.move rfl rfl) ?_
            refine WP.valG rfl rfl rfl rfl rfl rfl rfl (Yld.move rfl rfl) ?_
            refine WP.valG rfl rfl rfl rfl rfl rfl rfl (Yld.not rfl rfl) ?_
            refine WP.val rfl rfl rfl rfl (Yld.pickF rfl rfl rfl) ?_
            refine WP.nil ?_
            refine WP.sub [(0, _), (4, _), (5, _), (6, _), (7, _), (8, _), (9, _), (87, _)] ?_ ⟨rfl, rfl, rfl, rfl, rfl, rfl, rfl, rfl, trivial⟩
            refine WP.next ?_
            refine WP.condF rfl ?_
            refine WP.skip ?_
            refine WP.next ?_
            refine WP.seq ?_
            obtain ⟨b6, e6, hg6, he6, hl6⟩ := hok6.new her0 rfl
            dsimp only at hg6 he6 hl6
            have hT6 : IsT J6 t x6 L6 := hok6.tab
            refine WP.region [0, 1, 2, 3, 4, 5, 6, 7, 8] rfl ?_
            refine WP.val rfl rfl rfl rfl (Yld.move rfl rfl) ?_
            refine WP.val rfl rfl rfl rfl (Yld.move rfl rfl) ?_
            refine WP.loud rfl rfl ?_
            refine Op.call (tabT_Load1 hT6 hg6) rfl Try.func30 rfl rfl rfl rfl (by repeat (first | exact Take.nil | with_reducible apply Take.cons | apply Take.app | exact Rm.chunk | exact Rm.here | exact Rm.nil0 | apply Rm.skip | apply Rm.skipS | (focus (apply Take.all; (repeat (first | exact Rm.chunk | exact Rm.here | exact Rm.nil0 | apply Rm.skip | apply Rm.skipS)); done)) | apply Take.cons)) ?_
            rintro v J7 L7 hJ7 ⟨cs7, rfl, hre7, hT7⟩
            try simp only [List.cons_append, List.nil_append, List.append_assoc]
            obtain ⟨vn7, vw7, nv7, rfl, hvn7, hvo7, hvw7⟩ := hre7.ex
            obtain ⟨An7, cn7, rfl, hcn7⟩ := hvn7.slice'
            obtain ⟨Aw7, cw7, rfl, hcw7⟩ := hvw7.slice'
            refine WP.val rfl rfl rfl rfl (Yld.move rfl rfl) ?_
            refine WP.val rfl rfl rfl rfl (Yld.extract rfl rfl rfl) ?_
            refine WP.val rfl rfl rfl rfl (Yld.extract rfl rfl rfl) ?_
            refine WP.loud rfl rfl ?_
            refine Op.alloc rfl rfl rfl ty_zr_63 (fun b12 => ?_)
            refine WP.loud rfl rfl ?_
            refine Op.storeAll rfl rfl ty_sz_63 rfl rfl rfl rfl (by repeat (first | exact Upd.head | apply Upd.tail | apply Upd.tailS)) rfl ?_
            refine WP.val rfl rfl rfl rfl (Yld.assign rfl rfl) ?_
            refine WP.nil ?_
            refine WP.sub [(0, _), (4, _), (5, _), (6, _), (7, _), (8, _), (9, _), (12, _), (13, _), (87, _)] ?_ ⟨rfl, rfl, rfl, rfl, rfl, rfl, rfl, rfl, rfl, rfl, trivial⟩
            refine WP.next ?_
            refine WP.seq ?_
            refine WP.seq ?_
            refine WP.region [0, 1, 2, 3, 4, 5, 6, 7] rfl ?_
            refine WP.val rfl rfl rfl rfl (Yld.move rfl rfl) ?_
            refine WP.val rfl rfl rfl rfl (Yld.neq rfl rfl rfl false (decide_eq_false (by omega))) ?_
            refine WP.val rfl rfl rfl rfl (Yld.move rfl rfl) ?_
            refine WP.valG rfl rfl rfl rfl rfl rfl rfl (Yld.fieldAddr rfl ty_fd_63_0 rfl) ?_
            refine WP.valG rfl rfl rfl rfl rfl rfl rfl (Yld.load rfl ty_sc_60 rfl (by repeat (first | exact There.h | exact There.i (by assumption) | apply There.t | apply There.s)) rfl) ?_
            refine WP.valG rfl rfl rfl rfl rfl rfl rfl (Yld.move rfl rfl) ?_
            refine WP.valG rfl rfl rfl rfl rfl rfl rfl (Yld.leq rfl rfl rfl false (decide_eq_false (by exact (show ¬ ((e6.tok : Nat) : Int) ≤ (last : Int) by omega)))) ?_
            refine WP.val rfl rfl rfl rfl (Yld.pickF rfl rfl rfl) ?_
            refine WP.nil ?_
            refine WP.sub [(0, _), (4, _), (5, _), (6, _), (7, _), (8, _), (9, _), (12, _), (13, _), (87, _), (101, _)] ?_ ⟨rfl, rfl, rfl, rfl, rfl, rfl, rfl, rfl, rfl, rfl, rfl, trivial⟩
            refine WP.next ?_
            refine WP.condF rfl ?_
            refine WP.skip ?_
            refine WP.next ?_
            refine WP.region [0, 1, 2] rfl ?_
            refine WP.val rfl rfl rfl rfl (Yld.fieldAddr rfl ty_fd_63_0 rfl) ?_
            refine WP.val rfl rfl rfl rfl (Yld.load rfl ty_sc_60 rfl (by repeat (first | exact There.h | exact There.i (by assumption) | apply There.t | apply There.s)) rfl) ?_
            refine WP.val rfl rfl rfl rfl (Yld.assign rfl rfl) ?_
            refine WP.nil ?_
            refine WP.sub [(0, _), (4, _), (5, _), (6, _), (7, _), (8, _), (9, _), (12, _), (13, _), (87, _), (101, _)] ?_ ⟨rfl, rfl, rfl, rfl, rfl, rfl, rfl, rfl, rfl, rfl, rfl, trivial⟩
            refine WP.leave ?_
            exact WP.meet (⟨x6, J7, L7, e6.tok⟩ : TK) ⟨Imm.le_trans hok6.le hJ7, hT7, Nat.le_of_eq he6, hok6.tk⟩ ⟨rfl, rfl, rfl, rfl, trivial⟩ rfl (by (try simp only [List.append_eq, List.cons_append, List.nil_append, List.append_assoc]); repeat (first | exact Rm.chunk | exact Rm.here | exact Rm.nil0 | apply Rm.skip | apply Rm.skipS | apply PX.cons | (apply PX.done; (repeat (first | exact Leave.done | apply Leave.drop | apply Leave.dropS)); done) | apply PX.app))
        · obtain rfl : lv = false := by simpa using hb_lv
          refine WP.region [0, 1, 2, 3, 4, 5] rfl ?_
          refine WP.val rfl rfl rfl rfl (Yld.move rfl rfl) ?_
          refine WP.split rfl rfl rfl rfl (Yld.neq rfl rfl rfl) (fun her => ?_) (fun her => ?_)
          · refine WP.val rfl rfl rfl rfl (Yld.move rfl rfl) ?_
            refine WP.passG rfl rfl rfl rfl rfl rfl rfl rfl ?_
            refine WP.passG rfl rfl rfl rfl rfl rfl rfl rfl ?_
            refine WP.val rfl rfl rfl rfl (Yld.pickT rfl rfl rfl) ?_
            refine WP.nil ?_
            refine WP.sub [(0, _), (4, _), (5, _), (6, _), (7, _), (8, _), (9, _), (87, _)] ?_ ⟨rfl, rfl, rfl, rfl, rfl, rfl, rfl, rfl, trivial⟩
            refine WP.next ?_
            refine WP.condT rfl ?_
            refine WP.exit ?_
            refine WP.thenE ?_
            refine WP.hit ?_
            exact WP.meet (⟨x6, J6, L6, last⟩ : TK) ⟨hok6.le, hok6.tab, hok6.lt, hok6.tk⟩ ⟨rfl, rfl, rfl, rfl, trivial⟩ rfl (by (try simp only [List.append_eq, List.cons_append, List.nil_append, List.append_assoc]); repeat (first | exact Rm.chunk | exact Rm.here | exact Rm.nil0 | apply Rm.skip | apply Rm.skipS | apply PX.cons | (apply PX.done; (repeat (first | exact Leave.done | apply Leave.drop | apply Leave.dropS)); done) | apply PX.app))
          · have her0 : er = 0 := by omega
            refine WP.val rfl rfl rfl rfl (Yld.move rfl rfl) ?_
            refine WP.valG rfl rfl rfl rfl rfl rfl rfl (Yld.move rfl rfl) ?_
            refine WP.valG rfl rfl rfl rfl rfl rfl rfl (Yld.not rfl rfl) ?_
            refine WP.val rfl rfl rfl rfl (Yld.pickF rfl rfl rfl) ?_
            refine WP.nil ?_
            refine WP.sub [(0, _), (4, _), (5, _), (6, _), (7, _), (8, _), (9, _), (87, _)] ?_ ⟨rfl, rfl, rfl, rfl, rfl, rfl, rfl, rfl, trivial⟩
            refine WP.next ?_
            refine WP.condT rfl ?_
            refine WP.exit ?_
            refine WP.thenE ?_
            refine WP.hit ?_
            exact WP.meet (⟨x6, J6, L6, last⟩ : TK) ⟨hok6.le, hok6.tab, hok6.lt, hok6.tk⟩ ⟨rfl, rfl, rfl, rfl, trivial⟩ rfl (by (try simp only [List.append_eq, List.cons_append, List.nil_append, List.append_assoc]); repeat (first | exact Rm.chunk | exact Rm.here | exact Rm.nil0 | apply Rm.skip | apply Rm.skipS | apply PX.cons | (apply PX.done; (repeat (first | exact Leave.done | apply Leave.drop | apply Leave.dropS)); done) | apply PX.app))
    · intro u hu
      refine WP.region [0, 1, 2] rfl ?_
      refine WP.val rfl rfl rfl rfl (Yld.move rfl rfl) ?_
      refine WP.val rfl rfl rfl rfl (Yld.add64 rfl rfl rfl (by omega)) ?_
      refine WP.val rfl rfl rfl rfl (Yld.assign rfl rfl) ?_
      refine WP.nil ?_
      refine WP.sub [(0, _), (4, _), (5, _), (6, _)] ?_ ⟨rfl, rfl, rfl, rfl, trivial⟩
      exact WP.again (u, i + 1) ⟨hio, hu⟩ (show ops.length - (i + 1) < ops.length - i by omega) ⟨rfl, rfl, rfl, rfl, trivial⟩ rfl (by (try simp only [List.append_eq, List.cons_append, List.nil_append, List.append_assoc]); repeat (first | exact Rm.chunk | exact Rm.here | exact Rm.nil0 | apply Rm.skip | apply Rm.skipS | apply PX.cons | (apply PX.done; (repeat (first | exact Leave.done | apply Leave.drop | apply Leave.dropS)); done) | apply PX.app))
  · obtain rfl : i = ops.length := by omega
    refine WP.nil ?_
    refine WP.sub [(0, _), (4, _), (5, _), (6, _), (25, _)] ?_ ⟨rfl, rfl, rfl, rfl, rfl, trivial⟩
    refine WP.next ?_
    refine WP.condF rfl ?_
    refine WP.exit ?_
    refine WP.thenE ?_
    refine WP.thenE ?_
    refine WP.hit ?_
    refine WP.next ?_
    refine WP.seq ?_
    refine WP.region [0] rfl ?_
    refine WP.val rfl rfl rfl rfl (Yld.assign rfl rfl) ?_
    refine WP.nil ?_
    refine WP.next ?_
    refine WP.ret ?_
    refine WP.fin .ret (.inr rfl) (res1 rfl rfl) [] (by repeat (first | exact Take.nil | with_reducible apply Take.cons | apply Take.app | exact Rm.chunk | exact Rm.here | exact Rm.nil0 | apply Rm.skip | apply Rm.skipS | (focus (apply Take.all; (repeat (first | exact Rm.chunk | exact Rm.here | exact Rm.nil0 | apply Rm.skip | apply Rm.skipS)); done)) | apply Take.cons)) (by repeat (first | exact Leave.done | apply Leave.drop | apply Leave.dropS)) hle2 ?_
    exact ⟨rfl, rfl⟩


end Go.Hp
