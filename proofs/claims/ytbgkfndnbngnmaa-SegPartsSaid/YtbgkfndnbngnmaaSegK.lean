import Derived.Test.YtbgkfndnbngnmaaSegJ
set_option linter.unusedVariables false
set_option linter.unusedSimpArgs false
namespace Go.Hp
open Go Go.Proofs

structure SX where
  i : Nat
  J : Imm
  vo : Value
  l : List (Pt × Value)
  Lo : Chunks
structure SX.ok (I : Imm) (f : Nat → Pt × Int) (p stop : Nat) (t : SX) : Prop where
  le : p + t.i ≤ stop
  hJ : I.le t.J
  ow : Own 35 6 t.vo (pcells t.l) t.l.length t.Lo
  da : ∀ e ∈ t.l, SlRd (Im t.J) e.2 e.1.data.length 1 (bytesV e.1.data)
  ln : t.l.length = t.i
  eq : scanL f (stop - (p + t.i)) (p + t.i) (t.l.map (·.1)) = scanL f (stop - p) p []
theorem lastD_snoc (l : List Pt) (a : Pt) : (l ++ [a]).getLastD ptZ = a := by rw [List.getLastD_eq_getLast?, List.getLast?_concat]; rfl
theorem last_at : ∀ {l : List (Pt × Value)} (h : 0 < l.length), (l.map (·.1)).getLastD ptZ = (l[l.length - 1]'(by omega)).1 := fun {l} h => by
  have e : l = l.take (l.length - 1) ++ [l[l.length - 1]'(by omega)] := by
    conv => lhs; rw [← List.take_length (l := l), show l.length = (l.length - 1) + 1 by omega]
    rw [List.take_succ_eq_append_getElem (by omega)]
  have e2 : l.map (·.1) = (l.take (l.length - 1)).map (·.1) ++ [(l[l.length - 1]'(by omega)).1] := by
    conv => lhs; rw [e]
    rw [List.map_append]; rfl
  rw [e2, lastD_snoc]
set_option maxHeartbeats 1000000 in
theorem seg_Scan {I : Imm} {s d n : Nat} {g : Sg} {x : Dk} {L : Chunks} (hd : IsDisk d n x L) (hg : g.ok n) {p : Nat} (h1 : g.first * 8 ≤ p) (h2 : p ≤ (g.first + g.slots) * 8) (hoff : x.off = false) : Spec Try.prog 24 [.pointer (some ⟨s, 0, none⟩), .int .i64 (p : Int)] I ((s, row 71 (sgV d g)) :: L) (fun v J L' => ∃ vo l Lo, v = .tuple #[vo, .int .i64 0] ∧ l.map (·.1) = scanL (fun q => pstand x n g q) ((g.first + g.slots) * 8 - p) p [] ∧ Own 35 6 vo (pcells l) l.length Lo ∧ (∀ e ∈ l, SlRd (Im J) e.2 e.1.data.length 1 (bytesV e.1.data)) ∧ L' = Lo ++ ((s, row 71 (sgV d g)) :: L)) := by
  have hgb := hg.sb
  have hgf := hg.fs
  have hgn := hg.sn
  have hn8 := (disk_ok hd).n2
  refine Spec.of Try.func24 rfl Try.ntmps24 (Nat.le_of_ble_eq_true rfl) (fun F => ?_)
  try simp only [List.cons_append, List.nil_append, List.append_assoc]
  dsimp only [argsEnv]
  refine WP.seq ?_
  refine WP.region [0, 1] rfl ?_
  refine WP.val rfl rfl rfl rfl (Yld.assign rfl rfl) ?_
  refine WP.val rfl rfl rfl rfl (Yld.assign rfl rfl) ?_
  refine WP.nil ?_
  refine WP.next ?_
  refine WP.seq ?_
  refine WQ.startAll Trymixed (by kernel_rfl) _ rfl ?_
  refine WQ.val rfl rfl rfl (Yld.move rfl rfl) ?_
  refine WQ.val rfl rfl rfl (Yld.nilCheck rfl rfl) ?_
  refine WQ.val rfl rfl rfl (Yld.fieldAddr rfl ty_fd_71_2 rfl) ?_
  refine WQ.val rfl rfl rfl (Yld.load (v := .int .i64 (g.first : Int)) rfl ty_sc_3 rfl (by repeat (first | exact There.h | exact There.i (by assumption) | apply There.t | apply There.s)) rfl) ?_
  refine WQ.val rfl rfl rfl (Yld.move rfl rfl) ?_
  refine WQ.val rfl rfl rfl (Yld.nilCheck rfl rfl) ?_
  refine WQ.val rfl rfl rfl (Yld.fieldAddr rfl ty_fd_71_1 rfl) ?_
  refine WQ.val rfl rfl rfl (Yld.load (v := .int .i64 (g.slots : Int)) rfl ty_sc_3 rfl (by repeat (first | exact There.h | exact There.i (by assumption) | apply There.t | apply There.s)) rfl) ?_
  refine WQ.val rfl rfl rfl (Yld.add64 rfl rfl rfl (by have := hg.sb; have := hg.fs; omega)) ?_
  refine WQ.val rfl rfl rfl (Yld.mul64 rfl rfl rfl (by have := hg.sb; have := hg.fs; omega)) ?_
  refine WQ.val rfl rfl rfl (Yld.assign rfl rfl) ?_
  refine WQ.nil ?_
  refine WP.sub [(0, _), (1, _), (4, _), (5, _), (6, _)] ?_ ⟨rfl, rfl, rfl, rfl, rfl, trivial⟩
  refine WP.next ?_
  refine WP.seq ?_
  refine WP.seq ?_
  refine WP.region [0, 1, 2, 3, 4, 5, 6, 7, 8, 9, 10, 11] rfl ?_
  refine WP.val rfl rfl rfl rfl (Yld.move rfl rfl) ?_
  refine WP.val rfl rfl rfl rfl (Yld.move rfl rfl) ?_
  refine WP.val rfl rfl rfl rfl (Yld.nilCheck rfl rfl) ?_
  refine WP.val rfl rfl rfl rfl (Yld.fieldAddr rfl ty_fd_71_2 rfl) ?_
  refine WP.val rfl rfl rfl rfl (Yld.load (v := .int .i64 (g.first : Int)) rfl ty_sc_3 rfl (by repeat (first | exact There.h | exact There.i (by assumption) | apply There.t | apply There.s)) rfl) ?_
  refine WP.val rfl rfl rfl rfl (Yld.mul64 rfl rfl rfl (by have := hg.sb; have := hg.fs; omega)) ?_
  refine WP.val rfl rfl rfl rfl (Yld.lss rfl rfl rfl false (decide_eq_false (by omega))) ?_
  refine WP.val rfl rfl rfl rfl (Yld.move rfl rfl) ?_
  refine WP.valG rfl rfl rfl rfl rfl rfl rfl (Yld.move rfl rfl) ?_
  refine WP.valG rfl rfl rfl rfl rfl rfl rfl (Yld.move rfl rfl) ?_
  refine WP.valG rfl rfl rfl rfl rfl rfl rfl (Yld.gtr rfl rfl rfl false (decide_eq_false (by omega))) ?_
  refine WP.val rfl rfl rfl rfl (Yld.pickF rfl rfl rfl) ?_
  refine WP.nil ?_
  refine WP.sub [(0, _), (1, _), (4, _), (5, _), (6, _), (31, _)] ?_ ⟨rfl, rfl, rfl, rfl, rfl, rfl, trivial⟩
  refine WP.next ?_
  refine WP.condF rfl ?_
  refine WP.skip ?_
  refine WP.next ?_
  refine WP.seq ?_
  refine WP.seq ?_
  refine WP.region [0, 1, 2, 3, 4, 5] rfl ?_
  refine WP.val rfl rfl rfl rfl (Yld.move rfl rfl) ?_
  refine WP.val rfl rfl rfl rfl (Yld.nilCheck rfl rfl) ?_
  refine WP.val rfl rfl rfl rfl (Yld.fieldAddr rfl ty_fd_71_0 rfl) ?_
  refine WP.val rfl rfl rfl rfl (Yld.load (v := .pointer (some ⟨d, 0, none⟩)) rfl ty_sc_41 rfl (by repeat (first | exact There.h | exact There.i (by assumption) | apply There.t | apply There.s)) rfl) ?_
  refine WP.loud rfl rfl ?_
  refine Op.call (disk_On hd) rfl Try.func47 rfl rfl rfl rfl (by repeat (first | exact Take.nil | with_reducible apply Take.cons | apply Take.app | exact Rm.chunk | exact Rm.here | exact Rm.nil0 | apply Rm.skip | apply Rm.skipS | (focus (apply Take.all; (repeat (first | exact Rm.chunk | exact Rm.here | exact Rm.nil0 | apply Rm.skip | apply Rm.skipS)); done)) | apply Take.cons)) ?_
  rintro v J L hJ ⟨rfl, rfl, rfl⟩
  clear hJ; try simp only [List.cons_append, List.nil_append, List.append_assoc]
  rw [hoff]
  refine WP.val rfl rfl rfl rfl (Yld.not rfl rfl) ?_
  refine WP.nil ?_
  refine WP.sub [(0, _), (1, _), (4, _), (5, _), (6, _), (31, _), (37, _)] ?_ ⟨rfl, rfl, rfl, rfl, rfl, rfl, rfl, trivial⟩
  refine WP.next ?_
  refine WP.condF rfl ?_
  refine WP.skip ?_
  refine WP.next ?_
  refine WP.seq ?_
  refine WP.region [0] rfl ?_
  refine WP.val rfl rfl rfl rfl (Yld.assign rfl rfl) ?_
  refine WP.nil ?_
  refine WP.next ?_
  refine WP.seq ?_
  refine WP.block ?_
  refine WP.loop (X := SX) (fun t : SX => [(0, .pointer (some ⟨s, 0, none⟩)), (1, .int .i64 ((p + t.i : Nat) : Int)), (6, .int .i64 (((g.first + g.slots) * 8 : Nat) : Int)), (7, t.vo)]) (fun t => t.J) (fun t : SX => t.Lo ++ ((s, row 71 (sgV d g)) :: (L ++ F))) (fun t => t.ok I (fun q => pstand x n g q) p ((g.first + g.slots) * 8)) (fun t => (g.first + g.slots) * 8 - (p + t.i)) ⟨0, I, .slice none 0 0, [], []⟩ ⟨by simpa using h2, Imm.le_refl _, .none0, (fun e he => by cases he), rfl, rfl⟩ ⟨rfl, rfl, (congrArg (fun z : Int => some (Value.int .i64 z)) (by omega)), rfl, trivial⟩ rfl (by (try dsimp only); repeat (first | exact Rm.chunk | exact Rm.here | exact Rm.nil0 | apply Rm.skip | apply Rm.skipS | apply PX.cons | (apply PX.done; (repeat (first | exact Leave.done | apply Leave.drop | apply Leave.dropS)); done) | apply PX.app)) ?_
  rintro ⟨i, J, vo, l, Lo⟩ ⟨hle, hJ, how, hda, hln, heq⟩; dsimp only at hle hJ how hda hln heq; obtain ⟨Ao, co, rfl, _⟩ := how.slice
  try dsimp only
  try simp only [List.cons_append, List.nil_append, List.append_assoc]
  refine WP.seq ?_
  refine WP.seq ?_
  refine WP.region [0, 1, 2] rfl ?_
  refine WP.val rfl rfl rfl rfl (Yld.move rfl rfl) ?_
  refine WP.val rfl rfl rfl rfl (Yld.move rfl rfl) ?_
  refine WP.split rfl rfl rfl rfl (Yld.lss rfl rfl rfl) (fun hlt => ?_) (fun hlt => ?_)
  · refine WP.nil ?_
    refine WP.sub [(0, _), (1, _), (6, _), (7, _), (40, _)] ?_ ⟨rfl, rfl, rfl, rfl, rfl, trivial⟩
    refine WP.next ?_
    refine WP.condT rfl ?_
    refine WP.skip ?_
    refine WP.next ?_
    refine WP.seq ?_
    refine WP.block ?_
    refine WP.seq ?_
    refine WP.region [0, 1, 2, 3, 4, 5, 6, 7, 8] rfl ?_
    refine WP.val rfl rfl rfl rfl (Yld.move rfl rfl) ?_
    refine WP.val rfl rfl rfl rfl (Yld.move rfl rfl) ?_
    refine WP.loud rfl rfl ?_
    refine Op.call (seg_stands (p := p + i) hd hg (by have := hg.sb; have := hg.fs; have := hg.sn; have := (disk_ok hd).n2; omega)) rfl Try.func48 rfl rfl rfl rfl (by repeat (first | exact Take.nil | with_reducible apply Take.cons | apply Take.app | exact Rm.chunk | exact Rm.here | exact Rm.nil0 | apply Rm.skip | apply Rm.skipS | (focus (apply Take.all; (repeat (first | exact Rm.chunk | exact Rm.here | exact Rm.nil0 | apply Rm.skip | apply Rm.skipS)); done)) | apply Take.cons)) ?_
    rintro v J3 L1 hJ3 ⟨cs, rfl, hcs, rfl⟩
    try simp only [List.cons_append, List.nil_append, List.append_assoc]
    obtain ⟨va, rfl, hva⟩ := hcs
    refine WP.val rfl rfl rfl rfl (Yld.move rfl rfl) ?_
    refine WP.val rfl rfl rfl rfl (Yld.extract rfl rfl rfl) ?_
    refine WP.val rfl rfl rfl rfl (Yld.extract rfl rfl rfl) ?_
    refine WP.loud rfl rfl ?_
    refine Op.alloc rfl rfl rfl ty_zr_35 (fun b8 => ?_)
    refine WP.loud rfl rfl ?_
    refine Op.storeAll rfl rfl ty_sz_35 rfl rfl rfl (ptV_one (by obtain ⟨A', c', e, _⟩ := hva; exact ⟨_, _, _, e⟩)) (by repeat (first | exact Upd.head | apply Upd.tail | apply Upd.tailS)) rfl ?_
    refine WP.val rfl rfl rfl rfl (Yld.assign rfl rfl) ?_
    refine WP.nil ?_
    refine WP.sub [(0, _), (1, _), (6, _), (7, _), (8, _), (9, _), (40, _)] ?_ ⟨rfl, rfl, rfl, rfl, rfl, rfl, rfl, trivial⟩
    refine WP.next ?_
    refine WP.seq ?_
    refine WP.seq ?_
    refine WQ.startAll Trymixed (by kernel_rfl) _ rfl ?_
    refine WQ.val rfl rfl rfl (Yld.move rfl rfl) ?_
    refine WQ.split rfl rfl rfl (Yld.neq rfl rfl rfl) (fun he => ?_) (fun he => ?_)
    · refine WQ.val rfl rfl rfl (Yld.move rfl rfl) ?_
      refine WQ.passG rfl rfl rfl rfl rfl rfl rfl ?_
      refine WQ.passG rfl rfl rfl rfl rfl rfl rfl ?_
      refine WQ.passG rfl rfl rfl rfl rfl rfl rfl ?_
      refine WQ.passG rfl rfl rfl rfl rfl rfl rfl ?_
      refine WQ.passG rfl rfl rfl rfl rfl rfl rfl ?_
      refine WQ.passG rfl rfl rfl rfl rfl rfl rfl ?_
      refine WQ.passG rfl rfl rfl rfl rfl rfl rfl ?_
      refine WQ.passG rfl rfl rfl rfl rfl rfl rfl ?_
      refine WQ.passG rfl rfl rfl rfl rfl rfl rfl ?_
      refine WQ.passG rfl rfl rfl rfl rfl rfl rfl ?_
      refine WQ.passG rfl rfl rfl rfl rfl rfl rfl ?_
      refine WQ.passG rfl rfl rfl rfl rfl rfl rfl ?_
      refine WQ.passG rfl rfl rfl rfl rfl rfl rfl ?_
      refine WQ.passG rfl rfl rfl rfl rfl rfl rfl ?_
      refine WQ.passG rfl rfl rfl rfl rfl rfl rfl ?_
      refine WQ.val rfl rfl rfl (Yld.pickT rfl rfl rfl) ?_
      refine WQ.nil ?_
      refine WP.sub [(0, _), (1, _), (6, _), (7, _), (8, _), (9, _), (40, _), (67, _)] ?_ ⟨rfl, rfl, rfl, rfl, rfl, rfl, rfl, rfl, trivial⟩
      refine WP.next ?_
      refine WP.condT rfl ?_
      refine WP.exit ?_
      refine WP.thenE ?_
      refine WP.miss rfl ?_
      refine WP.thenE ?_
      refine WP.thenE ?_
      refine WP.hit ?_
      refine WP.next ?_
      refine WP.seq ?_
      refine WP.region [0, 1, 2] rfl ?_
      refine WP.val rfl rfl rfl rfl (Yld.move rfl rfl) ?_
      refine WP.val rfl rfl rfl rfl (Yld.assign rfl rfl) ?_
      refine WP.val rfl rfl rfl rfl (Yld.assign rfl rfl) ?_
      refine WP.nil ?_
      refine WP.sub [(0, _), (1, _), (4, _), (5, _), (6, _), (7, _), (8, _), (9, _), (40, _), (67, _)] ?_ ⟨rfl, rfl, rfl, rfl, rfl, rfl, rfl, rfl, rfl, rfl, trivial⟩
      refine WP.next ?_
      refine WP.ret ?_
      refine WP.fin .ret (.inr rfl) (res2 rfl rfl rfl) (Lo ++ ((s, row 71 (sgV d g)) :: L)) (by repeat (first | exact Take.nil | with_reducible apply Take.cons | apply Take.app | exact Rm.chunk | exact Rm.here | exact Rm.nil0 | apply Rm.skip | apply Rm.skipS | (focus (apply Take.all; (repeat (first | exact Rm.chunk | exact Rm.here | exact Rm.nil0 | apply Rm.skip | apply Rm.skipS)); done)) | apply Take.cons)) (by repeat (first | exact Leave.done | apply Leave.drop | apply Leave.dropS)) (Imm.le_trans hJ hJ3) ?_
      have hz : (g.first + g.slots) * 8 - (p + i) = ((g.first + g.slots) * 8 - (p + i + 1)) + 1 := by omega
      rw [hz, scanL, if_pos (.inl (by omega))] at heq
      exact ⟨_, _, _, rfl, heq, how, (fun e he => (hda e he).mono (fun b o h => hJ3.2 b o h)), rfl⟩
    · refine WQ.val rfl rfl rfl (Yld.move rfl rfl) ?_
      refine WQ.valG rfl rfl rfl rfl rfl rfl (Yld.move rfl rfl) ?_
      refine WQ.valG rfl rfl rfl rfl rfl rfl (Yld.len rfl ty_sl_23 rfl) ?_
      refine WQ.splitG rfl rfl rfl rfl rfl rfl (Yld.gtr rfl rfl rfl) (fun hl0 => ?_) (fun hl0 => ?_)
      · have hlp : 0 < l.length := by omega
        obtain ⟨bo, co', spo, e, rfl, _, _⟩ := how.get hlp
        obtain ⟨rfl, rfl⟩ : Ao = some ⟨bo, 0, none⟩ ∧ co = co' := by injection e with e1 _ e2; exact ⟨e1, e2⟩
        try simp only [List.cons_append, List.nil_append, List.append_assoc]
        refine WQ.valG rfl rfl rfl rfl rfl rfl (Yld.move rfl rfl) ?_
        refine WQ.valG rfl rfl rfl rfl rfl rfl (Yld.fieldAddr rfl ty_fd_35_3 rfl) ?_
        refine WQ.valG rfl rfl rfl rfl rfl rfl (Yld.load (v := .int .i64 (pstand x n g (p + i)).1.era) rfl ty_sc_3 rfl (by repeat (first | exact There.h | exact There.i (by assumption) | apply There.t | apply There.s)) rfl) ?_
        refine WQ.valG rfl rfl rfl rfl rfl rfl (Yld.move rfl rfl) ?_
        refine WQ.valG rfl rfl rfl rfl rfl rfl (Yld.move rfl rfl) ?_
        refine WQ.valG rfl rfl rfl rfl rfl rfl (Yld.len rfl ty_sl_23 rfl) ?_
        refine WQ.valG rfl rfl rfl rfl rfl rfl (Yld.sub64 rfl rfl rfl (by omega)) ?_
        refine WQ.valG rfl rfl rfl rfl rfl rfl (Yld.indexAddr (i := l.length - 1) rfl ty_sl_23 rfl (congrArg (fun z : Int => some (Value.int .i64 z)) (by omega)) (by omega)) ?_
        refine WQ.valG rfl rfl rfl rfl rfl rfl (Yld.fieldAddr rfl ty_fd_35_3 rfl) ?_
        refine WQ.valG rfl rfl rfl rfl rfl rfl (Yld.load (v := .int .i64 (l[l.length - 1]'(by omega)).1.era) rfl ty_sc_3 rfl (by repeat (first | exact There.h | exact There.i (by assumption) | apply There.t | apply There.s)) (flat_at pf_len (by omega) (by decide) spo rfl)) ?_
        refine WQ.splitG rfl rfl rfl rfl rfl rfl (Yld.lss rfl rfl rfl) (fun hlt2 => ?_) (fun hlt2 => ?_)
        · refine WQ.valG rfl rfl rfl rfl rfl rfl (Yld.pickT rfl rfl rfl) ?_
          refine WQ.val rfl rfl rfl (Yld.pickF rfl rfl rfl) ?_
          refine WQ.nil ?_
          refine WP.sub [(0, _), (1, _), (6, _), (7, _), (8, _), (9, _), (40, _), (67, _)] ?_ ⟨rfl, rfl, rfl, rfl, rfl, rfl, rfl, rfl, trivial⟩
          refine WP.next ?_
          refine WP.condT rfl ?_
          refine WP.exit ?_
          refine WP.thenE ?_
          refine WP.miss rfl ?_
          refine WP.thenE ?_
          refine WP.thenE ?_
          refine WP.hit ?_
          refine WP.next ?_
          refine WP.seq ?_
          refine WP.region [0, 1, 2] rfl ?_
          refine WP.val rfl rfl rfl rfl (Yld.move rfl rfl) ?_
          refine WP.val rfl rfl rfl rfl (Yld.assign rfl rfl) ?_
          refine WP.val rfl rfl rfl rfl (Yld.assign rfl rfl) ?_
          refine WP.nil ?_
          refine WP.sub [(0, _), (1, _), (4, _), (5, _), (6, _), (7, _), (8, _), (9, _), (40, _), (67, _)] ?_ ⟨rfl, rfl, rfl, rfl, rfl, rfl, rfl, rfl, rfl, rfl, trivial⟩
          refine WP.next ?_
          refine WP.ret ?_
          refine WP.fin .ret (.inr rfl) (res2 rfl rfl rfl) ([(bo, row 35 (pcells l ++ spo))] ++ ((s, row 71 (sgV d g)) :: L)) (by repeat (first | exact Take.nil | with_reducible apply Take.cons | apply Take.app | exact Rm.chunk | exact Rm.here | exact Rm.nil0 | apply Rm.skip | apply Rm.skipS | (focus (apply Take.all; (repeat (first | exact Rm.chunk | exact Rm.here | exact Rm.nil0 | apply Rm.skip | apply Rm.skipS)); done)) | apply Take.cons)) (by repeat (first | exact Leave.done | apply Leave.drop | apply Leave.dropS)) (Imm.le_trans hJ hJ3) ?_
          have hz : (g.first + g.slots) * 8 - (p + i) = ((g.first + g.slots) * 8 - (p + i + 1)) + 1 := by omega
          rw [hz, scanL, if_pos (.inr ⟨(fun e => by have := congrArg List.length e; simp at this; subst this; simp at hl0), (by rw [last_at (by omega)]; exact hlt2)⟩)] at heq
          exact ⟨_, _, _, rfl, heq, how, (fun e he => (hda e he).mono (fun b o h => hJ3.2 b o h)), rfl⟩
        · refine WQ.valG rfl rfl rfl rfl rfl rfl (Yld.pickT rfl rfl rfl) ?_
          refine WQ.val rfl rfl rfl (Yld.pickF rfl rfl rfl) ?_
          refine WQ.nil ?_
          refine WP.sub [(0, _), (1, _), (6, _), (7, _), (8, _), (9, _), (40, _), (67, _)] ?_ ⟨rfl, rfl, rfl, rfl, rfl, rfl, rfl, rfl, trivial⟩
          refine WP.next ?_
          refine WP.condF rfl ?_
          refine WP.skip ?_
          refine WP.next ?_
          refine WP.region [0, 1, 2, 3, 4] rfl ?_
          refine WP.val rfl rfl rfl rfl (Yld.move rfl rfl) ?_
          refine WP.val rfl rfl rfl rfl (Yld.loadAll rfl ty_ag_35 rfl (by repeat (first | exact There.h | exact There.i (by assumption) | apply There.t | apply There.s)) rfl) ?_
          refine WP.loud rfl rfl ?_
          refine Op.buildSlice rfl ty_sl_23 ty_el2_23 rfl rfl rfl rfl (vs := [_]) rfl (segs := [(0, pf ((pstand x n g (p + i)).1, va))]) (cs := pf ((pstand x n g (p + i)).1, va)) rfl rfl (.seg (Nat.le_refl _) rfl .nil) (fun bq => ?_)
          refine WP.loud rfl rfl ?_
          refine Op.append (m := 1) rfl ty_sl_23 ty_el_23 rfl rfl rfl rfl rfl how (SlRd.lit (m := 1) (by repeat (first | exact There.h | exact There.i (by assumption) | apply There.t | apply There.s)) rfl (Nat.le_refl _)) (by repeat (first | exact Take.nil | with_reducible apply Take.cons | apply Take.app | exact Rm.chunk | exact Rm.here | exact Rm.nil0 | apply Rm.skip | apply Rm.skipS | (focus (apply Take.all; (repeat (first | exact Rm.chunk | exact Rm.here | exact Rm.nil0 | apply Rm.skip | apply Rm.skipS)); done)) | apply Take.cons)) (ptV_one (by obtain ⟨A', c', e, _⟩ := hva; exact ⟨_, _, _, e⟩)) (by have := (disk_ok hd).n2; have := hg.sn; omega) (by have := (disk_ok hd).n2; have := hg.sn; omega) (fun vn Ln hn => ?_)
          try simp only [List.cons_append, List.nil_append, List.append_assoc]
          have hown2 : Own 35 6 vn (pcells (l ++ [((pstand x n g (p + i)).1, va)])) (l ++ [((pstand x n g (p + i)).1, va)]).length Ln := by rw [pcells_app, List.length_append]; exact hn
          have hda2 : ∀ e ∈ l ++ [((pstand x n g (p + i)).1, va)], SlRd (Im J3) e.2 e.1.data.length 1 (bytesV e.1.data) := fun e he => by rcases List.mem_append.1 he with he | he; exact (hda e he).mono (fun b o h => hJ3.2 b o h); rw [List.mem_singleton.1 he]; exact hva
          have heq2 : scanL (fun q => pstand x n g q) ((g.first + g.slots) * 8 - (p + (i + 1))) (p + (i + 1)) ((l ++ [((pstand x n g (p + i)).1, va)]).map (·.1)) = scanL (fun q => pstand x n g q) ((g.first + g.slots) * 8 - p) p [] := by rw [← heq, show (g.first + g.slots) * 8 - (p + i) = ((g.first + g.slots) * 8 - (p + (i + 1))) + 1 by omega, scanL, if_neg (by rintro (h | ⟨h1, h2⟩); exact h (by omega); exact (by rw [last_at (by omega)] at h2; exact hlt2 h2)), List.map_append]; rfl
          refine WP.val rfl rfl rfl rfl (Yld.assign rfl rfl) ?_
          refine WP.nil ?_
          refine WP.sub [(0, _), (1, _), (6, _), (7, _), (8, _), (9, _), (40, _), (67, _)] ?_ ⟨rfl, rfl, rfl, rfl, rfl, rfl, rfl, rfl, trivial⟩
          refine WP.leave ?_
          refine WP.next ?_
          refine WP.region [0, 1, 2] rfl ?_
          refine WP.val rfl rfl rfl rfl (Yld.move rfl rfl) ?_
          refine WP.val rfl rfl rfl rfl (Yld.add64 rfl rfl rfl (by omega)) ?_
          refine WP.val rfl rfl rfl rfl (Yld.assign rfl rfl) ?_
          refine WP.nil ?_
          refine WP.sub [(0, _), (1, _), (6, _), (7, _), (8, _), (9, _), (40, _), (67, _)] ?_ ⟨rfl, rfl, rfl, rfl, rfl, rfl, rfl, rfl, trivial⟩
          exact WP.again ⟨i + 1, J3, vn, l ++ [((pstand x n g (p + i)).1, va)], Ln⟩ ⟨(show p + (i + 1) ≤ (g.first + g.slots) * 8 by omega), Imm.le_trans hJ hJ3, hown2, hda2, (by rw [List.length_append, hln]; rfl), heq2⟩ (show (g.first + g.slots) * 8 - (p + (i + 1)) < (g.first + g.slots) * 8 - (p + i) by omega) ⟨rfl, (congrArg (fun z : Int => some (Value.int .i64 z)) (show ((p + i : Nat) : Int) + 1 = ((p + (i + 1) : Nat) : Int) by omega)), rfl, rfl, trivial⟩ rfl (by (try dsimp only); repeat (first | exact Rm.chunk | exact Rm.here | exact Rm.nil0 | apply Rm.skip | apply Rm.skipS | apply PX.cons | (apply PX.done; (repeat (first | exact Leave.done | apply Leave.drop | apply Leave.dropS)); done) | apply PX.app))
      · refine WQ.valG rfl rfl rfl rfl rfl rfl (Yld.move rfl rfl) ?_
        refine WQ.passG rfl rfl rfl rfl rfl rfl rfl ?_
        refine WQ.passG rfl rfl rfl rfl rfl rfl rfl ?_
        refine WQ.passG rfl rfl rfl rfl rfl rfl rfl ?_
        refine WQ.passG rfl rfl rfl rfl rfl rfl rfl ?_
        refine WQ.passG rfl rfl rfl rfl rfl rfl rfl ?_
        refine WQ.passG rfl rfl rfl rfl rfl rfl rfl ?_
        refine WQ.passG rfl rfl rfl rfl rfl rfl rfl ?_
        refine WQ.passG rfl rfl rfl rfl rfl rfl rfl ?_
        refine WQ.passG rfl rfl rfl rfl rfl rfl rfl ?_
        refine WQ.passG rfl rfl rfl rfl rfl rfl rfl ?_
        refine WQ.valG rfl rfl rfl rfl rfl rfl (Yld.pickF rfl rfl rfl) ?_
        refine WQ.val rfl rfl rfl (Yld.pickF rfl rfl rfl) ?_
        refine WQ.nil ?_
        refine WP.sub [(0, _), (1, _), (6, _), (7, _), (8, _), (9, _), (40, _), (67, _)] ?_ ⟨rfl, rfl, rfl, rfl, rfl, rfl, rfl, rfl, trivial⟩
        refine WP.next ?_
        refine WP.condF rfl ?_
        refine WP.skip ?_
        refine WP.next ?_
        refine WP.region [0, 1, 2, 3, 4] rfl ?_
        refine WP.val rfl rfl rfl rfl (Yld.move rfl rfl) ?_
        refine WP.val rfl rfl rfl rfl (Yld.loadAll rfl ty_ag_35 rfl (by repeat (first | exact There.h | exact There.i (by assumption) | apply There.t | apply There.s)) rfl) ?_
        refine WP.loud rfl rfl ?_
        refine Op.buildSlice rfl ty_sl_23 ty_el2_23 rfl rfl rfl rfl (vs := [_]) rfl (segs := [(0, pf ((pstand x n g (p + i)).1, va))]) (cs := pf ((pstand x n g (p + i)).1, va)) rfl rfl (.seg (Nat.le_refl _) rfl .nil) (fun bq => ?_)
        refine WP.loud rfl rfl ?_
        refine Op.append (m := 1) rfl ty_sl_23 ty_el_23 rfl rfl rfl rfl rfl how (SlRd.lit (m := 1) (by repeat (first | exact There.h | exact There.i (by assumption) | apply There.t | apply There.s)) rfl (Nat.le_refl _)) (by repeat (first | exact Take.nil | with_reducible apply Take.cons | apply Take.app | exact Rm.chunk | exact Rm.here | exact Rm.nil0 | apply Rm.skip | apply Rm.skipS | (focus (apply Take.all; (repeat (first | exact Rm.chunk | exact Rm.here | exact Rm.nil0 | apply Rm.skip | apply Rm.skipS)); done)) | apply Take.cons)) (ptV_one (by obtain ⟨A', c', e, _⟩ := hva; exact ⟨_, _, _, e⟩)) (by have := (disk_ok hd).n2; have := hg.sn; omega) (by have := (disk_ok hd).n2; have := hg.sn; omega) (fun vn Ln hn => ?_)
        try simp only [List.cons_append, List.nil_append, List.append_assoc]
        have hown2 : Own 35 6 vn (pcells (l ++ [((pstand x n g (p + i)).1, va)])) (l ++ [((pstand x n g (p + i)).1, va)]).length Ln := by rw [pcells_app, List.length_append]; exact hn
        have hda2 : ∀ e ∈ l ++ [((pstand x n g (p + i)).1, va)], SlRd (Im J3) e.2 e.1.data.length 1 (bytesV e.1.data) := fun e he => by rcases List.mem_append.1 he with he | he; exact (hda e he).mono (fun b o h => hJ3.2 b o h); rw [List.mem_singleton.1 he]; exact hva
        have heq2 : scanL (fun q => pstand x n g q) ((g.first + g.slots) * 8 - (p + (i + 1))) (p + (i + 1)) ((l ++ [((pstand x n g (p + i)).1, va)]).map (·.1)) = scanL (fun q => pstand x n g q) ((g.first + g.slots) * 8 - p) p [] := by rw [← heq, show (g.first + g.slots) * 8 - (p + i) = ((g.first + g.slots) * 8 - (p + (i + 1))) + 1 by omega, scanL, if_neg (by rintro (h | ⟨h1, h2⟩); exact h (by omega); exact h1 (by rw [List.eq_nil_of_length_eq_zero (show l.length = 0 by omega)]; rfl)), List.map_append]; rfl
        refine WP.val rfl rfl rfl rfl (Yld.assign rfl rfl) ?_
        refine WP.nil ?_
        refine WP.sub [(0, _), (1, _), (6, _), (7, _), (8, _), (9, _), (40, _), (67, _)] ?_ ⟨rfl, rfl, rfl, rfl, rfl, rfl, rfl, rfl, trivial⟩
        refine WP.leave ?_
        refine WP.next ?_
        refine WP.region [0, 1, 2] rfl ?_
        refine WP.val rfl rfl rfl rfl (Yld.move rfl rfl) ?_
        refine WP.val rfl rfl rfl rfl (Yld.add64 rfl rfl rfl (by omega)) ?_
        refine WP.val rfl rfl rfl rfl (Yld.assign rfl rfl) ?_
        refine WP.nil ?_
        refine WP.sub [(0, _), (1, _), (6, _), (7, _), (8, _), (9, _), (40, _), (67, _)] ?_ ⟨rfl, rfl, rfl, rfl, rfl, rfl, rfl, rfl, trivial⟩
        exact WP.again ⟨i + 1, J3, vn, l ++ [((pstand x n g (p + i)).1, va)], Ln⟩ ⟨(show p + (i + 1) ≤ (g.first + g.slots) * 8 by omega), Imm.le_trans hJ hJ3, hown2, hda2, (by rw [List.length_append, hln]; rfl), heq2⟩ (show (g.first + g.slots) * 8 - (p + (i + 1)) < (g.first + g.slots) * 8 - (p + i) by omega) ⟨rfl, (congrArg (fun z : Int => some (Value.int .i64 z)) (show ((p + i : Nat) : Int) + 1 = ((p + (i + 1) : Nat) : Int) by omega)), rfl, rfl, trivial⟩ rfl (by (try dsimp only); repeat (first | exact Rm.chunk | exact Rm.here | exact Rm.nil0 | apply Rm.skip | apply Rm.skipS | apply PX.cons | (apply PX.done; (repeat (first | exact Leave.done | apply Leave.drop | apply Leave.dropS)); done) | apply PX.app))
  · refine WP.nil ?_
    refine WP.sub [(0, _), (1, _), (6, _), (7, _), (40, _)] ?_ ⟨rfl, rfl, rfl, rfl, rfl, trivial⟩
    refine WP.next ?_
    refine WP.condF rfl ?_
    refine WP.exit ?_
    refine WP.thenE ?_
    refine WP.thenE ?_
    refine WP.hit ?_
    refine WP.next ?_
    refine WP.seq ?_
    refine WP.region [0, 1, 2] rfl ?_
    refine WP.val rfl rfl rfl rfl (Yld.move rfl rfl) ?_
    refine WP.val rfl rfl rfl rfl (Yld.assign rfl rfl) ?_
    refine WP.val rfl rfl rfl rfl (Yld.assign rfl rfl) ?_
    refine WP.nil ?_
    refine WP.sub [(0, _), (1, _), (4, _), (5, _), (6, _), (7, _), (40, _)] ?_ ⟨rfl, rfl, rfl, rfl, rfl, rfl, rfl, trivial⟩
    refine WP.next ?_
    refine WP.ret ?_
    refine WP.fin .ret (.inr rfl) (res2 rfl rfl rfl) (Lo ++ ((s, row 71 (sgV d g)) :: L)) (by repeat (first | exact Take.nil | with_reducible apply Take.cons | apply Take.app | exact Rm.chunk | exact Rm.here | exact Rm.nil0 | apply Rm.skip | apply Rm.skipS | (focus (apply Take.all; (repeat (first | exact Rm.chunk | exact Rm.here | exact Rm.nil0 | apply Rm.skip | apply Rm.skipS)); done)) | apply Take.cons)) (by repeat (first | exact Leave.done | apply Leave.drop | apply Leave.dropS)) hJ ?_
    have hz : (g.first + g.slots) * 8 - (p + i) = 0 := by omega
    rw [hz, scanL] at heq
    exact ⟨_, _, _, rfl, heq, how, hda, rfl⟩


end Go.Hp
