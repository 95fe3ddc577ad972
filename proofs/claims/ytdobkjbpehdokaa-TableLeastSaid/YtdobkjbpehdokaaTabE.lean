import Derived.Test.YtdobkjbpehdokaaTabC
import Derived.Test.YtdobkjbpehdokaaTabD
set_option linter.unusedVariables false
set_option linter.unusedSimpArgs false
namespace Go.Hp
open Go Go.Proofs

theorem SlRd.elem {V : Nat → Obj → Prop} {A : Option Addr} {c m sz : Nat} {cs : List Value} (hv : SlRd V (.slice A m c) m sz cs) {i : Nat} (hi : i < m) : ∃ b k T fr arr, A = some ⟨b, k, none⟩ ∧ V b (.cells arr T fr) ∧ (arr.toList.drop (k + i * sz)).take sz = (cs.drop (i * sz)).take sz ∧ ∀ j, j < sz → arr[k + i * sz + j]? = cs[i * sz + j]? := by
  obtain ⟨A', c', e, hc, hl, h3⟩ := hv
  cases e
  obtain ⟨b, k, T, fr, arr, rfl, hb, h4⟩ := h3.resolve_left (by omega)
  have hle : (i + 1) * sz ≤ m * sz := Nat.mul_le_mul_right _ hi
  rw [Nat.add_mul, Nat.one_mul] at hle
  have hh : ∀ j, j < sz → arr[k + i * sz + j]? = cs[i * sz + j]? := fun j hj => by
    have e1 : cs[i * sz + j]? = ((arr.toList.drop k).take cs.length)[i * sz + j]? := by rw [h4]
    rw [e1, List.getElem?_take, if_pos (by omega), List.getElem?_drop, Array.getElem?_toList, Nat.add_assoc]
  refine ⟨b, k, T, fr, arr, rfl, hb, ?_, hh⟩
  apply List.ext_getElem?
  intro j
  rw [List.getElem?_take, List.getElem?_take]
  by_cases hj : j < sz
  · rw [if_pos hj, if_pos hj, List.getElem?_drop, List.getElem?_drop, Array.getElem?_toList, hh j hj]
  · rw [if_neg hj, if_neg hj]
structure Ent.mayP (e : Ent) : Prop where
  m1 : e.nodes.length ≤ 64
  m2 : 0 ≤ min (min (min (min (min e.place e.no) e.low) e.txn) e.lead) e.kept
  m3 : e.kept ≤ (e.nodes.length : Int)
  m4 : e.lead ≤ 512
  m5 : e.with_.length < 8
  m6 : ∀ w ∈ e.with_, 1 ≤ w ∧ w ≤ 512
  m7 : ∀ (i : Nat) (x : Bool × List UInt8), i + 1 < e.nodes.length → e.nodes[i]? = some x → x.1 = false
theorem tab_may {I : Imm} {e : Ent} {cs : List Value} (he : REnt I e cs) (hsz : e.sized) : Spec Try.prog 48 [.agg cs.toArray] I [] (fun v J L => ∃ b, v = .bool b ∧ (b = true ↔ e.mayP) ∧ I = J ∧ L = []) := by
  obtain ⟨vn, vw, nv, rfl, hn, hno, hw⟩ := he.ex
  obtain ⟨An, cn, rfl, hcn⟩ := hn.slice'
  obtain ⟨Aw, cw, rfl, hcw⟩ := hw.slice'
  refine Spec.of Try.func48 rfl Try.ntmps48 (Nat.le_of_ble_eq_true rfl) (fun F => ?_)
  try simp only [List.cons_append, List.nil_append, List.append_assoc]
  dsimp only [argsEnv]
  refine WP.seq ?_
  refine WP.region [0, 1] rfl ?_
  refine WP.loud rfl rfl ?_
  refine Op.box rfl rfl rfl rfl rfl (fun b1 => ?_)
  refine WP.val rfl rfl rfl rfl (Yld.assign rfl rfl) ?_
  refine WP.nil ?_
  refine WP.next ?_
  refine WP.seq ?_
  refine WP.seq ?_
  refine WP.region [0, 1, 2, 3, 4, 5, 6, 7, 8, 9, 10, 11, 12, 13, 14, 15, 16, 17, 18, 19, 20, 21, 22, 23, 24, 25, 26, 27, 28, 29, 30, 31, 32, 33, 34, 35, 36, 37, 38] rfl ?_
  refine WP.val rfl rfl rfl rfl (Yld.fieldAddr rfl ty_fd_63_1 rfl) ?_
  refine WP.val rfl rfl rfl rfl (Yld.load rfl ty_sc_61 rfl (by repeat (first | exact There.h | exact There.i (by assumption) | apply There.t | apply There.s)) rfl) ?_
  refine WP.val rfl rfl rfl rfl (Yld.len rfl ty_sl_61 rfl) ?_
  refine WP.split rfl rfl rfl rfl (Yld.gtr rfl rfl rfl) (fun c1 => ?_) (fun c1 => ?_)
  · refine WP.val rfl rfl rfl rfl (Yld.move rfl rfl) ?_
    refine WP.passG rfl rfl rfl rfl rfl rfl rfl rfl ?_
    refine WP.passG rfl rfl rfl rfl rfl rfl rfl rfl ?_
    refine WP.passG rfl rfl rfl rfl rfl rfl rfl rfl ?_
    refine WP.passG rfl rfl rfl rfl rfl rfl rfl rfl ?_
    refine WP.passG rfl rfl rfl rfl rfl rfl rfl rfl ?_
    refine WP.passG rfl rfl rfl rfl rfl rfl rfl rfl ?_
    refine WP.passG rfl rfl rfl rfl rfl rfl rfl rfl ?_
    refine WP.passG rfl rfl rfl rfl rfl rfl rfl rfl ?_
    refine WP.passG rfl rfl rfl rfl rfl rfl rfl rfl ?_
    refine WP.passG rfl rfl rfl rfl rfl rfl rfl rfl ?_
    refine WP.passG rfl rfl rfl rfl rfl rfl rfl rfl ?_
    refine WP.passG rfl rfl rfl rfl rfl rfl rfl rfl ?_
    refine WP.passG rfl rfl rfl rfl rfl rfl rfl rfl ?_
    refine WP.passG rfl rfl rfl rfl rfl rfl rfl rfl ?_
    refine WP.val rfl rfl rfl rfl (Yld.pickT rfl rfl rfl) ?_
    refine WP.val rfl rfl rfl rfl (Yld.move rfl rfl) ?_
    refine WP.passG rfl rfl rfl rfl rfl rfl rfl rfl ?_
    refine WP.passG rfl rfl rfl rfl rfl rfl rfl rfl ?_
    refine WP.passG rfl rfl rfl rfl rfl rfl rfl rfl ?_
    refine WP.passG rfl rfl rfl rfl rfl rfl rfl rfl ?_
    refine WP.passG rfl rfl rfl rfl rfl rfl rfl rfl ?_
    refine WP.passG rfl rfl rfl rfl rfl rfl rfl rfl ?_
    refine WP.val rfl rfl rfl rfl (Yld.pickT rfl rfl rfl) ?_
    refine WP.val rfl rfl rfl rfl (Yld.move rfl rfl) ?_
    refine WP.passG rfl rfl rfl rfl rfl rfl rfl rfl ?_
    refine WP.passG rfl rfl rfl rfl rfl rfl rfl rfl ?_
    refine WP.passG rfl rfl rfl rfl rfl rfl rfl rfl ?_
    refine WP.val rfl rfl rfl rfl (Yld.pickT rfl rfl rfl) ?_
    refine WP.val rfl rfl rfl rfl (Yld.move rfl rfl) ?_
    refine WP.passG rfl rfl rfl rfl rfl rfl rfl rfl ?_
    refine WP.passG rfl rfl rfl rfl rfl rfl rfl rfl ?_
    refine WP.passG rfl rfl rfl rfl rfl rfl rfl rfl ?_
    refine WP.passG rfl rfl rfl rfl rfl rfl rfl rfl ?_
    refine WP.val rfl rfl rfl rfl (Yld.pickT rfl rfl rfl) ?_
    refine WP.nil ?_
    refine WP.sub [(0, _), (1, _), (2, _), (45, _)] ?_ ⟨rfl, rfl, rfl, rfl, trivial⟩
    refine WP.next ?_
    refine WP.condT rfl ?_
    refine WP.seq ?_
    refine WP.region [0] rfl ?_
    refine WP.val rfl rfl rfl rfl (Yld.assign rfl rfl) ?_
    refine WP.nil ?_
    refine WP.next ?_
    refine WP.ret ?_
    refine WP.fin .ret (.inr rfl) (res1 rfl rfl) [] (by repeat (first | exact Take.nil | with_reducible apply Take.cons | apply Take.app | exact Rm.chunk | exact Rm.here | exact Rm.nil0 | apply Rm.skip | apply Rm.skipS | (focus (apply Take.all; (repeat (first | exact Rm.chunk | exact Rm.here | exact Rm.nil0 | apply Rm.skip | apply Rm.skipS)); done)) | apply Take.cons)) (by repeat (first | exact Leave.done | apply Leave.drop | apply Leave.dropS)) (Imm.le_refl _) ?_
    refine ⟨_, rfl, ?_, rfl, rfl⟩
    first | (exact ⟨fun h => Bool.noConfusion h, fun hm => by obtain ⟨m1, m2, m3, m4, m5, m6, m7⟩ := hm; omega⟩) | (exact ⟨fun h => Bool.noConfusion h, fun hm => by obtain ⟨m1, m2, m3, m4, m5, m6, m7⟩ := hm; have := m6 _ (List.getElem_mem hwi); omega⟩) | (exact ⟨fun h => Bool.noConfusion h, fun hm => by obtain ⟨m1, m2, m3, m4, m5, m6, m7⟩ := hm; have := m7 i _ (by omega) hd1; rw [hbt] at this; cases this⟩) | exact ⟨fun _ => ⟨by omega, by omega, by omega, by omega, by omega, hall, fun i x h1 h2 => hnod i x (by omega) h1 h2⟩, fun _ => rfl⟩
  · refine WP.val rfl rfl rfl rfl (Yld.move rfl rfl) ?_
    refine WP.valG rfl rfl rfl rfl rfl rfl rfl (Yld.fieldAddr rfl ty_fd_63_2 rfl) ?_
    refine WP.valG rfl rfl rfl rfl rfl rfl rfl (Yld.load rfl ty_sc_3 rfl (by repeat (first | exact There.h | exact There.i (by assumption) | apply There.t | apply There.s)) rfl) ?_
    refine WP.valG rfl rfl rfl rfl rfl rfl rfl (Yld.fieldAddr rfl ty_fd_63_3 rfl) ?_
    refine WP.valG rfl rfl rfl rfl rfl rfl rfl (Yld.load rfl ty_sc_3 rfl (by repeat (first | exact There.h | exact There.i (by assumption) | apply There.t | apply There.s)) rfl) ?_
    refine WP.valG rfl rfl rfl rfl rfl rfl rfl (Yld.fieldAddr rfl ty_fd_63_4 rfl) ?_
    refine WP.valG rfl rfl rfl rfl rfl rfl rfl (Yld.load rfl ty_sc_3 rfl (by repeat (first | exact There.h | exact There.i (by assumption) | apply There.t | apply There.s)) rfl) ?_
    refine WP.valG rfl rfl rfl rfl rfl rfl rfl (Yld.fieldAddr rfl ty_fd_63_6 rfl) ?_
    refine WP.valG rfl rfl rfl rfl rfl rfl rfl (Yld.load rfl ty_sc_3 rfl (by repeat (first | exact There.h | exact There.i (by assumption) | apply There.t | apply There.s)) rfl) ?_
    refine WP.valG rfl rfl rfl rfl rfl rfl rfl (Yld.fieldAddr rfl ty_fd_63_7 rfl) ?_
    refine WP.valG rfl rfl rfl rfl rfl rfl rfl (Yld.load rfl ty_sc_3 rfl (by repeat (first | exact There.h | exact There.i (by assumption) | apply There.t | apply There.s)) rfl) ?_
    refine WP.valG rfl rfl rfl rfl rfl rfl rfl (Yld.fieldAddr rfl ty_fd_63_5 rfl) ?_
    refine WP.valG rfl rfl rfl rfl rfl rfl rfl (Yld.load rfl ty_sc_3 rfl (by repeat (first | exact There.h | exact There.i (by assumption) | apply There.t | apply There.s)) rfl) ?_
    refine WP.valG rfl rfl rfl rfl rfl rfl rfl (Yld.min6 rfl rfl rfl rfl rfl rfl rfl) ?_
    refine WP.splitG rfl rfl rfl rfl rfl rfl rfl (Yld.lss rfl rfl rfl) (fun c2 => ?_) (fun c2 => ?_)
    · refine WP.val rfl rfl rfl rfl (Yld.pickF rfl rfl rfl) ?_
      refine WP.val rfl rfl rfl rfl (Yld.move rfl rfl) ?_
      refine WP.passG rfl rfl rfl rfl rfl rfl rfl rfl ?_
      refine WP.passG rfl rfl rfl rfl rfl rfl rfl rfl ?_
      refine WP.passG rfl rfl rfl rfl rfl rfl rfl rfl ?_
      refine WP.passG rfl rfl rfl rfl rfl rfl rfl rfl ?_
      refine WP.passG rfl rfl rfl rfl rfl rfl rfl rfl ?_
      refine WP.passG rfl rfl rfl rfl rfl rfl rfl rfl ?_
      refine WP.val rfl rfl rfl rfl (Yld.pickT rfl rfl rfl) ?_
      refine WP.val rfl rfl rfl rfl (Yld.move rfl rfl) ?_
      refine WP.passG rfl rfl rfl rfl rfl rfl rfl rfl ?_
      refine WP.passG rfl rfl rfl rfl rfl rfl rfl rfl ?_
      refine WP.passG rfl rfl rfl rfl rfl rfl rfl rfl ?_
      refine WP.val rfl rfl rfl rfl (Yld.pickT rfl rfl rfl) ?_
      refine WP.val rfl rfl rfl rfl (Yld.move rfl rfl) ?_
      refine WP.passG rfl rfl rfl rfl rfl rfl rfl rfl ?_
      refine WP.passG rfl rfl rfl rfl rfl rfl rfl rfl ?_
      refine WP.passG rfl rfl rfl rfl rfl rfl rfl rfl ?_
      refine WP.passG rfl rfl rfl rfl rfl rfl rfl rfl ?_
      refine WP.val rfl rfl rfl rfl (Yld.pickT rfl rfl rfl) ?_
      refine WP.nil ?_
      refine WP.sub [(0, _), (1, _), (2, _), (45, _)] ?_ ⟨rfl, rfl, rfl, rfl, trivial⟩
      refine WP.next ?_
      refine WP.condT rfl ?_
      refine WP.seq ?_
      refine WP.region [0] rfl ?_
      refine WP.val rfl rfl rfl rfl (Yld.assign rfl rfl) ?_
      refine WP.nil ?_
      refine WP.next ?_
      refine WP.ret ?_
      refine WP.fin .ret (.inr rfl) (res1 rfl rfl) [] (by repeat (first | exact Take.nil | with_reducible apply Take.cons | apply Take.app | exact Rm.chunk | exact Rm.here | exact Rm.nil0 | apply Rm.skip | apply Rm.skipS | (focus (apply Take.all; (repeat (first | exact Rm.chunk | exact Rm.here | exact Rm.nil0 | apply Rm.skip | apply Rm.skipS)); done)) | apply Take.cons)) (by repeat (first | exact Leave.done | apply Leave.drop | apply Leave.dropS)) (Imm.le_refl _) ?_
      refine ⟨_, rfl, ?_, rfl, rfl⟩
      first | (exact ⟨fun h => Bool.noConfusion h, fun hm => by obtain ⟨m1, m2, m3, m4, m5, m6, m7⟩ := hm; omega⟩) | (exact ⟨fun h => Bool.noConfusion h, fun hm => by obtain ⟨m1, m2, m3, m4, m5, m6, m7⟩ := hm; have := m6 _ (List.getElem_mem hwi); omega⟩) | (exact ⟨fun h => Bool.noConfusion h, fun hm => by obtain ⟨m1, m2, m3, m4, m5, m6, m7⟩ := hm; have := m7 i _ (by omega) hd1; rw [hbt] at this; cases this⟩) | exact ⟨fun _ => ⟨by omega, by omega, by omega, by omega, by omega, hall, fun i x h1 h2 => hnod i x (by omega) h1 h2⟩, fun _ => rfl⟩
    · refine WP.val rfl rfl rfl rfl (Yld.pickF rfl rfl rfl) ?_
      refine WP.val rfl rfl rfl rfl (Yld.move rfl rfl) ?_
      refine WP.valG rfl rfl rfl rfl rfl rfl rfl (Yld.fieldAddr rfl ty_fd_63_5 rfl) ?_
      refine WP.valG rfl rfl rfl rfl rfl rfl rfl (Yld.load rfl ty_sc_3 rfl (by repeat (first | exact There.h | exact There.i (by assumption) | apply There.t | apply There.s)) rfl) ?_
      refine WP.valG rfl rfl rfl rfl rfl rfl rfl (Yld.fieldAddr rfl ty_fd_63_1 rfl) ?_
      refine WP.valG rfl rfl rfl rfl rfl rfl rfl (Yld.load rfl ty_sc_61 rfl (by repeat (first | exact There.h | exact There.i (by assumption) | apply There.t | apply There.s)) rfl) ?_
      refine WP.valG rfl rfl rfl rfl rfl rfl rfl (Yld.len rfl ty_sl_61 rfl) ?_
      refine WP.splitG rfl rfl rfl rfl rfl rfl rfl (Yld.gtr rfl rfl rfl) (fun c3 => ?_) (fun c3 => ?_)
      · refine WP.val rfl rfl rfl rfl (Yld.pickF rfl rfl rfl) ?_
        refine WP.val rfl rfl rfl rfl (Yld.move rfl rfl) ?_
        refine WP.passG rfl rfl rfl rfl rfl rfl rfl rfl ?_
        refine WP.passG rfl rfl rfl rfl rfl rfl rfl rfl ?_
        refine WP.passG rfl rfl rfl rfl rfl rfl rfl rfl ?_
        refine WP.val rfl rfl rfl rfl (Yld.pickT rfl rfl rfl) ?_
        refine WP.val rfl rfl rfl rfl (Yld.move rfl rfl) ?_
        refine WP.passG rfl rfl rfl rfl rfl rfl rfl rfl ?_
        refine WP.passG rfl rfl rfl rfl rfl rfl rfl rfl ?_
        refine WP.passG rfl rfl rfl rfl rfl rfl rfl rfl ?_
        refine WP.passG rfl rfl rfl rfl rfl rfl rfl rfl ?_
        refine WP.val rfl rfl rfl rfl (Yld.pickT rfl rfl rfl) ?_
        refine WP.nil ?_
        refine WP.sub [(0, _), (1, _), (2, _), (45, _)] ?_ ⟨rfl, rfl, rfl, rfl, trivial⟩
        refine WP.next ?_
        refine WP.condT rfl ?_
        refine WP.seq ?_
        refine WP.region [0] rfl ?_
        refine WP.val rfl rfl rfl rfl (Yld.assign rfl rfl) ?_
        refine WP.nil ?_
        refine WP.next ?_
        refine WP.ret ?_
        refine WP.fin .ret (.inr rfl) (res1 rfl rfl) [] (by repeat (first | exact Take.nil | with_reducible apply Take.cons | apply Take.app | exact Rm.chunk | exact Rm.here | exact Rm.nil0 | apply Rm.skip | apply Rm.skipS | (focus (apply Take.all; (repeat (first | exact Rm.chunk | exact Rm.here | exact Rm.nil0 | apply Rm.skip | apply Rm.skipS)); done)) | apply Take.cons)) (by repeat (first | exact Leave.done | apply Leave.drop | apply Leave.dropS)) (Imm.le_refl _) ?_
        refine ⟨_, rfl, ?_, rfl, rfl⟩
        first | (exact ⟨fun h => Bool.noConfusion h, fun hm => by obtain ⟨m1, m2, m3, m4, m5, m6, m7⟩ := hm; omega⟩) | (exact ⟨fun h => Bool.noConfusion h, fun hm => by obtain ⟨m1, m2, m3, m4, m5, m6, m7⟩ := hm; have := m6 _ (List.getElem_mem hwi); omega⟩) | (exact ⟨fun h => Bool.noConfusion h, fun hm => by obtain ⟨m1, m2, m3, m4, m5, m6, m7⟩ := hm; have := m7 i _ (by omega) hd1; rw [hbt] at this; cases this⟩) | exact ⟨fun _ => ⟨by omega, by omega, by omega, by omega, by omega, hall, fun i x h1 h2 => hnod i x (by omega) h1 h2⟩, fun _ => rfl⟩
      · refine WP.val rfl rfl rfl rfl (Yld.pickF rfl rfl rfl) ?_
        refine WP.val rfl rfl rfl rfl (Yld.move rfl rfl) ?_
        refine WP.valG rfl rfl rfl rfl rfl rfl rfl (Yld.fieldAddr rfl ty_fd_63_7 rfl) ?_
        refine WP.valG rfl rfl rfl rfl rfl rfl rfl (Yld.load rfl ty_sc_3 rfl (by repeat (first | exact There.h | exact There.i (by assumption) | apply There.t | apply There.s)) rfl) ?_
        refine WP.splitG rfl rfl rfl rfl rfl rfl rfl (Yld.gtr rfl rfl rfl) (fun c4 => ?_) (fun c4 => ?_)
        · refine WP.val rfl rfl rfl rfl (Yld.pickF rfl rfl rfl) ?_
          refine WP.val rfl rfl rfl rfl (Yld.move rfl rfl) ?_
          refine WP.passG rfl rfl rfl rfl rfl rfl rfl rfl ?_
          refine WP.passG rfl rfl rfl rfl rfl rfl rfl rfl ?_
          refine WP.passG rfl rfl rfl rfl rfl rfl rfl rfl ?_
          refine WP.passG rfl rfl rfl rfl rfl rfl rfl rfl ?_
          refine WP.val rfl rfl rfl rfl (Yld.pickT rfl rfl rfl) ?_
          refine WP.nil ?_
          refine WP.sub [(0, _), (1, _), (2, _), (45, _)] ?_ ⟨rfl, rfl, rfl, rfl, trivial⟩
          refine WP.next ?_
          refine WP.condT rfl ?_
          refine WP.seq ?_
          refine WP.region [0] rfl ?_
          refine WP.val rfl rfl rfl rfl (Yld.assign rfl rfl) ?_
          refine WP.nil ?_
          refine WP.next ?_
          refine WP.ret ?_
          refine WP.fin .ret (.inr rfl) (res1 rfl rfl) [] (by repeat (first | exact Take.nil | with_reducible apply Take.cons | apply Take.app | exact Rm.chunk | exact Rm.here | exact Rm.nil0 | apply Rm.skip | apply Rm.skipS | (focus (apply Take.all; (repeat (first | exact Rm.chunk | exact Rm.here | exact Rm.nil0 | apply Rm.skip | apply Rm.skipS)); done)) | apply Take.cons)) (by repeat (first | exact Leave.done | apply Leave.drop | apply Leave.dropS)) (Imm.le_refl _) ?_
          refine ⟨_, rfl, ?_, rfl, rfl⟩
          first | (exact ⟨fun h => Bool.noConfusion h, fun hm => by obtain ⟨m1, m2, m3, m4, m5, m6, m7⟩ := hm; omega⟩) | (exact ⟨fun h => Bool.noConfusion h, fun hm => by obtain ⟨m1, m2, m3, m4, m5, m6, m7⟩ := hm; have := m6 _ (List.getElem_mem hwi); omega⟩) | (exact ⟨fun h => Bool.noConfusion h, fun hm => by obtain ⟨m1, m2, m3, m4, m5, m6, m7⟩ := hm; have := m7 i _ (by omega) hd1; rw [hbt] at this; cases this⟩) | exact ⟨fun _ => ⟨by omega, by omega, by omega, by omega, by omega, hall, fun i x h1 h2 => hnod i x (by omega) h1 h2⟩, fun _ => rfl⟩
        · refine WP.val rfl rfl rfl rfl (Yld.pickF rfl rfl rfl) ?_
          refine WP.val rfl rfl rfl rfl (Yld.move rfl rfl) ?_
          refine WP.valG rfl rfl rfl rfl rfl rfl rfl (Yld.fieldAddr rfl ty_fd_63_8 rfl) ?_
          refine WP.valG rfl rfl rfl rfl rfl rfl rfl (Yld.load rfl ty_sc_23 rfl (by repeat (first | exact There.h | exact There.i (by assumption) | apply There.t | apply There.s)) rfl) ?_
          refine WP.valG rfl rfl rfl rfl rfl rfl rfl (Yld.len rfl ty_sl_23 rfl) ?_
          refine WP.splitG rfl rfl rfl rfl rfl rfl rfl (Yld.geq rfl rfl rfl) (fun c5 => ?_) (fun c5 => ?_)
          · refine WP.val rfl rfl rfl rfl (Yld.pickF rfl rfl rfl) ?_
            refine WP.nil ?_
            refine WP.sub [(0, _), (1, _), (2, _), (45, _)] ?_ ⟨rfl, rfl, rfl, rfl, trivial⟩
            refine WP.next ?_
            refine WP.condT rfl ?_
            refine WP.seq ?_
            refine WP.region [0] rfl ?_
            refine WP.val rfl rfl rfl rfl (Yld.assign rfl rfl) ?_
            refine WP.nil ?_
            refine WP.next ?_
            refine WP.ret ?_
            refine WP.fin .ret (.inr rfl) (res1 rfl rfl) [] (by repeat (first | exact Take.nil | with_reducible apply Take.cons | apply Take.app | exact Rm.chunk | exact Rm.here | exact Rm.nil0 | apply Rm.skip | apply Rm.skipS | (focus (apply Take.all; (repeat (first | exact Rm.chunk | exact Rm.here | exact Rm.nil0 | apply Rm.skip | apply Rm.skipS)); done)) | apply Take.cons)) (by repeat (first | exact Leave.done | apply Leave.drop | apply Leave.dropS)) (Imm.le_refl _) ?_
            refine ⟨_, rfl, ?_, rfl, rfl⟩
            first | (exact ⟨fun h => Bool.noConfusion h, fun hm => by obtain ⟨m1, m2, m3, m4, m5, m6, m7⟩ := hm; omega⟩) | (exact ⟨fun h => Bool.noConfusion h, fun hm => by obtain ⟨m1, m2, m3, m4, m5, m6, m7⟩ := hm; have := m6 _ (List.getElem_mem hwi); omega⟩) | (exact ⟨fun h => Bool.noConfusion h, fun hm => by obtain ⟨m1, m2, m3, m4, m5, m6, m7⟩ := hm; have := m7 i _ (by omega) hd1; rw [hbt] at this; cases this⟩) | exact ⟨fun _ => ⟨by omega, by omega, by omega, by omega, by omega, hall, fun i x h1 h2 => hnod i x (by omega) h1 h2⟩, fun _ => rfl⟩
          · refine WP.val rfl rfl rfl rfl (Yld.pickF rfl rfl rfl) ?_
            refine WP.nil ?_
            refine WP.sub [(0, _), (1, _), (2, _), (45, _)] ?_ ⟨rfl, rfl, rfl, rfl, trivial⟩
            refine WP.next ?_
            refine WP.condF rfl ?_
            refine WP.skip ?_
            refine WP.next ?_
            refine WP.seq ?_
            refine WP.seq ?_
            refine WP.region [0, 1, 2, 3] rfl ?_
            refine WP.val rfl rfl rfl rfl (Yld.fieldAddr rfl ty_fd_63_8 rfl) ?_
            refine WP.val rfl rfl rfl rfl (Yld.load rfl ty_sc_23 rfl (by repeat (first | exact There.h | exact There.i (by assumption) | apply There.t | apply There.s)) rfl) ?_
            refine WP.val rfl rfl rfl rfl (Yld.len rfl ty_sl_23 rfl) ?_
            refine WP.val rfl rfl rfl rfl (Yld.move rfl rfl) ?_
            refine WP.nil ?_
            refine WP.sub [(0, _), (1, _), (2, _), (45, _), (47, _), (48, _), (49, _)] ?_ ⟨rfl, rfl, rfl, rfl, rfl, rfl, rfl, trivial⟩
            refine WP.next ?_
            refine WP.block ?_
            refine WP.loop (X := Nat) (fun i : Nat => [(1, .pointer (some ⟨b1, 0, none⟩)), (2, .bool false), (47, .slice Aw e.with_.length cw), (48, .int .i64 (e.with_.length : Int)), (49, .int .i64 (i : Int))]) (fun _ => I) (fun _ => (b1, row 63 (entV e (.slice An e.nodes.length cn) (.slice Aw e.with_.length cw))) :: F) (fun i => i ≤ e.with_.length ∧ ∀ k (h : k < e.with_.length), k < i → 1 ≤ e.with_[k] ∧ e.with_[k] ≤ 512) (fun i => e.with_.length - i) 0 ⟨Nat.zero_le _, fun k h hk => absurd hk (Nat.not_lt_zero _)⟩ ⟨rfl, rfl, rfl, rfl, rfl, trivial⟩ rfl (by (try dsimp only); repeat (first | exact Rm.chunk | exact Rm.here | exact Rm.nil0 | apply Rm.skip | apply Rm.skipS | apply PX.cons | (apply PX.done; (repeat (first | exact Leave.done | apply Leave.drop | apply Leave.dropS)); done) | apply PX.app)) ?_
            rintro i ⟨hle, hpre⟩
            try dsimp only
            try simp only [List.cons_append, List.nil_append, List.append_assoc]
            refine WP.seq ?_
            refine WP.region [0] rfl ?_
            refine WP.split rfl rfl rfl rfl (Yld.lss rfl rfl rfl) (fun hlt => ?_) (fun hlt => ?_)
            · have hwi : i < e.with_.length := by first | omega | (simp only at hlt; omega)
              have hwl := hsz.with_
              obtain ⟨bw, kw, Tw, frw, arw, rfl, hbw, _, hcel⟩ := hw.elem hwi
              have hcel0 := hcel 0 (by omega)
              rw [List.getElem?_eq_getElem (by simpa using hwi)] at hcel0
              simp only [Nat.mul_one, Nat.add_zero, List.getElem_map] at hcel0
              refine WP.nil ?_
              refine WP.next ?_
              refine WP.seq ?_
              refine WP.condT rfl ?_
              refine WP.skip ?_
              refine WP.next ?_
              refine WP.seq ?_
              refine WP.block ?_
              refine WP.seq ?_
              refine WP.region [0, 1, 2] rfl ?_
              refine WP.val rfl rfl rfl rfl (Yld.indexAddr (i := i) rfl ty_sl_23 rfl rfl hwi) ?_
              refine WP.val rfl rfl rfl rfl (Yld.loadC rfl ty_sc_3 rfl (There.i hbw) (by rw [Nat.mul_one]; exact hcel0)) ?_
              refine WP.val rfl rfl rfl rfl (Yld.assign rfl rfl) ?_
              refine WP.nil ?_
              refine WP.sub [(1, _), (2, _), (4, _), (47, _), (48, _), (49, _), (50, _)] ?_ ⟨rfl, rfl, rfl, rfl, rfl, rfl, rfl, trivial⟩
              refine WP.next ?_
              refine WP.seq ?_
              refine WP.region [0, 1, 2, 3, 4, 5] rfl ?_
              refine WP.val rfl rfl rfl rfl (Yld.move rfl rfl) ?_
              refine WP.split rfl rfl rfl rfl (Yld.lss rfl rfl rfl) (fun c6 => ?_) (fun c6 => ?_)
              · refine WP.val rfl rfl rfl rfl (Yld.move rfl rfl) ?_
                refine WP.passG rfl rfl rfl rfl rfl rfl rfl rfl ?_
                refine WP.passG rfl rfl rfl rfl rfl rfl rfl rfl ?_
                refine WP.val rfl rfl rfl rfl (Yld.pickT rfl rfl rfl) ?_
                refine WP.nil ?_
                refine WP.sub [(1, _), (2, _), (4, _), (47, _), (48, _), (49, _), (50, _), (58, _)] ?_ ⟨rfl, rfl, rfl, rfl, rfl, rfl, rfl, rfl, trivial⟩
                refine WP.next ?_
                refine WP.condT rfl ?_
                refine WP.seq ?_
                refine WP.region [0] rfl ?_
                refine WP.val rfl rfl rfl rfl (Yld.assign rfl rfl) ?_
                refine WP.nil ?_
                refine WP.next ?_
                refine WP.ret ?_
                refine WP.fin .ret (.inr rfl) (res1 rfl rfl) [] (by repeat (first | exact Take.nil | with_reducible apply Take.cons | apply Take.app | exact Rm.chunk | exact Rm.here | exact Rm.nil0 | apply Rm.skip | apply Rm.skipS | (focus (apply Take.all; (repeat (first | exact Rm.chunk | exact Rm.here | exact Rm.nil0 | apply Rm.skip | apply Rm.skipS)); done)) | apply Take.cons)) (by repeat (first | exact Leave.done | apply Leave.drop | apply Leave.dropS)) (Imm.le_refl _) ?_
                refine ⟨_, rfl, ?_, rfl, rfl⟩
                first | (exact ⟨fun h => Bool.noConfusion h, fun hm => by obtain ⟨m1, m2, m3, m4, m5, m6, m7⟩ := hm; omega⟩) | (exact ⟨fun h => Bool.noConfusion h, fun hm => by obtain ⟨m1, m2, m3, m4, m5, m6, m7⟩ := hm; have := m6 _ (List.getElem_mem hwi); omega⟩) | (exact ⟨fun h => Bool.noConfusion h, fun hm => by obtain ⟨m1, m2, m3, m4, m5, m6, m7⟩ := hm; have := m7 i _ (by omega) hd1; rw [hbt] at this; cases this⟩) | exact ⟨fun _ => ⟨by omega, by omega, by omega, by omega, by omega, hall, fun i x h1 h2 => hnod i x (by omega) h1 h2⟩, fun _ => rfl⟩
              · refine WP.val rfl rfl rfl rfl (Yld.move rfl rfl) ?_
                refine WP.valG rfl rfl rfl rfl rfl rfl rfl (Yld.move rfl rfl) ?_
                refine WP.splitG rfl rfl rfl rfl rfl rfl rfl (Yld.gtr rfl rfl rfl) (fun c7 => ?_) (fun c7 => ?_)
                · refine WP.val rfl rfl rfl rfl (Yld.pickF rfl rfl rfl) ?_
                  refine WP.nil ?_
                  refine WP.sub [(1, _), (2, _), (4, _), (47, _), (48, _), (49, _), (50, _), (58, _)] ?_ ⟨rfl, rfl, rfl, rfl, rfl, rfl, rfl, rfl, trivial⟩
                  refine WP.next ?_
                  refine WP.condT rfl ?_
                  refine WP.seq ?_
                  refine WP.region [0] rfl ?_
                  refine WP.val rfl rfl rfl rfl (Yld.assign rfl rfl) ?_
                  refine WP.nil ?_
                  refine WP.next ?_
                  refine WP.ret ?_
                  refine WP.fin .ret (.inr rfl) (res1 rfl rfl) [] (by repeat (first | exact Take.nil | with_reducible apply Take.cons | apply Take.app | exact Rm.chunk | exact Rm.here | exact Rm.nil0 | apply Rm.skip | apply Rm.skipS | (focus (apply Take.all; (repeat (first | exact Rm.chunk | exact Rm.here | exact Rm.nil0 | apply Rm.skip | apply Rm.skipS)); done)) | apply Take.cons)) (by repeat (first | exact Leave.done | apply Leave.drop | apply Leave.dropS)) (Imm.le_refl _) ?_
                  refine ⟨_, rfl, ?_, rfl, rfl⟩
                  first | (exact ⟨fun h => Bool.noConfusion h, fun hm => by obtain ⟨m1, m2, m3, m4, m5, m6, m7⟩ := hm; omega⟩) | (exact ⟨fun h => Bool.noConfusion h, fun hm => by obtain ⟨m1, m2, m3, m4, m5, m6, m7⟩ := hm; have := m6 _ (List.getElem_mem hwi); omega⟩) | (exact ⟨fun h => Bool.noConfusion h, fun hm => by obtain ⟨m1, m2, m3, m4, m5, m6, m7⟩ := hm; have := m7 i _ (by omega) hd1; rw [hbt] at this; cases this⟩) | exact ⟨fun _ => ⟨by omega, by omega, by omega, by omega, by omega, hall, fun i x h1 h2 => hnod i x (by omega) h1 h2⟩, fun _ => rfl⟩
                · refine WP.val rfl rfl rfl rfl (Yld.pickF rfl rfl rfl) ?_
                  refine WP.nil ?_
                  refine WP.sub [(1, _), (2, _), (4, _), (47, _), (48, _), (49, _), (50, _), (58, _)] ?_ ⟨rfl, rfl, rfl, rfl, rfl, rfl, rfl, rfl, trivial⟩
                  refine WP.next ?_
                  refine WP.condF rfl ?_
                  refine WP.skip ?_
                  refine WP.leave ?_
                  refine WP.next ?_
                  refine WP.region [0, 1] rfl ?_
                  refine WP.val rfl rfl rfl rfl (Yld.add64 rfl rfl rfl (by omega)) ?_
                  refine WP.val rfl rfl rfl rfl (Yld.move rfl rfl) ?_
                  refine WP.nil ?_
                  refine WP.sub [(1, _), (2, _), (4, _), (47, _), (48, _), (49, _), (50, _), (58, _)] ?_ ⟨rfl, rfl, rfl, rfl, rfl, rfl, rfl, rfl, trivial⟩
                  exact WP.again (i + 1) ⟨hwi, fun k h hk => by rcases Nat.lt_succ_iff_lt_or_eq.1 hk with hk | rfl; exact hpre k h hk; omega⟩ (show e.with_.length - (i + 1) < e.with_.length - i by omega) ⟨rfl, rfl, rfl, rfl, rfl, trivial⟩ rfl (by (try dsimp only); repeat (first | exact Rm.chunk | exact Rm.here | exact Rm.nil0 | apply Rm.skip | apply Rm.skipS | apply PX.cons | (apply PX.done; (repeat (first | exact Leave.done | apply Leave.drop | apply Leave.dropS)); done) | apply PX.app))
            · obtain rfl : i = e.with_.length := by first | omega | (simp only at hlt; omega)
              have hall : ∀ w ∈ e.with_, 1 ≤ w ∧ w ≤ 512 := fun w hw => by obtain ⟨k, hk, rfl⟩ := List.getElem_of_mem hw; exact hpre k hk hk
              refine WP.nil ?_
              refine WP.next ?_
              refine WP.seq ?_
              refine WP.condF rfl ?_
              refine WP.exit ?_
              refine WP.thenE ?_
              refine WP.thenE ?_
              refine WP.hit ?_
              refine WP.next ?_
              refine WP.seq ?_
              refine WP.seq ?_
              refine WP.region [0, 1, 2, 3] rfl ?_
              refine WP.val rfl rfl rfl rfl (Yld.fieldAddr rfl ty_fd_63_1 rfl) ?_
              refine WP.val rfl rfl rfl rfl (Yld.load rfl ty_sc_61 rfl (by repeat (first | exact There.h | exact There.i (by assumption) | apply There.t | apply There.s)) rfl) ?_
              refine WP.val rfl rfl rfl rfl (Yld.len rfl ty_sl_61 rfl) ?_
              refine WP.val rfl rfl rfl rfl (Yld.move rfl rfl) ?_
              refine WP.nil ?_
              refine WP.sub [(1, _), (2, _), (47, _), (48, _), (49, _), (50, _), (61, _), (62, _), (63, _)] ?_ ⟨rfl, rfl, rfl, rfl, rfl, rfl, rfl, rfl, rfl, trivial⟩
              refine WP.next ?_
              refine WP.block ?_
              refine WP.loop (X := Nat) (fun i : Nat => [(1, .pointer (some ⟨b1, 0, none⟩)), (2, .bool false), (61, .slice An e.nodes.length cn), (62, .int .i64 (e.nodes.length : Int)), (63, .int .i64 (i : Int))]) (fun _ => I) (fun _ => (b1, row 63 (entV e (.slice An e.nodes.length cn) (.slice Aw e.with_.length cw))) :: F) (fun i => i ≤ e.nodes.length ∧ ∀ (k : Nat) (x : Bool × List UInt8), k < i → k + 1 < e.nodes.length → e.nodes[k]? = some x → x.1 = false) (fun i => e.nodes.length - i) 0 ⟨Nat.zero_le _, fun k x hk => absurd hk (Nat.not_lt_zero _)⟩ ⟨rfl, rfl, rfl, rfl, rfl, trivial⟩ rfl (by (try dsimp only); repeat (first | exact Rm.chunk | exact Rm.here | exact Rm.nil0 | apply Rm.skip | apply Rm.skipS | apply PX.cons | (apply PX.done; (repeat (first | exact Leave.done | apply Leave.drop | apply Leave.dropS)); done) | apply PX.app)) ?_
              rintro i ⟨hle, hnod⟩
              try dsimp only
              try simp only [List.cons_append, List.nil_append, List.append_assoc]
              refine WP.seq ?_
              refine WP.region [0] rfl ?_
              refine WP.split rfl rfl rfl rfl (Yld.lss rfl rfl rfl) (fun hlt => ?_) (fun hlt => ?_)
              · have hni : i < e.nodes.length := by first | omega | (simp only at hlt; omega)
                have hnl := hsz.nodes
                have hin : i < nv.length := by rw [hno.len]; exact hni
                obtain ⟨d, hd1, hd2⟩ := hno.at_ i _ (List.getElem?_eq_getElem hin)
                obtain ⟨Ad, cd, hvd, hcd, _⟩ := id hd2
                obtain ⟨bn, kn, Tn, frn, arn, rfl, hbn, hseg, _⟩ := hn.elem hni
                have hf := flat_seg ndV_len hin []
                rw [List.append_nil, Nat.zero_add] at hf
                rw [hf] at hseg
                refine WP.nil ?_
                refine WP.next ?_
                refine WP.seq ?_
                refine WP.condT rfl ?_
                refine WP.skip ?_
                refine WP.next ?_
                refine WP.seq ?_
                refine WP.block ?_
                refine WP.seq ?_
                refine WP.region [0, 1, 2, 3, 4, 5] rfl ?_
                refine WP.val rfl rfl rfl rfl (Yld.move rfl rfl) ?_
                refine WP.val rfl rfl rfl rfl (Yld.indexAddr (i := i) rfl ty_sl_61 rfl rfl hni) ?_
                refine WP.val rfl rfl rfl rfl (Yld.loadAggC rfl ty_ag_69 rfl (There.i hbn) hseg rfl) ?_
                refine WP.loud rfl rfl ?_
                refine Op.alloc rfl rfl rfl ty_zr_69 (fun b6 => ?_)
                refine WP.val rfl rfl rfl rfl (Yld.assign rfl rfl) ?_
                refine WP.loud rfl rfl ?_
                refine Op.storeAll rfl rfl ty_sz_69 rfl rfl rfl (by simp only [ndV, hvd]; rfl) (by repeat (first | exact Upd.head | apply Upd.tail | apply Upd.tailS)) rfl ?_
                refine WP.nil ?_
                refine WP.sub [(1, _), (2, _), (5, _), (6, _), (61, _), (62, _), (63, _), (64, _)] ?_ ⟨rfl, rfl, rfl, rfl, rfl, rfl, rfl, rfl, trivial⟩
                refine WP.next ?_
                refine WP.seq ?_
                refine WP.region [0, 1, 2, 3, 4, 5, 6, 7, 8, 9] rfl ?_
                refine WP.val rfl rfl rfl rfl (Yld.fieldAddr rfl ty_fd_69_0 rfl) ?_
                refine WP.splitB rfl rfl rfl rfl (Yld.load rfl ty_sc_4 rfl (by repeat (first | exact There.h | exact There.i (by assumption) | apply There.t | apply There.s)) rfl) (fun hbt => ?_) (fun hbt => ?_)
                · refine WP.val rfl rfl rfl rfl (Yld.move rfl rfl) ?_
                  refine WP.valG rfl rfl rfl rfl rfl rfl rfl (Yld.move rfl rfl) ?_
                  refine WP.valG rfl rfl rfl rfl rfl rfl rfl (Yld.fieldAddr rfl ty_fd_63_1 rfl) ?_
                  refine WP.valG rfl rfl rfl rfl rfl rfl rfl (Yld.load rfl ty_sc_61 rfl (by repeat (first | exact There.h | exact There.i (by assumption) | apply There.t | apply There.s)) rfl) ?_
                  refine WP.valG rfl rfl rfl rfl rfl rfl rfl (Yld.len rfl ty_sl_61 rfl) ?_
                  refine WP.valG rfl rfl rfl rfl rfl rfl rfl (Yld.sub64 rfl rfl rfl (by omega)) ?_
                  refine WP.splitG rfl rfl rfl rfl rfl rfl rfl (Yld.lss rfl rfl rfl) (fun c8 => ?_) (fun c8 => ?_)
                  · refine WP.val rfl rfl rfl rfl (Yld.pickT rfl rfl rfl) ?_
                    refine WP.nil ?_
                    refine WP.sub [(1, _), (2, _), (5, _), (6, _), (61, _), (62, _), (63, _), (64, _), (77, _)] ?_ ⟨rfl, rfl, rfl, rfl, rfl, rfl, rfl, rfl, rfl, trivial⟩
                    refine WP.next ?_
                    refine WP.condT rfl ?_
                    refine WP.seq ?_
                    refine WP.region [0] rfl ?_
                    refine WP.val rfl rfl rfl rfl (Yld.assign rfl rfl) ?_
                    refine WP.nil ?_
                    refine WP.next ?_
                    refine WP.ret ?_
                    refine WP.fin .ret (.inr rfl) (res1 rfl rfl) [] (by repeat (first | exact Take.nil | with_reducible apply Take.cons | apply Take.app | exact Rm.chunk | exact Rm.here | exact Rm.nil0 | apply Rm.skip | apply Rm.skipS | (focus (apply Take.all; (repeat (first | exact Rm.chunk | exact Rm.here | exact Rm.nil0 | apply Rm.skip | apply Rm.skipS)); done)) | apply Take.cons)) (by repeat (first | exact Leave.done | apply Leave.drop | apply Leave.dropS)) (Imm.le_refl _) ?_
                    refine ⟨_, rfl, ?_, rfl, rfl⟩
                    first | (exact ⟨fun h => Bool.noConfusion h, fun hm => by obtain ⟨m1, m2, m3, m4, m5, m6, m7⟩ := hm; omega⟩) | (exact ⟨fun h => Bool.noConfusion h, fun hm => by obtain ⟨m1, m2, m3, m4, m5, m6, m7⟩ := hm; have := m6 _ (List.getElem_mem hwi); omega⟩) | (exact ⟨fun h => Bool.noConfusion h, fun hm => by obtain ⟨m1, m2, m3, m4, m5, m6, m7⟩ := hm; have := m7 i _ (by omega) hd1; rw [hbt] at this; cases this⟩) | exact ⟨fun _ => ⟨by omega, by omega, by omega, by omega, by omega, hall, fun i x h1 h2 => hnod i x (by omega) h1 h2⟩, fun _ => rfl⟩
                  · refine WP.val rfl rfl rfl rfl (Yld.pickT rfl rfl rfl) ?_
                    refine WP.nil ?_
                    refine WP.sub [(1, _), (2, _), (5, _), (6, _), (61, _), (62, _), (63, _), (64, _), (77, _)] ?_ ⟨rfl, rfl, rfl, rfl, rfl, rfl, rfl, rfl, rfl, trivial⟩
                    refine WP.next ?_
                    refine WP.condF rfl ?_
                    refine WP.skip ?_
                    refine WP.leave ?_
                    refine WP.next ?_
                    refine WP.region [0, 1] rfl ?_
                    refine WP.val rfl rfl rfl rfl (Yld.add64 rfl rfl rfl (by omega)) ?_
                    refine WP.val rfl rfl rfl rfl (Yld.move rfl rfl) ?_
                    refine WP.nil ?_
                    refine WP.sub [(1, _), (2, _), (5, _), (6, _), (61, _), (62, _), (63, _), (64, _), (77, _)] ?_ ⟨rfl, rfl, rfl, rfl, rfl, rfl, rfl, rfl, rfl, trivial⟩
                    exact WP.again (i + 1) ⟨hni, fun k x hk h1 h2 => by rcases Nat.lt_succ_iff_lt_or_eq.1 hk with hk | rfl; exact hnod k x hk h1 h2; first | omega | (rw [hd1] at h2; cases h2; exact hbt)⟩ (show e.nodes.length - (i + 1) < e.nodes.length - i by omega) ⟨rfl, rfl, rfl, rfl, rfl, trivial⟩ rfl (by (try dsimp only); repeat (first | exact Rm.chunk | exact Rm.here | exact Rm.nil0 | apply Rm.skip | apply Rm.skipS | apply PX.cons | (apply PX.done; (repeat (first | exact Leave.done | apply Leave.drop | apply Leave.dropS)); done) | apply PX.app))
                · refine WP.val rfl rfl rfl rfl (Yld.move rfl rfl) ?_
                  refine WP.passG rfl rfl rfl rfl rfl rfl rfl rfl ?_
                  refine WP.passG rfl rfl rfl rfl rfl rfl rfl rfl ?_
                  refine WP.passG rfl rfl rfl rfl rfl rfl rfl rfl ?_
                  refine WP.passG rfl rfl rfl rfl rfl rfl rfl rfl ?_
                  refine WP.passG rfl rfl rfl rfl rfl rfl rfl rfl ?_
                  refine WP.passG rfl rfl rfl rfl rfl rfl rfl rfl ?_
                  refine WP.val rfl rfl rfl rfl (Yld.pickF rfl rfl rfl) ?_
                  refine WP.nil ?_
                  refine WP.sub [(1, _), (2, _), (5, _), (6, _), (61, _), (62, _), (63, _), (64, _), (77, _)] ?_ ⟨rfl, rfl, rfl, rfl, rfl, rfl, rfl, rfl, rfl, trivial⟩
                  refine WP.next ?_
                  refine WP.condF rfl ?_
                  refine WP.skip ?_
                  refine WP.leave ?_
                  refine WP.next ?_
                  refine WP.region [0, 1] rfl ?_
                  refine WP.val rfl rfl rfl rfl (Yld.add64 rfl rfl rfl (by omega)) ?_
                  refine WP.val rfl rfl rfl rfl (Yld.move rfl rfl) ?_
                  refine WP.nil ?_
                  refine WP.sub [(1, _), (2, _), (5, _), (6, _), (61, _), (62, _), (63, _), (64, _), (77, _)] ?_ ⟨rfl, rfl, rfl, rfl, rfl, rfl, rfl, rfl, rfl, trivial⟩
                  exact WP.again (i + 1) ⟨hni, fun k x hk h1 h2 => by rcases Nat.lt_succ_iff_lt_or_eq.1 hk with hk | rfl; exact hnod k x hk h1 h2; first | omega | (rw [hd1] at h2; cases h2; exact hbt)⟩ (show e.nodes.length - (i + 1) < e.nodes.length - i by omega) ⟨rfl, rfl, rfl, rfl, rfl, trivial⟩ rfl (by (try dsimp only); repeat (first | exact Rm.chunk | exact Rm.here | exact Rm.nil0 | apply Rm.skip | apply Rm.skipS | apply PX.cons | (apply PX.done; (repeat (first | exact Leave.done | apply Leave.drop | apply Leave.dropS)); done) | apply PX.app))
              · obtain rfl : i = e.nodes.length := by first | omega | (simp only at hlt; omega)
                refine WP.nil ?_
                refine WP.next ?_
                refine WP.seq ?_
                refine WP.condF rfl ?_
                refine WP.exit ?_
                refine WP.thenE ?_
                refine WP.thenE ?_
                refine WP.hit ?_
                refine WP.next ?_
                refine WP.seq ?_
                refine WP.region [0] rfl ?_
                refine WP.val rfl rfl rfl rfl (Yld.assign rfl rfl) ?_
                refine WP.nil ?_
                refine WP.next ?_
                refine WP.ret ?_
                refine WP.fin .ret (.inr rfl) (res1 rfl rfl) [] (by repeat (first | exact Take.nil | with_reducible apply Take.cons | apply Take.app | exact Rm.chunk | exact Rm.here | exact Rm.nil0 | apply Rm.skip | apply Rm.skipS | (focus (apply Take.all; (repeat (first | exact Rm.chunk | exact Rm.here | exact Rm.nil0 | apply Rm.skip | apply Rm.skipS)); done)) | apply Take.cons)) (by repeat (first | exact Leave.done | apply Leave.drop | apply Leave.dropS)) (Imm.le_refl _) ?_
                refine ⟨_, rfl, ?_, rfl, rfl⟩
                first | (exact ⟨fun h => Bool.noConfusion h, fun hm => by obtain ⟨m1, m2, m3, m4, m5, m6, m7⟩ := hm; omega⟩) | (exact ⟨fun h => Bool.noConfusion h, fun hm => by obtain ⟨m1, m2, m3, m4, m5, m6, m7⟩ := hm; have := m6 _ (List.getElem_mem hwi); omega⟩) | (exact ⟨fun h => Bool.noConfusion h, fun hm => by obtain ⟨m1, m2, m3, m4, m5, m6, m7⟩ := hm; have := m7 i _ (by omega) hd1; rw [hbt] at this; cases this⟩) | exact ⟨fun _ => ⟨by omega, by omega, by omega, by omega, by omega, hall, fun i x h1 h2 => hnod i x (by omega) h1 h2⟩, fun _ => rfl⟩


end Go.Hp
