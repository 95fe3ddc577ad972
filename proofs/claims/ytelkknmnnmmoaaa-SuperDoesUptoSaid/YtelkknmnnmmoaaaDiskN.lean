import Derived.Test.YtelkknmnnmmoaaaDiskM
set_option linter.unusedVariables false
set_option linter.unusedSimpArgs false
namespace Go.Hp
open Go Go.Proofs
theorem ref_New_bad {I : Imm} {v : Int} (hb : v < 1 ∨ 8192 < v) : Spec Try.prog 22 [.int .i64 v] I [] (fun v' J L => v' = .tuple #[.pointer none, .int .i64 1] ∧ I = J ∧ L = []) := by
  refine Spec.of Try.func22 rfl Try.ntmps22 (Nat.le_of_ble_eq_true rfl) (fun F => ?_)
  try simp only [List.cons_append, List.nil_append, List.append_assoc]
  dsimp only [argsEnv]
  refine WP.seq ?_
  refine WP.region [0, 1] rfl ?_
  refine WP.val rfl rfl rfl rfl (Yld.assign rfl rfl) ?_
  refine WP.val rfl rfl rfl rfl (Yld.assign rfl rfl) ?_
  refine WP.nil ?_
  refine WP.next ?_
  refine WP.seq ?_
  refine WP.seq ?_
  refine WP.region [0, 1, 2, 3, 4, 5] rfl ?_
  refine WP.val rfl rfl rfl rfl (Yld.move rfl rfl) ?_
  refine WP.split rfl rfl rfl rfl (Yld.lss rfl rfl rfl) (fun h1 => ?_) (fun h1 => ?_)
  · refine WP.val rfl rfl rfl rfl (Yld.move rfl rfl) ?_
    refine WP.passG rfl rfl rfl rfl rfl rfl rfl rfl ?_
    refine WP.passG rfl rfl rfl rfl rfl rfl rfl rfl ?_
    refine WP.val rfl rfl rfl rfl (Yld.pickT rfl rfl rfl) ?_
    refine WP.nil ?_
    refine WP.sub [(0, _), (2, _), (3, _), (12, _)] ?_ ⟨rfl, rfl, rfl, rfl, trivial⟩
    refine WP.next ?_
    refine WP.condT rfl ?_
    refine WP.seq ?_
    refine WP.region [0, 1] rfl ?_
    refine WP.val rfl rfl rfl rfl (Yld.assign rfl rfl) ?_
    refine WP.val rfl rfl rfl rfl (Yld.assign rfl rfl) ?_
    refine WP.nil ?_
    refine WP.next ?_
    refine WP.ret ?_
    refine WP.fin .ret (.inr rfl) (res2 rfl rfl rfl) [] (by repeat (first | exact Take.nil | with_reducible apply Take.cons | apply Take.app | exact Rm.chunk | exact Rm.here | exact Rm.nil0 | apply Rm.skip | apply Rm.skipS | (focus (apply Take.all; (repeat (first | exact Rm.chunk | exact Rm.here | exact Rm.nil0 | apply Rm.skip | apply Rm.skipS)); done)) | apply Take.cons)) (by repeat (first | exact Leave.done | apply Leave.drop | apply Leave.dropS)) (Imm.le_refl _) ?_
    exact ⟨rfl, rfl, rfl⟩
  · refine WP.val rfl rfl rfl rfl (Yld.move rfl rfl) ?_
    refine WP.valG rfl rfl rfl rfl rfl rfl rfl (Yld.move rfl rfl) ?_
    refine WP.splitG rfl rfl rfl rfl rfl rfl rfl (Yld.gtr rfl rfl rfl) (fun h2 => ?_) (fun h2 => ?_)
    · refine WP.val rfl rfl rfl rfl (Yld.pickF rfl rfl rfl) ?_
      refine WP.nil ?_
      refine WP.sub [(0, _), (2, _), (3, _), (12, _)] ?_ ⟨rfl, rfl, rfl, rfl, trivial⟩
      refine WP.next ?_
      refine WP.condT rfl ?_
      refine WP.seq ?_
      refine WP.region [0, 1] rfl ?_
      refine WP.val rfl rfl rfl rfl (Yld.assign rfl rfl) ?_
      refine WP.val rfl rfl rfl rfl (Yld.assign rfl rfl) ?_
      refine WP.nil ?_
      refine WP.next ?_
      refine WP.ret ?_
      refine WP.fin .ret (.inr rfl) (res2 rfl rfl rfl) [] (by repeat (first | exact Take.nil | with_reducible apply Take.cons | apply Take.app | exact Rm.chunk | exact Rm.here | exact Rm.nil0 | apply Rm.skip | apply Rm.skipS | (focus (apply Take.all; (repeat (first | exact Rm.chunk | exact Rm.here | exact Rm.nil0 | apply Rm.skip | apply Rm.skipS)); done)) | apply Take.cons)) (by repeat (first | exact Leave.done | apply Leave.drop | apply Leave.dropS)) (Imm.le_refl _) ?_
      exact ⟨rfl, rfl, rfl⟩
    · exact absurd hb (by omega)

theorem ref_New {I : Imm} {n : Nat} (h1 : 1 ≤ n) (h2 : n ≤ 8192) : Spec Try.prog 22 [.int .i64 (n : Int)] I [] (fun v' J L => ∃ r, v' = .tuple #[.pointer (some ⟨r, 0, none⟩), .int .i64 0] ∧ IsRef J r n (Dk.new n) L) := by
  refine Spec.of Try.func22 rfl Try.ntmps22 (Nat.le_of_ble_eq_true rfl) (fun F => ?_)
  try simp only [List.cons_append, List.nil_append, List.append_assoc]
  dsimp only [argsEnv]
  refine WP.seq ?_
  refine WP.region [0, 1] rfl ?_
  refine WP.val rfl rfl rfl rfl (Yld.assign rfl rfl) ?_
  refine WP.val rfl rfl rfl rfl (Yld.assign rfl rfl) ?_
  refine WP.nil ?_
  refine WP.next ?_
  refine WP.seq ?_
  refine WP.seq ?_
  refine WP.region [0, 1, 2, 3, 4, 5] rfl ?_
  refine WP.val rfl rfl rfl rfl (Yld.move rfl rfl) ?_
  refine WP.val rfl rfl rfl rfl (Yld.lss rfl rfl rfl false (decide_eq_false (by omega))) ?_
  refine WP.val rfl rfl rfl rfl (Yld.move rfl rfl) ?_
  refine WP.valG rfl rfl rfl rfl rfl rfl rfl (Yld.move rfl rfl) ?_
  refine WP.valG rfl rfl rfl rfl rfl rfl rfl (Yld.gtr rfl rfl rfl false (decide_eq_false (by omega))) ?_
  refine WP.val rfl rfl rfl rfl (Yld.pickF rfl rfl rfl) ?_
  refine WP.nil ?_
  refine WP.sub [(0, _), (2, _), (3, _), (12, _)] ?_ ⟨rfl, rfl, rfl, rfl, trivial⟩
  refine WP.next ?_
  refine WP.condF rfl ?_
  refine WP.skip ?_
  refine WP.next ?_
  refine WP.seq ?_
  refine WP.region [0, 1, 2] rfl ?_
  refine WP.val rfl rfl rfl rfl (Yld.buildS (pl := [(2, 2, 1)]) rfl ty_zr_59 ty_zd_59 (by kernel_rfl) rfl (vs := [_]) rfl (segs := [(2, [_])]) rfl rfl (by repeat (first | exact SetSeg.nil | apply SetSeg.one | exact SetAt.zero | apply SetAt.succ))) ?_
  refine WP.loud rfl rfl ?_
  refine Op.box rfl rfl rfl rfl rfl (fun r => ?_)
  refine WP.val rfl rfl rfl rfl (Yld.assign rfl rfl) ?_
  refine WP.nil ?_
  refine WP.sub [(0, _), (2, _), (3, _), (4, _), (12, _)] ?_ ⟨rfl, rfl, rfl, rfl, rfl, trivial⟩
  refine WP.next ?_
  refine WP.seq ?_
  refine WP.seq ?_
  refine WP.region [0] rfl ?_
  refine WP.val rfl rfl rfl rfl (Yld.assign rfl rfl) ?_
  refine WP.nil ?_
  refine WP.next ?_
  refine WP.block ?_
  refine WP.loop (X := RX) (fun t : RX => [(0, .int .i64 (n : Int)), (4, .pointer (some ⟨r, 0, none⟩)), (5, .int .i64 (t.i : Int))]) (fun t => t.J) (fun t : RX => (r, row 59 [t.vp, .slice none 0 0, .int .i64 (-1), .bool false, .int .i64 0, .int .i64 0]) :: (t.Lp ++ F)) (fun t => t.ok I n) (fun t => n - t.i) ⟨0, I, [], .slice none 0 0, []⟩ ⟨Nat.zero_le _, Imm.le_refl _, rfl, by simp, .none0⟩ ⟨rfl, rfl, rfl, trivial⟩ rfl (by (try dsimp only); repeat (first | exact Rm.chunk | exact Rm.here | exact Rm.nil0 | apply Rm.skip | apply Rm.skipS | apply PX.cons | (apply PX.done; (repeat (first | exact Leave.done | apply Leave.drop | apply Leave.dropS)); done) | apply PX.app)) ?_
  rintro ⟨i, J, ps, vp, Lp⟩ ⟨hle, hJ, hlen, hall, hop⟩
  try dsimp only
  try simp only [List.cons_append, List.nil_append, List.append_assoc]
  refine WP.seq ?_
  refine WP.seq ?_
  refine WP.region [0, 1, 2] rfl ?_
  refine WP.val rfl rfl rfl rfl (Yld.move rfl rfl) ?_
  refine WP.val rfl rfl rfl rfl (Yld.move rfl rfl) ?_
  refine WP.split rfl rfl rfl rfl (Yld.lss rfl rfl rfl) (fun hlt => ?_) (fun hlt => ?_)
  · simp only at hle hJ hlen hall hop
    have hi : i < n := by first | omega | (simp only at hlt; omega)
    obtain ⟨Ap, cp, rfl, hcp⟩ := hop.slice
    refine WP.nil ?_
    refine WP.sub [(0, _), (4, _), (5, _), (17, _)] ?_ ⟨rfl, rfl, rfl, rfl, trivial⟩
    refine WP.next ?_
    refine WP.condT rfl ?_
    refine WP.skip ?_
    refine WP.next ?_
    refine WP.seq ?_
    refine WP.block ?_
    refine WP.seq ?_
    refine WP.region [0, 1] rfl ?_
    refine WP.loud rfl rfl ?_
    refine Op.make (l := 64) (c := 64) rfl ty_sl_24 ty_el_24 rfl rfl rfl rfl rfl (Nat.le_refl _) (by decide) (by decide) (fun bs => ?_)
    rw [bytes0]
    refine WP.share (fun J2 hJ2 hbs => ?_)
    have hnew : rsec J2 (.slice (some ⟨bs, 0, none⟩) 64 64) (List.replicate 64 0) := by
      have h := Im_lit (l := List.replicate 64 (0 : UInt8)) (sp := []) (c := 64) (by rw [List.append_nil]; exact hbs) (by simp)
      rw [List.length_replicate] at h
      exact ⟨by simp, h⟩
    have hall2 : ∀ v ∈ ps ++ [.slice (some ⟨bs, 0, none⟩) 64 64], rsec J2 v (List.replicate 64 0) := by
      intro v hv
      rcases List.mem_append.1 hv with h | h
      · exact (hall v h).mono hJ2
      · rw [List.mem_singleton.1 h]; exact hnew
    refine WP.val rfl rfl rfl rfl (Yld.assign rfl rfl) ?_
    refine WP.nil ?_
    refine WP.sub [(0, _), (4, _), (5, _), (6, _), (17, _)] ?_ ⟨rfl, rfl, rfl, rfl, rfl, trivial⟩
    refine WP.next ?_
    refine WP.region [0, 1, 2, 3, 4, 5, 6, 7, 8, 9, 10] rfl ?_
    refine WP.val rfl rfl rfl rfl (Yld.move rfl rfl) ?_
    refine WP.val rfl rfl rfl rfl (Yld.move rfl rfl) ?_
    refine WP.val rfl rfl rfl rfl (Yld.nilCheck rfl rfl) ?_
    refine WP.val rfl rfl rfl rfl (Yld.fieldAddr rfl ty_fd_59_0 rfl) ?_
    refine WP.val rfl rfl rfl rfl (Yld.load rfl ty_sc_56 rfl (by repeat (first | exact There.h | exact There.i (by assumption) | apply There.t | apply There.s)) rfl) ?_
    refine WP.val rfl rfl rfl rfl (Yld.move rfl rfl) ?_
    refine WP.loud rfl rfl ?_
    refine Op.buildSlice rfl ty_sl_56 ty_el2_56 rfl rfl rfl rfl (vs := [_]) rfl (segs := [(0, [_])]) (cs := [.slice (some ⟨bs, 0, none⟩) 64 64]) rfl rfl (by repeat (first | exact SetSeg.nil | apply SetSeg.one | exact SetAt.zero | apply SetAt.succ)) (fun bz => ?_)
    refine WP.loud rfl rfl ?_
    refine Op.append rfl ty_sl_56 ty_el_56 rfl rfl rfl rfl rfl hop (SlRd.lit (by repeat (first | exact There.h | exact There.i (by assumption) | apply There.t | apply There.s)) rfl (Nat.le_refl _)) (by repeat (first | exact Take.nil | with_reducible apply Take.cons | apply Take.app | exact Rm.chunk | exact Rm.here | exact Rm.nil0 | apply Rm.skip | apply Rm.skipS | (focus (apply Take.all; (repeat (first | exact Rm.chunk | exact Rm.here | exact Rm.nil0 | apply Rm.skip | apply Rm.skipS)); done)) | apply Take.cons)) rfl (by omega) (by omega) (fun vq Lq hq => ?_)
    try simp only [List.cons_append, List.nil_append, List.append_assoc]
    obtain ⟨Aq, cq, rfl, hcq⟩ := hq.slice
    refine WP.val rfl rfl rfl rfl (Yld.nilCheck rfl rfl) ?_
    refine WP.val rfl rfl rfl rfl (Yld.fieldAddr rfl ty_fd_59_0 rfl) ?_
    refine WP.loud rfl rfl ?_
    refine Op.store1 rfl rfl ty_sz_56 rfl rfl rfl (by repeat (first | exact Upd.head | apply Upd.tail | apply Upd.tailS)) (by repeat (first | exact SetAt.zero | apply SetAt.succ)) ?_
    refine WP.nil ?_
    refine WP.sub [(0, _), (4, _), (5, _), (6, _), (17, _)] ?_ ⟨rfl, rfl, rfl, rfl, rfl, trivial⟩
    refine WP.leave ?_
    refine WP.next ?_
    refine WP.region [0, 1, 2] rfl ?_
    refine WP.val rfl rfl rfl rfl (Yld.move rfl rfl) ?_
    refine WP.val rfl rfl rfl rfl (Yld.add64 rfl rfl rfl (by omega)) ?_
    refine WP.val rfl rfl rfl rfl (Yld.assign rfl rfl) ?_
    refine WP.nil ?_
    refine WP.sub [(0, _), (4, _), (5, _), (6, _), (17, _)] ?_ ⟨rfl, rfl, rfl, rfl, rfl, trivial⟩
    exact WP.again ⟨i + 1, J2, ps ++ [.slice (some ⟨bs, 0, none⟩) 64 64], .slice Aq (i + 1) cq, Lq⟩ ⟨hi, Imm.le_trans hJ hJ2, by simp [hlen], hall2, hq⟩ (by simp only; omega) ⟨rfl, rfl, rfl, trivial⟩ rfl (by (try dsimp only); repeat (first | exact Rm.chunk | exact Rm.here | exact Rm.nil0 | apply Rm.skip | apply Rm.skipS | apply PX.cons | (apply PX.done; (repeat (first | exact Leave.done | apply Leave.drop | apply Leave.dropS)); done) | apply PX.app))
  · simp only at hle hJ hlen hall hop
    obtain rfl : i = n := by first | omega | (simp only at hlt; omega)
    refine WP.nil ?_
    refine WP.sub [(0, _), (4, _), (5, _), (17, _)] ?_ ⟨rfl, rfl, rfl, rfl, trivial⟩
    refine WP.next ?_
    refine WP.condF rfl ?_
    refine WP.exit ?_
    refine WP.thenE ?_
    refine WP.thenE ?_
    refine WP.hit ?_
    refine WP.next ?_
    refine WP.seq ?_
    refine WP.region [0, 1, 2] rfl ?_
    refine WP.val rfl rfl rfl rfl (Yld.move rfl rfl) ?_
    refine WP.val rfl rfl rfl rfl (Yld.assign rfl rfl) ?_
    refine WP.val rfl rfl rfl rfl (Yld.assign rfl rfl) ?_
    refine WP.nil ?_
    refine WP.sub [(0, _), (2, _), (3, _), (4, _), (5, _), (17, _)] ?_ ⟨rfl, rfl, rfl, rfl, rfl, rfl, trivial⟩
    refine WP.next ?_
    refine WP.ret ?_
    refine WP.fin .ret (.inr rfl) (res2 rfl rfl rfl) ((r, row 59 _) :: (Lp ++ [])) (by repeat (first | exact Take.nil | with_reducible apply Take.cons | apply Take.app | exact Rm.chunk | exact Rm.here | exact Rm.nil0 | apply Rm.skip | apply Rm.skipS | (focus (apply Take.all; (repeat (first | exact Rm.chunk | exact Rm.here | exact Rm.nil0 | apply Rm.skip | apply Rm.skipS)); done)) | apply Take.cons)) (by repeat (first | exact Leave.done | apply Leave.drop | apply Leave.dropS)) hJ ?_
    refine ⟨r, rfl, .mk (x := Dk.new i) (Dk.new_ok h1 h2) (ws := []) rfl hop ⟨hlen, by simp [Dk.new], fun j v hv => ?_⟩ .none0 ⟨rfl, fun j e he => by cases he⟩⟩
    have hj : j < i := by have := (List.getElem?_eq_some_iff.1 hv).1; omega
    rw [show (Dk.new i).plat = List.replicate (i * 64) 0 from rfl, sec_zero hj]
    exact hall v (List.mem_of_getElem? hv)

theorem ref_seen {I : Imm} {r n : Nat} {x : Dk} {L : Chunks} (hd : IsRef I r n x L) {at_ : Nat} (hat : at_ < n) (hwb : x.waits.length ≤ 1954687338000) : Spec Try.prog 44 [.pointer (some ⟨r, 0, none⟩), .int .i64 (at_ : Int)] I L (fun v' J L' => I = J ∧ L = L' ∧ rsec I v' (sec x.now at_)) := by
  cases hd with
  | @mk vp vw ps ws Lp Lw ok fit op hp ow hw =>
  obtain ⟨n1, n2, lp, ln, hww, hl⟩ := id ok
  obtain ⟨Aw, cw, rfl, hcw⟩ := ow.slice
  obtain ⟨bp, cp, sp, rfl, rfl, hqp, hrp⟩ := op.get (by omega)
  have hwl := hw.len
  have hpl := hp.len
  refine Spec.of Try.func44 rfl Try.ntmps44 (Nat.le_of_ble_eq_true rfl) (fun F => ?_)
  try simp only [List.cons_append, List.nil_append, List.append_assoc]
  dsimp only [argsEnv]
  refine WP.seq ?_
  refine WP.region [0] rfl ?_
  refine WP.val rfl rfl rfl rfl (Yld.assign rfl rfl) ?_
  refine WP.nil ?_
  refine WP.next ?_
  refine WP.seq ?_
  refine WP.seq ?_
  refine WP.region [0, 1, 2, 3, 4, 5, 6] rfl ?_
  refine WP.val rfl rfl rfl rfl (Yld.move rfl rfl) ?_
  refine WP.val rfl rfl rfl rfl (Yld.nilCheck rfl rfl) ?_
  refine WP.val rfl rfl rfl rfl (Yld.fieldAddr rfl ty_fd_59_1 rfl) ?_
  refine WP.val rfl rfl rfl rfl (Yld.load rfl ty_sc_57 rfl (by repeat (first | exact There.h | exact There.i (by assumption) | apply There.t | apply There.s)) rfl) ?_
  refine WP.val rfl rfl rfl rfl (Yld.len rfl ty_sl_57 rfl) ?_
  refine WP.val rfl rfl rfl rfl (Yld.sub64 rfl rfl rfl (by omega)) ?_
  refine WP.val rfl rfl rfl rfl (Yld.assign rfl rfl) ?_
  refine WP.nil ?_
  refine WP.sub [(0, _), (1, _), (4, _), (5, _)] ?_ ⟨rfl, rfl, rfl, rfl, trivial⟩
  refine WP.next ?_
  refine WP.block ?_
  refine WP.loop (X := Nat) (fun k : Nat => [(0, .pointer (some ⟨r, 0, none⟩)), (1, .int .i64 (at_ : Int)), (5, .int .i64 ((k : Int) - 1))]) (fun _ => I) (fun _ => (r, row 59 [.slice (some ⟨bp, 0, none⟩) n cp, .slice Aw x.waits.length cw, .int .i64 x.left, .bool x.off, .int .i64 x.writes, .int .i64 x.syncs]) :: ((bp, row 24 (ps ++ sp)) :: (Lw ++ F))) (fun k => k ≤ ws.length ∧ ∀ i e, k ≤ i → ws[i]? = some e → e.1 ≠ at_) (fun k => k) ws.length ⟨Nat.le_refl _, fun i e hi he => by have := (List.getElem?_eq_some_iff.1 he).1; omega⟩ ⟨rfl, rfl, (congrArg (fun z => some (Value.int .i64 z)) (by omega)), trivial⟩ rfl (by (try dsimp only); repeat (first | exact Rm.chunk | exact Rm.here | exact Rm.nil0 | apply Rm.skip | apply Rm.skipS | apply PX.cons | (apply PX.done; (repeat (first | exact Leave.done | apply Leave.drop | apply Leave.dropS)); done) | apply PX.app)) ?_
  rintro k ⟨hk, hno⟩
  try dsimp only
  try simp only [List.cons_append, List.nil_append, List.append_assoc]
  refine WP.seq ?_
  refine WP.seq ?_
  refine WP.region [0, 1] rfl ?_
  refine WP.val rfl rfl rfl rfl (Yld.move rfl rfl) ?_
  refine WP.split rfl rfl rfl rfl (Yld.geq rfl rfl rfl) (fun hge => ?_) (fun hge => ?_)
  · have hkk : k - 1 < ws.length := by omega
    obtain ⟨bw, cpw, spw, hvw, rfl, hqw, hrw⟩ := ow.get (by omega)
    injection hvw with hAw _ hcw'
    subst hAw hcw'
    try simp only [List.cons_append, List.nil_append, List.append_assoc]
    refine WP.nil ?_
    refine WP.sub [(0, _), (1, _), (5, _), (13, _)] ?_ ⟨rfl, rfl, rfl, rfl, trivial⟩
    refine WP.next ?_
    refine WP.condT rfl ?_
    refine WP.skip ?_
    refine WP.next ?_
    refine WP.seq ?_
    refine WP.block ?_
    refine WP.seq ?_
    refine WP.region [0, 1, 2, 3, 4, 5, 6, 7, 8, 9] rfl ?_
    refine WP.val rfl rfl rfl rfl (Yld.move rfl rfl) ?_
    refine WP.val rfl rfl rfl rfl (Yld.nilCheck rfl rfl) ?_
    refine WP.val rfl rfl rfl rfl (Yld.fieldAddr rfl ty_fd_59_1 rfl) ?_
    refine WP.val rfl rfl rfl rfl (Yld.load rfl ty_sc_57 rfl (by repeat (first | exact There.h | exact There.i (by assumption) | apply There.t | apply There.s)) rfl) ?_
    refine WP.val rfl rfl rfl rfl (Yld.move rfl rfl) ?_
    refine WP.val rfl rfl rfl rfl (Yld.indexAddr (i := k - 1) rfl ty_sl_57 rfl (congrArg (fun z => some (Value.int .i64 z)) (by omega)) (by omega)) ?_
    refine WP.val rfl rfl rfl rfl (Yld.fieldAddr rfl ty_fd_77_0 rfl) ?_
    refine WP.val rfl rfl rfl rfl (Yld.load rfl ty_sc_3 rfl (by repeat (first | exact There.h | exact There.i (by assumption) | apply There.t | apply There.s)) (wv_at0 hkk spw)) ?_
    refine WP.val rfl rfl rfl rfl (Yld.move rfl rfl) ?_
    refine WP.split rfl rfl rfl rfl (Yld.eql rfl rfl rfl) (fun heq => ?_) (fun heq => ?_)
    · refine WP.nil ?_
      refine WP.sub [(0, _), (1, _), (5, _), (13, _), (25, _)] ?_ ⟨rfl, rfl, rfl, rfl, rfl, trivial⟩
      refine WP.next ?_
      refine WP.condT rfl ?_
      refine WP.seq ?_
      refine WP.region [0, 1, 2, 3, 4, 5, 6, 7, 8] rfl ?_
      refine WP.val rfl rfl rfl rfl (Yld.move rfl rfl) ?_
      refine WP.val rfl rfl rfl rfl (Yld.nilCheck rfl rfl) ?_
      refine WP.val rfl rfl rfl rfl (Yld.fieldAddr rfl ty_fd_59_1 rfl) ?_
      refine WP.val rfl rfl rfl rfl (Yld.load rfl ty_sc_57 rfl (by repeat (first | exact There.h | exact There.i (by assumption) | apply There.t | apply There.s)) rfl) ?_
      refine WP.val rfl rfl rfl rfl (Yld.move rfl rfl) ?_
      refine WP.val rfl rfl rfl rfl (Yld.indexAddr (i := k - 1) rfl ty_sl_57 rfl (congrArg (fun z => some (Value.int .i64 z)) (by omega)) (by omega)) ?_
      refine WP.val rfl rfl rfl rfl (Yld.fieldAddr rfl ty_fd_77_1 rfl) ?_
      refine WP.val rfl rfl rfl rfl (Yld.load rfl ty_sc_24 rfl (by repeat (first | exact There.h | exact There.i (by assumption) | apply There.t | apply There.s)) (wv_at1 hkk spw)) ?_
      refine WP.val rfl rfl rfl rfl (Yld.assign rfl rfl) ?_
      refine WP.nil ?_
      refine WP.sub [(0, _), (1, _), (4, _), (5, _), (13, _), (25, _)] ?_ ⟨rfl, rfl, rfl, rfl, rfl, rfl, trivial⟩
      refine WP.next ?_
      refine WP.ret ?_
      refine WP.fin .ret (.inr rfl) (res1 rfl rfl) ((r, row 59 [_, _, .int .i64 x.left, .bool x.off, .int .i64 x.writes, .int .i64 x.syncs]) :: ((bp, row 24 (ps ++ sp)) :: [(bw, row 77 (wv ws ++ spw))])) (by repeat (first | exact Take.nil | with_reducible apply Take.cons | apply Take.app | exact Rm.chunk | exact Rm.here | exact Rm.nil0 | apply Rm.skip | apply Rm.skipS | (focus (apply Take.all; (repeat (first | exact Rm.chunk | exact Rm.here | exact Rm.nil0 | apply Rm.skip | apply Rm.skipS)); done)) | apply Take.cons)) (by repeat (first | exact Leave.done | apply Leave.drop | apply Leave.dropS)) (Imm.le_refl _) ?_
      obtain ⟨s, hs1, hs2⟩ := hw.at_ (k - 1) _ (List.getElem?_eq_getElem hkk)
      have hat : ws[k - 1].1 = at_ := by omega
      rw [hat] at hs1
      refine ⟨rfl, rfl, ?_⟩
      rw [fit, sec_full_last hww lp hs1 (fun i e hi he => ?_)]
      · exact hs2
      · have hil : i < ws.length := by rw [hwl]; exact (List.getElem?_eq_some_iff.1 he).1
        obtain ⟨s', h1', _⟩ := hw.at_ i _ (List.getElem?_eq_getElem hil)
        rw [he] at h1'
        rw [congrArg Prod.fst (Option.some.inj h1')]
        exact hno i _ (by omega) (List.getElem?_eq_getElem hil)
    · refine WP.nil ?_
      refine WP.sub [(0, _), (1, _), (5, _), (13, _), (25, _)] ?_ ⟨rfl, rfl, rfl, rfl, rfl, trivial⟩
      refine WP.next ?_
      refine WP.condF rfl ?_
      refine WP.skip ?_
      refine WP.leave ?_
      refine WP.next ?_
      refine WP.region [0, 1, 2] rfl ?_
      refine WP.val rfl rfl rfl rfl (Yld.move rfl rfl) ?_
      refine WP.val rfl rfl rfl rfl (Yld.sub64 rfl rfl rfl (by omega)) ?_
      refine WP.val rfl rfl rfl rfl (Yld.assign rfl rfl) ?_
      refine WP.nil ?_
      refine WP.sub [(0, _), (1, _), (5, _), (13, _), (25, _)] ?_ ⟨rfl, rfl, rfl, rfl, rfl, trivial⟩
      refine WP.again (k - 1) ⟨by omega, fun i e hi he => ?_⟩ (by omega) ⟨rfl, rfl, (congrArg (fun z => some (Value.int .i64 z)) (by omega)), trivial⟩ rfl (by (try dsimp only); repeat (first | exact Rm.chunk | exact Rm.here | exact Rm.nil0 | apply Rm.skip | apply Rm.skipS | apply PX.cons | (apply PX.done; (repeat (first | exact Leave.done | apply Leave.drop | apply Leave.dropS)); done) | apply PX.app))
      by_cases hik : k ≤ i
      · exact hno i e hik he
      · obtain rfl : i = k - 1 := by omega
        have he' := (List.getElem?_eq_some_iff.1 he).2
        rw [← he']; omega
  · obtain rfl : k = 0 := by omega
    refine WP.nil ?_
    refine WP.sub [(0, _), (1, _), (5, _), (13, _)] ?_ ⟨rfl, rfl, rfl, rfl, trivial⟩
    refine WP.next ?_
    refine WP.condF rfl ?_
    refine WP.exit ?_
    refine WP.thenE ?_
    refine WP.thenE ?_
    refine WP.hit ?_
    refine WP.next ?_
    refine WP.seq ?_
    refine WP.region [0, 1, 2, 3, 4, 5, 6, 7] rfl ?_
    refine WP.val rfl rfl rfl rfl (Yld.move rfl rfl) ?_
    refine WP.val rfl rfl rfl rfl (Yld.nilCheck rfl rfl) ?_
    refine WP.val rfl rfl rfl rfl (Yld.fieldAddr rfl ty_fd_59_0 rfl) ?_
    refine WP.val rfl rfl rfl rfl (Yld.load rfl ty_sc_56 rfl (by repeat (first | exact There.h | exact There.i (by assumption) | apply There.t | apply There.s)) rfl) ?_
    refine WP.val rfl rfl rfl rfl (Yld.move rfl rfl) ?_
    refine WP.val rfl rfl rfl rfl (Yld.indexAddr (i := at_) rfl ty_sl_56 rfl rfl (by omega)) ?_
    refine WP.val rfl rfl rfl rfl (Yld.load rfl ty_sc_24 rfl (by repeat (first | exact There.h | exact There.i (by assumption) | apply There.t | apply There.s)) (val_at (by omega) sp)) ?_
    refine WP.val rfl rfl rfl rfl (Yld.assign rfl rfl) ?_
    refine WP.nil ?_
    refine WP.sub [(0, _), (1, _), (4, _), (5, _), (13, _)] ?_ ⟨rfl, rfl, rfl, rfl, rfl, trivial⟩
    refine WP.next ?_
    refine WP.ret ?_
    refine WP.fin .ret (.inr rfl) (res1 rfl rfl) ((r, row 59 [_, _, .int .i64 x.left, .bool x.off, .int .i64 x.writes, .int .i64 x.syncs]) :: ((bp, row 24 (ps ++ sp)) :: Lw)) (by repeat (first | exact Take.nil | with_reducible apply Take.cons | apply Take.app | exact Rm.chunk | exact Rm.here | exact Rm.nil0 | apply Rm.skip | apply Rm.skipS | (focus (apply Take.all; (repeat (first | exact Rm.chunk | exact Rm.here | exact Rm.nil0 | apply Rm.skip | apply Rm.skipS)); done)) | apply Take.cons)) (by repeat (first | exact Leave.done | apply Leave.drop | apply Leave.dropS)) (Imm.le_refl _) ?_
    refine ⟨rfl, rfl, ?_⟩
    rw [fit, sec_full_none _ _ hww lp (fun e he => ?_)]
    · exact hp.at_ at_ _ (List.getElem?_eq_getElem (by omega))
    · obtain ⟨i, hi, rfl⟩ := List.getElem_of_mem he
      obtain ⟨s', h1', _⟩ := hw.at_ i _ (List.getElem?_eq_getElem (by omega))
      rw [List.getElem?_eq_getElem hi] at h1'
      rw [congrArg Prod.fst (Option.some.inj h1')]
      exact hno i _ (Nat.zero_le _) (List.getElem?_eq_getElem (by omega))


end Go.Hp
