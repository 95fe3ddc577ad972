import Derived.Test.YtbgkfndnbngnmaaSegY
import Derived.Test.YtbgkfndnbngnmaaSegO
set_option linter.unusedVariables false
set_option linter.unusedSimpArgs false
namespace Go.Hp
open Go Go.Proofs
theorem seg_apart {I : Imm} {l : List (Pt × Value)} {v : Value} (hr : RParts I v l) (hf : Fulls l l.length) (hn : l.length ≤ 64) (hdl : ∀ e ∈ l, e.1.data.length ≤ 198) : Spec Try.prog 13 [v] I [] (fun v J L => v = .bool true ∧ I = J ∧ L = []) := by
  refine Spec.of Try.func13 rfl Try.ntmps13 (Nat.le_of_ble_eq_true rfl) (fun F => ?_)
  try simp only [List.cons_append, List.nil_append, List.append_assoc]
  dsimp only [argsEnv]
  refine WP.seq ?_
  refine WP.region [0] rfl ?_
  refine WP.val rfl rfl rfl rfl (Yld.assign rfl rfl) ?_
  refine WP.nil ?_
  refine WP.next ?_
  refine WP.seq ?_
  refine WP.seq ?_
  refine WP.region [0] rfl ?_
  refine WP.val rfl rfl rfl rfl (Yld.assign rfl rfl) ?_
  refine WP.nil ?_
  refine WP.next ?_
  refine WP.block ?_
  refine WP.loop (X := Nat) (fun i : Nat => [(0, v), (3, .int .i64 (i : Int))]) (fun _ => I) (fun _ => F) (fun i => i ≤ l.length) (fun i => l.length - i) 0 (Nat.zero_le _) ⟨rfl, rfl, trivial⟩ rfl (by (try dsimp only); repeat (first | exact Rm.chunk | exact Rm.here | exact Rm.nil0 | apply Rm.skip | apply Rm.skipS | apply PX.cons | (apply PX.done; (repeat (first | exact Leave.done | apply Leave.drop | apply Leave.dropS)); done) | apply PX.app)) ?_
  intro i hi0; have hi0 : i ≤ l.length := hi0
  try dsimp only
  try simp only [List.cons_append, List.nil_append, List.append_assoc]
  refine WP.seq ?_
  refine WP.seq ?_
  refine WP.region [0, 1, 2, 3] rfl ?_
  refine WP.val rfl rfl rfl rfl (Yld.move rfl rfl) ?_
  refine WP.val rfl rfl rfl rfl (Yld.move rfl rfl) ?_
  refine WP.val rfl rfl rfl rfl (Yld.lenR hr.rd rfl ty_sl_23 rfl) ?_
  refine WP.split rfl rfl rfl rfl (Yld.lss rfl rfl rfl) (fun hlt => ?_) (fun hlt => ?_)
  · have hi : i < l.length := by omega
    obtain ⟨bp, kp, cp, Tp, fp, arp, rfl, hbp, _, hcp⟩ := hr.cells hi
    have hdt := hr.data _ (List.getElem_mem hi)
    have hd198 := hdl _ (List.getElem_mem hi)
    refine WP.nil ?_
    refine WP.sub [(0, _), (3, _), (8, _)] ?_ ⟨rfl, rfl, rfl, trivial⟩
    refine WP.next ?_
    refine WP.condT rfl ?_
    refine WP.skip ?_
    refine WP.next ?_
    refine WP.seq ?_
    refine WP.block ?_
    refine WP.seq ?_
    refine WP.region [0] rfl ?_
    refine WP.val rfl rfl rfl rfl (Yld.assign rfl rfl) ?_
    refine WP.nil ?_
    refine WP.next ?_
    refine WP.block ?_
    refine WP.loop (X := Nat) (fun k : Nat => [(0, .slice (some ⟨bp, kp, none⟩) l.length cp), (3, .int .i64 (i : Int)), (4, .int .i64 (k : Int))]) (fun _ => I) (fun _ => F) (fun k => k ≤ l[i].1.data.length) (fun k => l[i].1.data.length - k) 0 (Nat.zero_le _) ⟨rfl, rfl, rfl, trivial⟩ rfl (by (try dsimp only); repeat (first | exact Rm.chunk | exact Rm.here | exact Rm.nil0 | apply Rm.skip | apply Rm.skipS | apply PX.cons | (apply PX.done; (repeat (first | exact Leave.done | apply Leave.drop | apply Leave.dropS)); done) | apply PX.app)) ?_
    intro k hk0; have hk0 : k ≤ l[i].1.data.length := hk0
    try dsimp only
    try simp only [List.cons_append, List.nil_append, List.append_assoc]
    refine WP.seq ?_
    refine WP.seq ?_
    refine WP.region [0, 1, 2, 3, 4, 5, 6, 7] rfl ?_
    refine WP.val rfl rfl rfl rfl (Yld.move rfl rfl) ?_
    refine WP.val rfl rfl rfl rfl (Yld.move rfl rfl) ?_
    refine WP.val rfl rfl rfl rfl (Yld.move rfl rfl) ?_
    refine WP.val rfl rfl rfl rfl (Yld.indexAddr (i := i) rfl ty_sl_23 rfl rfl hi) ?_
    refine WP.val rfl rfl rfl rfl (Yld.fieldAddr rfl ty_fd_35_5 rfl) ?_
    refine WP.val rfl rfl rfl rfl (Yld.loadC (v := l[i].2) rfl ty_sc_22 rfl (There.i hbp) (hcp 5 _ rfl)) ?_
    refine WP.val rfl rfl rfl rfl (Yld.lenR hdt rfl ty_sl_22 rfl) ?_
    refine WP.split rfl rfl rfl rfl (Yld.lss rfl rfl rfl) (fun hlt2 => ?_) (fun hlt2 => ?_)
    · have hk : k < l[i].1.data.length := by omega
      obtain ⟨bd, kd, cd, Td, fd, ard, ed, hcd, hbd, hdd⟩ := hdt.get (by omega)
      have edd := take_cells hdd k (byteV l[i].1.data[k]) (by simp [bytesV, hk]) (by rw [bytesV_len]; exact hk)
      rw [Array.getElem?_toList] at edd
      have hfk := hf i hi hi k hk
      refine WP.nil ?_
      refine WP.sub [(0, _), (3, _), (4, _), (18, _)] ?_ ⟨rfl, rfl, rfl, rfl, trivial⟩
      refine WP.next ?_
      refine WP.condT rfl ?_
      refine WP.skip ?_
      refine WP.next ?_
      refine WP.seq ?_
      refine WP.block ?_
      refine WP.seq ?_
      refine WP.region [0, 1, 2, 3, 4, 5, 6, 7, 8, 9, 10, 11] rfl ?_
      refine WP.val rfl rfl rfl rfl (Yld.move rfl rfl) ?_
      refine WP.val rfl rfl rfl rfl (Yld.move rfl rfl) ?_
      refine WP.val rfl rfl rfl rfl (Yld.indexAddr (i := i) rfl ty_sl_23 rfl rfl hi) ?_
      refine WP.val rfl rfl rfl rfl (Yld.fieldAddr rfl ty_fd_35_5 rfl) ?_
      refine WP.val rfl rfl rfl rfl (Yld.loadC (v := .slice (some ⟨bd, kd, none⟩) l[i].1.data.length cd) rfl ty_sc_22 rfl (There.i hbp) (by rw [← ed]; exact hcp 5 _ rfl)) ?_
      refine WP.val rfl rfl rfl rfl (Yld.move rfl rfl) ?_
      refine WP.val rfl rfl rfl rfl (Yld.indexAddr (i := k) rfl ty_sl_22 rfl rfl hk) ?_
      refine WP.val rfl rfl rfl rfl (Yld.loadC rfl ty_sc_5 rfl (There.i hbd) (by rw [Nat.mul_one]; exact edd)) ?_
      refine WP.val rfl rfl rfl rfl (Yld.move rfl rfl) ?_
      refine WP.val rfl rfl rfl rfl (Yld.add64 rfl rfl rfl (by omega)) ?_
      rw [show (200 : Int) + (i : Int) = ((200 + i : Nat) : Int) by omega]
      refine WP.val rfl rfl rfl rfl (Yld.convN8 (200 + i) rfl ty_un_3 ty_ik_5 rfl) ?_
      refine WP.val rfl rfl rfl rfl (Yld.neq rfl rfl rfl false (decide_eq_false (by rw [hfk]; simp))) ?_
      refine WP.nil ?_
      refine WP.sub [(0, _), (3, _), (4, _), (18, _), (32, _)] ?_ ⟨rfl, rfl, rfl, rfl, rfl, trivial⟩
      refine WP.next ?_
      refine WP.condF rfl ?_
      refine WP.skip ?_
      refine WP.leave ?_
      refine WP.next ?_
      refine WP.region [0, 1, 2] rfl ?_
      refine WP.val rfl rfl rfl rfl (Yld.move rfl rfl) ?_
      refine WP.val rfl rfl rfl rfl (Yld.add64 rfl rfl rfl (by omega)) ?_
      refine WP.val rfl rfl rfl rfl (Yld.assign rfl rfl) ?_
      refine WP.nil ?_
      refine WP.sub [(0, _), (3, _), (4, _), (18, _), (32, _)] ?_ ⟨rfl, rfl, rfl, rfl, rfl, trivial⟩
      exact WP.again (k + 1) (show k + 1 ≤ l[i].1.data.length by omega) (show l[i].1.data.length - (k + 1) < l[i].1.data.length - k by omega) ⟨rfl, rfl, rfl, trivial⟩ rfl (by (try dsimp only); repeat (first | exact Rm.chunk | exact Rm.here | exact Rm.nil0 | apply Rm.skip | apply Rm.skipS | apply PX.cons | (apply PX.done; (repeat (first | exact Leave.done | apply Leave.drop | apply Leave.dropS)); done) | apply PX.app))
    · refine WP.nil ?_
      refine WP.sub [(0, _), (3, _), (4, _), (18, _)] ?_ ⟨rfl, rfl, rfl, rfl, trivial⟩
      refine WP.next ?_
      refine WP.condF rfl ?_
      refine WP.exit ?_
      refine WP.thenE ?_
      refine WP.thenE ?_
      refine WP.hit ?_
      refine WP.leave ?_
      refine WP.next ?_
      refine WP.region [0, 1, 2] rfl ?_
      refine WP.val rfl rfl rfl rfl (Yld.move rfl rfl) ?_
      refine WP.val rfl rfl rfl rfl (Yld.add64 rfl rfl rfl (by omega)) ?_
      refine WP.val rfl rfl rfl rfl (Yld.assign rfl rfl) ?_
      refine WP.nil ?_
      refine WP.sub [(0, _), (3, _), (4, _), (18, _)] ?_ ⟨rfl, rfl, rfl, rfl, trivial⟩
      exact WP.again (i + 1) (show i + 1 ≤ l.length by omega) (show l.length - (i + 1) < l.length - i by omega) ⟨rfl, rfl, trivial⟩ rfl (by (try dsimp only); repeat (first | exact Rm.chunk | exact Rm.here | exact Rm.nil0 | apply Rm.skip | apply Rm.skipS | apply PX.cons | (apply PX.done; (repeat (first | exact Leave.done | apply Leave.drop | apply Leave.dropS)); done) | apply PX.app))
  · refine WP.nil ?_
    refine WP.sub [(0, _), (3, _), (8, _)] ?_ ⟨rfl, rfl, rfl, trivial⟩
    refine WP.next ?_
    refine WP.condF rfl ?_
    refine WP.exit ?_
    refine WP.thenE ?_
    refine WP.thenE ?_
    refine WP.hit ?_
    refine WP.next ?_
    refine WP.seq ?_
    refine WP.region [0] rfl ?_
    refine WP.val rfl rfl rfl rfl (Yld.assign rfl rfl) ?_
    refine WP.nil ?_
    refine WP.next ?_
    refine WP.ret ?_
    refine WP.fin .ret (.inr rfl) (res1 rfl rfl) [] (by repeat (first | exact Take.nil | with_reducible apply Take.cons | apply Take.app | exact Rm.chunk | exact Rm.here | exact Rm.nil0 | apply Rm.skip | apply Rm.skipS | (focus (apply Take.all; (repeat (first | exact Rm.chunk | exact Rm.here | exact Rm.nil0 | apply Rm.skip | apply Rm.skipS)); done)) | apply Take.cons)) (by repeat (first | exact Leave.done | apply Leave.drop | apply Leave.dropS)) (Imm.le_refl _) ?_
    exact ⟨rfl, rfl, rfl⟩


theorem seg_SameListL {I : Imm} {l1 l2 : List (Pt × Value)} {v u : Value} {Lo Ld : Chunks} (ho : Own 35 6 v (pcells l1) l1.length Lo) (hd : OData l1 Ld) (h2 : RParts I u l2) (heq : l1.map (·.1) = l2.map (·.1)) (hlen : l1.length = l2.length) (hn : l1.length ≤ 2199023255552) : Spec Try.prog 11 [v, u] I (Lo ++ Ld) (fun v' J L => I = J ∧ L = Lo ++ Ld ∧ v' = .bool true) := by
  have h := Spec.lendL (P := Try.prog) (f := 11) (args := [v, u]) (L0 := []) (R := fun v _ L => v = .bool true ∧ L = []) (Lo ++ Ld) (I := I) (fun J hJ hall => (seg_SameList (RParts.own ho hd hall) (h2.mono hJ) heq hlen hn).mono (by rintro v J' L _ ⟨h1, h2, h3⟩; exact ⟨h2, h1, h3⟩))
  rw [List.append_nil] at h
  exact h.mono (by rintro v J L _ ⟨h1, L1, h2, h3, h4⟩; subst h4; exact ⟨h1, by rw [h2, List.append_nil], h3⟩)
theorem cutL_len {no place era : Int} {b : List UInt8} : (pcutL no place era b).length ≤ 64 := by
  by_cases h : pcutE no place era b = 0
  · rw [cutL_is h, List.length_map, List.length_range]; exact (cut_ok h).m64
  · have e : pcutL no place era b = [] := if_neg h
    rw [e]; exact Nat.zero_le _
theorem cutL_data {no place era : Int} {b : List UInt8} {p : Pt} (h : p ∈ pcutL no place era b) : p.data.length ≤ 198 := by
  by_cases h0 : pcutE no place era b = 0
  · rw [cutL_is h0] at h
    obtain ⟨i, _, rfl⟩ := List.mem_map.1 h
    show ((b.drop (i * 198)).take 198).length ≤ 198
    rw [List.length_take]; exact Nat.min_le_left _ _
  · have e : pcutL no place era b = [] := if_neg h0
    rw [e] at h; cases h
theorem seg_SegParts {I : Imm} {no place era : Int} {b : List UInt8} {vb : Value} (hb : SlRd (Im I) vb b.length 1 (bytesV b)) (hbl : b.length ≤ 140737488351232) (hno : -9223372036854775808 ≤ no ∧ no ≤ 9223372036854775807) (hpl : -9223372036854775808 ≤ place ∧ place ≤ 9223372036854775807) {ls : List (Pt × Value)} {vl : Value} (hrl : RParts I vl ls) (hln : ls.length ≤ 2199023255552) : Spec Try.prog 3 [.int .i64 no, .int .i64 place, .int .i64 era, vb, vl] I [] (fun v J L => v = .bool true ∧ L = []) := by
  refine Spec.of Try.func3 rfl Try.ntmps3 (Nat.le_of_ble_eq_true rfl) (fun F => ?_)
  try simp only [List.cons_append, List.nil_append, List.append_assoc]
  dsimp only [argsEnv]
  refine WP.seq ?_
  refine WP.region [0] rfl ?_
  refine WP.val rfl rfl rfl rfl (Yld.assign rfl rfl) ?_
  refine WP.nil ?_
  refine WP.next ?_
  refine WP.seq ?_
  refine WP.region [0, 1] rfl ?_
  refine WP.loud rfl rfl ?_
  refine Op.call seg_awake rfl Try.func8 rfl rfl rfl rfl (by repeat (first | exact Take.nil | with_reducible apply Take.cons | apply Take.app | exact Rm.chunk | exact Rm.here | exact Rm.nil0 | apply Rm.skip | apply Rm.skipS | (focus (apply Take.all; (repeat (first | exact Rm.chunk | exact Rm.here | exact Rm.nil0 | apply Rm.skip | apply Rm.skipS)); done)) | apply Take.cons)) ?_
  rintro v Ja L1 hJa ⟨rfl, rfl⟩
  try simp only [List.cons_append, List.nil_append, List.append_assoc]
  have hb := hb.mono (fun b o h => hJa.2 b o h)
  have hrl := hrl.mono hJa
  refine WP.val rfl rfl rfl rfl (Yld.assign rfl rfl) ?_
  refine WP.nil ?_
  refine WP.sub [(0, _), (1, _), (2, _), (3, _), (4, _), (10, _), (11, _)] ?_ ⟨rfl, rfl, rfl, rfl, rfl, rfl, rfl, trivial⟩
  refine WP.next ?_
  refine WP.seq ?_
  refine WP.region [0, 1, 2] rfl ?_
  refine WP.val rfl rfl rfl rfl (Yld.move rfl rfl) ?_
  refine WP.loud rfl rfl ?_
  refine Op.append rfl ty_sl_22 ty_el_22 rfl rfl rfl rfl rfl .none0 (hb.mono (fun b o h => There.i h)) (by repeat (first | exact Take.nil | with_reducible apply Take.cons | apply Take.app | exact Rm.chunk | exact Rm.here | exact Rm.nil0 | apply Rm.skip | apply Rm.skipS | (focus (apply Take.all; (repeat (first | exact Rm.chunk | exact Rm.here | exact Rm.nil0 | apply Rm.skip | apply Rm.skipS)); done)) | apply Take.cons)) (bytesV_one _) (by omega) (by omega) (fun vp Lp hp => ?_)
  rw [List.nil_append, Nat.zero_add] at hp
  try simp only [List.cons_append, List.nil_append, List.append_assoc]
  refine WP.val rfl rfl rfl rfl (Yld.assign rfl rfl) ?_
  refine WP.nil ?_
  refine WP.sub [(0, _), (1, _), (2, _), (3, _), (4, _), (10, _), (11, _), (12, _)] ?_ ⟨rfl, rfl, rfl, rfl, rfl, rfl, rfl, rfl, trivial⟩
  refine WP.shareOwn hp (by repeat (first | exact Take.nil | with_reducible apply Take.cons | apply Take.app | exact Rm.chunk | exact Rm.here | exact Rm.nil0 | apply Rm.skip | apply Rm.skipS | (focus (apply Take.all; (repeat (first | exact Rm.chunk | exact Rm.here | exact Rm.nil0 | apply Rm.skip | apply Rm.skipS)); done)) | apply Take.cons)) (fun J1 hJ1 hq => ?_)
  have hb := hb.mono (fun b o h => hJ1.2 b o h)
  have hrl := hrl.mono hJ1
  refine WP.next ?_
  refine WP.seq ?_
  refine WP.region [0, 1, 2, 3, 4, 5, 6, 7, 8, 9] rfl ?_
  refine WP.val rfl rfl rfl rfl (Yld.move rfl rfl) ?_
  refine WP.val rfl rfl rfl rfl (Yld.move rfl rfl) ?_
  refine WP.val rfl rfl rfl rfl (Yld.move rfl rfl) ?_
  refine WP.val rfl rfl rfl rfl (Yld.move rfl rfl) ?_
  refine WP.loud rfl rfl ?_
  refine Op.call (seg_Parts hq hbl hno hpl) rfl Try.func9 rfl rfl rfl rfl (by repeat (first | exact Take.nil | with_reducible apply Take.cons | apply Take.app | exact Rm.chunk | exact Rm.here | exact Rm.nil0 | apply Rm.skip | apply Rm.skipS | (focus (apply Take.all; (repeat (first | exact Rm.chunk | exact Rm.here | exact Rm.nil0 | apply Rm.skip | apply Rm.skipS)); done)) | apply Take.cons)) ?_
  rintro v J2 L3 hJ2 ⟨vo, lx, Lo, Ld, rfl, hlx, how, hod, rfl⟩
  try simp only [List.cons_append, List.nil_append, List.append_assoc]
  have hb := hb.mono (fun b o h => hJ2.2 b o h)
  have hq := hq.mono (fun b o h => hJ2.2 b o h)
  have hrl := hrl.mono hJ2
  have hx64 : lx.length ≤ 64 := by have := congrArg List.length hlx; rw [List.length_map] at this; rw [this]; exact cutL_len
  obtain ⟨Ax, cx, rfl, _⟩ := how.slice
  refine WP.val rfl rfl rfl rfl (Yld.move rfl rfl) ?_
  refine WP.val rfl rfl rfl rfl (Yld.extract rfl rfl rfl) ?_
  refine WP.val rfl rfl rfl rfl (Yld.extract rfl rfl rfl) ?_
  refine WP.val rfl rfl rfl rfl (Yld.assign rfl rfl) ?_
  refine WP.val rfl rfl rfl rfl (Yld.assign rfl rfl) ?_
  refine WP.nil ?_
  refine WP.sub [(0, _), (1, _), (2, _), (3, _), (4, _), (10, _), (11, _), (12, _), (13, _), (14, _)] ?_ ⟨rfl, rfl, rfl, rfl, rfl, rfl, rfl, rfl, rfl, rfl, trivial⟩
  refine WP.next ?_
  refine WP.seq ?_
  refine WP.region [0, 1, 2, 3, 4, 5, 6, 7, 8, 9] rfl ?_
  refine WP.val rfl rfl rfl rfl (Yld.move rfl rfl) ?_
  refine WP.val rfl rfl rfl rfl (Yld.move rfl rfl) ?_
  refine WP.val rfl rfl rfl rfl (Yld.move rfl rfl) ?_
  refine WP.val rfl rfl rfl rfl (Yld.move rfl rfl) ?_
  refine WP.loud rfl rfl ?_
  refine Op.call (ref_Parts hb hbl hno hpl) rfl Try.func10 rfl rfl rfl rfl (by repeat (first | exact Take.nil | with_reducible apply Take.cons | apply Take.app | exact Rm.chunk | exact Rm.here | exact Rm.nil0 | apply Rm.skip | apply Rm.skipS | (focus (apply Take.all; (repeat (first | exact Rm.chunk | exact Rm.here | exact Rm.nil0 | apply Rm.skip | apply Rm.skipS)); done)) | apply Take.cons)) ?_
  rintro v J3 L4 hJ3 ⟨vr, ly, Lo2, Ld2, rfl, hly, how2, hod2, rfl⟩
  try simp only [List.cons_append, List.nil_append, List.append_assoc]
  have hb := hb.mono (fun b o h => hJ3.2 b o h)
  have hq := hq.mono (fun b o h => hJ3.2 b o h)
  have hrl := hrl.mono hJ3
  refine WP.val rfl rfl rfl rfl (Yld.move rfl rfl) ?_
  refine WP.val rfl rfl rfl rfl (Yld.extract rfl rfl rfl) ?_
  refine WP.val rfl rfl rfl rfl (Yld.extract rfl rfl rfl) ?_
  refine WP.val rfl rfl rfl rfl (Yld.assign rfl rfl) ?_
  refine WP.val rfl rfl rfl rfl (Yld.assign rfl rfl) ?_
  refine WP.nil ?_
  refine WP.sub [(0, _), (1, _), (2, _), (3, _), (4, _), (10, _), (11, _), (12, _), (13, _), (14, _), (15, _), (16, _)] ?_ ⟨rfl, rfl, rfl, rfl, rfl, rfl, rfl, rfl, rfl, rfl, rfl, rfl, trivial⟩
  refine WP.shareParts how2 hod2 (by repeat (first | exact Take.nil | with_reducible apply Take.cons | apply Take.app | exact Rm.chunk | exact Rm.here | exact Rm.nil0 | apply Rm.skip | apply Rm.skipS | (focus (apply Take.all; (repeat (first | exact Rm.chunk | exact Rm.here | exact Rm.nil0 | apply Rm.skip | apply Rm.skipS)); done)) | apply Take.cons)) (fun J4 hJ4 hry => ?_)
  have hb := hb.mono (fun b o h => hJ4.2 b o h)
  have hq := hq.mono (fun b o h => hJ4.2 b o h)
  have hrl := hrl.mono hJ4
  have hxy : lx.map (·.1) = ly.map (·.1) := hlx.trans hly.symm
  have hxyl : lx.length = ly.length := by have := congrArg List.length hxy; simpa using this
  refine WP.next ?_
  refine WP.seq ?_
  refine WP.region [0, 1, 2, 3] rfl ?_
  refine WP.val rfl rfl rfl rfl (Yld.move rfl rfl) ?_
  refine WP.val rfl rfl rfl rfl (Yld.move rfl rfl) ?_
  refine WP.loud rfl rfl ?_
  refine Op.call (seg_SameListL how hod hry hxy hxyl (by omega)) rfl Try.func11 rfl rfl rfl rfl (by repeat (first | exact Take.nil | with_reducible apply Take.cons | apply Take.app | exact Rm.chunk | exact Rm.here | exact Rm.nil0 | apply Rm.skip | apply Rm.skipS | (focus (apply Take.all; (repeat (first | exact Rm.chunk | exact Rm.here | exact Rm.nil0 | apply Rm.skip | apply Rm.skipS)); done)) | apply Take.cons)) ?_
  rintro v J L5 hJ ⟨rfl, rfl, rfl⟩
  clear hJ; try simp only [List.cons_append, List.nil_append, List.append_assoc]
  refine WP.val rfl rfl rfl rfl (Yld.assign rfl rfl) ?_
  refine WP.nil ?_
  refine WP.sub [(0, _), (1, _), (2, _), (3, _), (4, _), (10, _), (11, _), (12, _), (13, _), (14, _), (15, _), (16, _), (17, _)] ?_ ⟨rfl, rfl, rfl, rfl, rfl, rfl, rfl, rfl, rfl, rfl, rfl, rfl, rfl, trivial⟩
  refine WP.next ?_
  refine WP.seq ?_
  refine WP.region [0, 1] rfl ?_
  refine WP.val rfl rfl rfl rfl (Yld.move rfl rfl) ?_
  refine WP.loud rfl rfl ?_
  refine Op.call (seg_full how hod rfl hx64 (fun e he => cutL_data (by rw [← hlx]; exact List.mem_map_of_mem he))) rfl Try.func12 rfl rfl rfl rfl (by repeat (first | exact Take.nil | with_reducible apply Take.cons | apply Take.app | exact Rm.chunk | exact Rm.here | exact Rm.nil0 | apply Rm.skip | apply Rm.skipS | (focus (apply Take.all; (repeat (first | exact Rm.chunk | exact Rm.here | exact Rm.nil0 | apply Rm.skip | apply Rm.skipS)); done)) | apply Take.cons)) ?_
  rintro v J L6 hJ ⟨rfl, rfl, l2, Ld3, hl2, how3, hod3, hfu, hdl3, rfl⟩
  clear hJ; try simp only [List.cons_append, List.nil_append, List.append_assoc]
  refine WP.nil ?_
  refine WP.sub [(0, _), (1, _), (2, _), (3, _), (4, _), (10, _), (11, _), (12, _), (13, _), (14, _), (15, _), (16, _), (17, _)] ?_ ⟨rfl, rfl, rfl, rfl, rfl, rfl, rfl, rfl, rfl, rfl, rfl, rfl, rfl, trivial⟩
  refine WP.next ?_
  refine WP.seq ?_
  have how3' : Own 35 6 (.slice Ax l2.length cx) (pcells l2) l2.length Lo := by rw [hl2] at how3 ⊢; exact how3
  refine WP.shareParts how3' hod3 (by repeat (first | exact Take.nil | with_reducible apply Take.cons | apply Take.app | exact Rm.chunk | exact Rm.here | exact Rm.nil0 | apply Rm.skip | apply Rm.skipS | (focus (apply Take.all; (repeat (first | exact Rm.chunk | exact Rm.here | exact Rm.nil0 | apply Rm.skip | apply Rm.skipS)); done)) | apply Take.cons)) (fun J5 hJ5 hrx => ?_)
  have hb := hb.mono (fun b o h => hJ5.2 b o h)
  have hq := hq.mono (fun b o h => hJ5.2 b o h)
  have hrl := hrl.mono hJ5
  rw [hl2] at hrx
  refine WP.region [0, 1, 2] rfl ?_
  refine WP.val rfl rfl rfl rfl (Yld.move rfl rfl) ?_
  refine WP.loud rfl rfl ?_
  refine Op.call (seg_apart hrx (by rw [hl2]; exact hfu) (by omega) hdl3) rfl Try.func13 rfl rfl rfl rfl (by repeat (first | exact Take.nil | with_reducible apply Take.cons | apply Take.app | exact Rm.chunk | exact Rm.here | exact Rm.nil0 | apply Rm.skip | apply Rm.skipS | (focus (apply Take.all; (repeat (first | exact Rm.chunk | exact Rm.here | exact Rm.nil0 | apply Rm.skip | apply Rm.skipS)); done)) | apply Take.cons)) ?_
  rintro v J L1 hJ ⟨rfl, rfl, rfl⟩
  clear hJ; try simp only [List.cons_append, List.nil_append, List.append_assoc]
  refine WP.val rfl rfl rfl rfl (Yld.assign rfl rfl) ?_
  refine WP.nil ?_
  refine WP.sub [(0, _), (1, _), (2, _), (3, _), (4, _), (10, _), (11, _), (12, _), (13, _), (14, _), (15, _), (16, _), (17, _), (18, _)] ?_ ⟨rfl, rfl, rfl, rfl, rfl, rfl, rfl, rfl, rfl, rfl, rfl, rfl, rfl, rfl, trivial⟩
  refine WP.next ?_
  refine WP.seq ?_
  refine WP.region [0, 1, 2, 3, 4, 5, 6] rfl ?_
  refine WP.val rfl rfl rfl rfl (Yld.move rfl rfl) ?_
  refine WP.loud rfl rfl ?_
  refine Op.call (seg_Join hrl hln) rfl Try.func14 rfl rfl rfl rfl (by repeat (first | exact Take.nil | with_reducible apply Take.cons | apply Take.app | exact Rm.chunk | exact Rm.here | exact Rm.nil0 | apply Rm.skip | apply Rm.skipS | (focus (apply Take.all; (repeat (first | exact Rm.chunk | exact Rm.here | exact Rm.nil0 | apply Rm.skip | apply Rm.skipS)); done)) | apply Take.cons)) ?_
  rintro v J6 L8 hJ6 ⟨vj, Lj, rfl, hj, rfl⟩
  try simp only [List.cons_append, List.nil_append, List.append_assoc]
  have hb := hb.mono (fun b o h => hJ6.2 b o h)
  have hq := hq.mono (fun b o h => hJ6.2 b o h)
  have hrl := hrl.mono hJ6
  refine WP.val rfl rfl rfl rfl (Yld.move rfl rfl) ?_
  refine WP.val rfl rfl rfl rfl (Yld.extract rfl rfl rfl) ?_
  refine WP.val rfl rfl rfl rfl (Yld.extract rfl rfl rfl) ?_
  refine WP.val rfl rfl rfl rfl (Yld.assign rfl rfl) ?_
  refine WP.val rfl rfl rfl rfl (Yld.assign rfl rfl) ?_
  refine WP.nil ?_
  refine WP.sub [(0, _), (1, _), (2, _), (3, _), (4, _), (10, _), (11, _), (12, _), (13, _), (14, _), (15, _), (16, _), (17, _), (18, _), (19, _), (20, _)] ?_ ⟨rfl, rfl, rfl, rfl, rfl, rfl, rfl, rfl, rfl, rfl, rfl, rfl, rfl, rfl, rfl, rfl, trivial⟩
  refine WP.next ?_
  refine WP.seq ?_
  refine WP.region [0, 1, 2, 3, 4, 5, 6] rfl ?_
  refine WP.val rfl rfl rfl rfl (Yld.move rfl rfl) ?_
  refine WP.loud rfl rfl ?_
  refine Op.call (ref_Join hrl hln) rfl Try.func15 rfl rfl rfl rfl (by repeat (first | exact Take.nil | with_reducible apply Take.cons | apply Take.app | exact Rm.chunk | exact Rm.here | exact Rm.nil0 | apply Rm.skip | apply Rm.skipS | (focus (apply Take.all; (repeat (first | exact Rm.chunk | exact Rm.here | exact Rm.nil0 | apply Rm.skip | apply Rm.skipS)); done)) | apply Take.cons)) ?_
  rintro v J7 L9 hJ7 ⟨vk, Lk, rfl, hk, rfl⟩
  try simp only [List.cons_append, List.nil_append, List.append_assoc]
  have hb := hb.mono (fun b o h => hJ7.2 b o h)
  have hq := hq.mono (fun b o h => hJ7.2 b o h)
  refine WP.val rfl rfl rfl rfl (Yld.move rfl rfl) ?_
  refine WP.val rfl rfl rfl rfl (Yld.extract rfl rfl rfl) ?_
  refine WP.val rfl rfl rfl rfl (Yld.extract rfl rfl rfl) ?_
  refine WP.val rfl rfl rfl rfl (Yld.assign rfl rfl) ?_
  refine WP.val rfl rfl rfl rfl (Yld.assign rfl rfl) ?_
  refine WP.nil ?_
  refine WP.sub [(0, _), (1, _), (2, _), (3, _), (4, _), (10, _), (11, _), (12, _), (13, _), (14, _), (15, _), (16, _), (17, _), (18, _), (19, _), (20, _), (21, _), (22, _)] ?_ ⟨rfl, rfl, rfl, rfl, rfl, rfl, rfl, rfl, rfl, rfl, rfl, rfl, rfl, rfl, rfl, rfl, rfl, rfl, trivial⟩
  refine WP.next ?_
  refine WP.seq ?_
  refine WP.region [0, 1, 2, 3, 4, 5, 6, 7, 8, 9, 10, 11, 12, 13, 14, 15, 16, 17, 18, 19, 20, 21, 22, 23, 24, 25, 26, 27, 28, 29, 30, 31] rfl ?_
  refine WP.val rfl rfl rfl rfl (Yld.move rfl rfl) ?_
  refine WP.val rfl rfl rfl rfl (Yld.move rfl rfl) ?_
  refine WP.valG rfl rfl rfl rfl rfl rfl rfl (Yld.move rfl rfl) ?_
  refine WP.val rfl rfl rfl rfl (Yld.pickT rfl rfl rfl) ?_
  refine WP.val rfl rfl rfl rfl (Yld.move rfl rfl) ?_
  refine WP.valG rfl rfl rfl rfl rfl rfl rfl (Yld.move rfl rfl) ?_
  refine WP.val rfl rfl rfl rfl (Yld.pickT rfl rfl rfl) ?_
  refine WP.val rfl rfl rfl rfl (Yld.move rfl rfl) ?_
  refine WP.valG rfl rfl rfl rfl rfl rfl rfl (Yld.move rfl rfl) ?_
  refine WP.valG rfl rfl rfl rfl rfl rfl rfl (Yld.move rfl rfl) ?_
  refine WP.valG rfl rfl rfl rfl rfl rfl rfl (Yld.eql rfl rfl rfl true (decide_eq_true (by rfl))) ?_
  refine WP.val rfl rfl rfl rfl (Yld.pickT rfl rfl rfl) ?_
  refine WP.val rfl rfl rfl rfl (Yld.move rfl rfl) ?_
  refine WP.valG rfl rfl rfl rfl rfl rfl rfl (Yld.move rfl rfl) ?_
  refine WP.valG rfl rfl rfl rfl rfl rfl rfl (Yld.str (e := 5) rfl (by kernel_rfl) (by kernel_rfl) (by kernel_rfl) rfl (hq.mono (fun b o h => .inr h))) ?_
  refine WP.valG rfl rfl rfl rfl rfl rfl rfl (Yld.move rfl rfl) ?_
  refine WP.valG rfl rfl rfl rfl rfl rfl rfl (Yld.str (e := 5) rfl (by kernel_rfl) (by kernel_rfl) (by kernel_rfl) rfl (hb.mono (fun b o h => .inr h))) ?_
  refine WP.valG rfl rfl rfl rfl rfl rfl rfl (Yld.eqlStr rfl rfl rfl true (by simp)) ?_
  refine WP.val rfl rfl rfl rfl (Yld.pickT rfl rfl rfl) ?_
  refine WP.val rfl rfl rfl rfl (Yld.move rfl rfl) ?_
  refine WP.valG rfl rfl rfl rfl rfl rfl rfl (Yld.move rfl rfl) ?_
  refine WP.valG rfl rfl rfl rfl rfl rfl rfl (Yld.str (e := 5) rfl (by kernel_rfl) (by kernel_rfl) (by kernel_rfl) rfl (hj.rd (by intro p hp; simp [hp]))) ?_
  refine WP.valG rfl rfl rfl rfl rfl rfl rfl (Yld.move rfl rfl) ?_
  refine WP.valG rfl rfl rfl rfl rfl rfl rfl (Yld.str (e := 5) rfl (by kernel_rfl) (by kernel_rfl) (by kernel_rfl) rfl (hk.rd (by intro p hp; simp [hp]))) ?_
  refine WP.valG rfl rfl rfl rfl rfl rfl rfl (Yld.eqlStr rfl rfl rfl true (by simp)) ?_
  refine WP.val rfl rfl rfl rfl (Yld.pickT rfl rfl rfl) ?_
  refine WP.val rfl rfl rfl rfl (Yld.move rfl rfl) ?_
  refine WP.valG rfl rfl rfl rfl rfl rfl rfl (Yld.move rfl rfl) ?_
  refine WP.valG rfl rfl rfl rfl rfl rfl rfl (Yld.move rfl rfl) ?_
  refine WP.valG rfl rfl rfl rfl rfl rfl rfl (Yld.eql rfl rfl rfl true (decide_eq_true (by rfl))) ?_
  refine WP.val rfl rfl rfl rfl (Yld.pickT rfl rfl rfl) ?_
  refine WP.val rfl rfl rfl rfl (Yld.assign rfl rfl) ?_
  refine WP.nil ?_
  refine WP.sub [(0, _), (1, _), (2, _), (3, _), (4, _), (10, _), (11, _), (12, _), (13, _), (14, _), (15, _), (16, _), (17, _), (18, _), (19, _), (20, _), (21, _), (22, _)] ?_ ⟨rfl, rfl, rfl, rfl, rfl, rfl, rfl, rfl, rfl, rfl, rfl, rfl, rfl, rfl, rfl, rfl, rfl, rfl, trivial⟩
  refine WP.next ?_
  refine WP.ret ?_
  refine WP.fin .ret (.inr rfl) (res1 rfl rfl) [] (by repeat (first | exact Take.nil | with_reducible apply Take.cons | apply Take.app | exact Rm.chunk | exact Rm.here | exact Rm.nil0 | apply Rm.skip | apply Rm.skipS | (focus (apply Take.all; (repeat (first | exact Rm.chunk | exact Rm.here | exact Rm.nil0 | apply Rm.skip | apply Rm.skipS)); done)) | apply Take.cons)) (by repeat (first | exact Leave.done | apply Leave.drop | apply Leave.dropS)) (Imm.le_trans hJa (Imm.le_trans hJ1 (Imm.le_trans hJ2 (Imm.le_trans hJ3 (Imm.le_trans hJ4 (Imm.le_trans hJ5 (Imm.le_trans hJ6 hJ7))))))) ?_
  exact ⟨rfl, rfl⟩


theorem Slc.flatw {α : Type} {I : Imm} {v : Value} {xs : List α} {sz : Nat} {R : α → List Value → Prop} (f : α → List Value) (hf : ∀ a, (f a).length = sz) (hR : ∀ x cs, R x cs → cs = f x) (h : Slc I sz R v xs) : SlRd (Im I) v xs.length sz (xs.flatMap f) := by
  obtain ⟨A, cap, rfl, hc, h3⟩ := h
  refine ⟨A, cap, rfl, hc, flat_len hf xs, ?_⟩
  rcases h3 with rfl | ⟨b, kk, arr, T, fr, rfl, hb, hel⟩
  · exact .inl rfl
  · refine .inr ⟨b, kk, T, fr, arr, rfl, hb, ?_⟩
    rw [flat_len hf]
    have key : ∀ (l : List α) (k : Nat), (∀ i x, l[i]? = some x → (arr.toList.drop (k + i * sz)).take sz = f x) → (arr.toList.drop k).take (l.length * sz) = l.flatMap f := by
      intro l
      induction l with
      | nil => intro k _; simp
      | cons a l ih =>
        intro k hk
        have h0 := hk 0 a rfl
        have h1 := ih (k + sz) fun i x hx => by
          have := hk (i + 1) x (by simpa using hx)
          rw [Nat.add_mul, Nat.one_mul] at this
          rw [← this]; congr 2; omega
        rw [Nat.zero_mul, Nat.add_zero] at h0
        rw [List.flatMap_cons, ← h0, ← h1, List.length_cons, Nat.add_mul, Nat.one_mul, Nat.add_comm, List.take_add, List.drop_drop]
    exact key xs kk fun i x hx => hR _ _ (hel i x hx).2


def RPP (I : Imm) (e : Pt × Value) (cs : List Value) : Prop := cs = pf e ∧ SlRd (Im I) e.2 e.1.data.length 1 (bytesV e.1.data)
theorem elem_ptp {H : Type} {enc : TypeId × Value → H} {W : World} {sp : Nat → Bool} {held : Bool} (n : Nat) (cs : List Value) (x : DataW H × List MemPlace) (h : DataW.trod enc Try.prog W 0 sp held n 35 cs = some x) (hl : cs.length = 6) : ∃ e, RPP (immOf W) e cs ∧ (fun (_ : Pt × Value) (_ : DataW H) => True) e x.1 := by
  obtain ⟨p, ⟨va, h1, h2⟩, _⟩ := elem_pt n cs x h hl
  exact ⟨(p, va), ⟨h1, h2⟩, trivial⟩
theorem Slc.parts {I : Imm} {v : Value} {l : List (Pt × Value)} (h : Slc I 6 (RPP I) v l) : RParts I v l := by
  refine ⟨Slc.flatw pf pf_len (fun x cs h => h.1) h, fun e he => ?_⟩
  obtain ⟨i, hi, rfl⟩ := List.getElem_of_mem he
  obtain ⟨A, cap, _, _, h3⟩ := h
  rcases h3 with rfl | ⟨b, kk, arr, T, fr, _, _, hel⟩
  · cases hi
  · exact (hel i _ (List.getElem?_eq_getElem hi)).2.2

end Go.Hp
