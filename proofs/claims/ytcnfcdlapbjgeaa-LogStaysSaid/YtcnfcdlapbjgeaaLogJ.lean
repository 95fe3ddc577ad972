import Derived.Test.YtcnfcdlapbjgeaaLogI
set_option linter.unusedVariables false
set_option linter.unusedSimpArgs false
namespace Go.Hp
open Go Go.Proofs

/-- A Read: the parts that it has, and what it has come to. -/
structure Rd where
 place : Nat
 ps : List Pt
 dn : Bool
 no : Int
 kind : Int
 b : List UInt8
 e : Int
def Rd.fin (z : Rd) (ps : List Pt) (no kind : Int) (b : List UInt8) (e : Int) : Rd := ⟨z.place, ps, true, no, kind, b, e⟩
def kindOk (b : List UInt8) : Prop := ¬ (((b.headD 0).toNat : Int) < 1) ∧ ¬ (5 < ((b.headD 0).toNat : Int))
instance (b : List UInt8) : Decidable (kindOk b) := inferInstanceAs (Decidable (_ ∧ _))
/-- A step of a Read of what is not in memory. -/
def rjoin (z : Rd) (r : Pt) : Bool × Rd :=
 if ((z.ps ++ [r]).length : Int) < ((z.ps ++ [r]).headD ptZ).parts then (false, { z with ps := z.ps ++ [r] })
 else if (pjoin (z.ps ++ [r])).2 ≠ 0 ∨ ¬ kindOk (pjoin (z.ps ++ [r])).1 then (true, z.fin (z.ps ++ [r]) 0 0 [] 81)
 else (true, z.fin (z.ps ++ [r]) r.no (((pjoin (z.ps ++ [r])).1.headD 0).toNat : Int) ((pjoin (z.ps ++ [r])).1.drop 1) 0)
def rstep (f : Nat → Pt × Int) (z : Rd) : Bool × Rd :=
 if z.dn = true then (true, z)
 else if (f (z.place + z.ps.length)).2 = 4 then (true, z.fin z.ps 0 0 [] 4)
 else if (f (z.place + z.ps.length)).2 ≠ 0 ∨ (z.ps.length = 0 ∧ (f (z.place + z.ps.length)).1.index ≠ 0) then (true, z.fin z.ps 0 0 [] 81)
 else rjoin z (f (z.place + z.ps.length)).1
theorem pread_may {x : Dk} {n : Nat} {g : Sg} {p : Nat} (h : (pread x n g p).2 = 0) : (pread x n g p).1.may := by
 unfold pread at h ⊢
 split at h
 ·rename_i hp
  rw [if_pos hp]
  unfold pstand at h ⊢
  split at h
  ·rename_i h1 ; exact absurd h h1
  ·rename_i h1
   rw [if_neg h1]
   cases hd : pdec (x.read n (psec g p : Int) 4).1 with
   | none => rw [hd] at h; simp at h
   | some r =>
    rw [hd] at h
    simp only at h ⊢
    split at h
    ·rename_i h2; rw [if_pos h2]; exact (pdec_is hd).1
    ·simp at h
 ·simp at h
theorem pjoin_pos {l : List Pt} (h : (pjoin l).2 = 0) : 1 ≤ (pjoin l).1.length := by
 unfold pjoin at h ⊢
 split at h
 ·rename_i hg
  rw [if_pos hg]
  obtain ⟨h1, h2⟩ := hg
  cases l with
  | nil => exact absurd rfl h1
  | cons a l =>
   have h3 := (h2 0 (by simp)).may.len
   simp only [List.getD_cons_zero] at h3
   simp only [List.flatMap_cons, List.length_append]; omega
 ·simp at h
/-- A Read: under way, or at its end. -/
inductive IsRead (J : Imm) (r l : Nat) (z : Rd) : Chunks → Prop
 | live {vp vb : Value} {lp : List (Pt × Value)} {Lp : Chunks} (hdn : z.dn = false) (ho : Own 52 6 vp (pcells lp) lp.length Lp) (hd : ∀ e ∈ lp, SlRd (Im J) e.2 e.1.data.length 1 (bytesV e.1.data)) (hp : lp.map (·.1) = z.ps) (h64 : lp.length ≤ 64) (hb : SlRd (Im J) vb z.b.length 1 (bytesV z.b)) :
  IsRead J r l z ((r, row 110 [.pointer (some ⟨l, 0, none⟩), .int .i64 (z.place : Int), vp, .bool false, .int .i64 z.no, .int .i64 z.kind, vb, .int .i64 z.e]) :: Lp)
 | done {vp vb : Value} {Lp : Chunks} (hdn : z.dn = true) (hb : SlRd (Im J) vb z.b.length 1 (bytesV z.b)) :
  IsRead J r l z ((r, row 110 [.pointer (some ⟨l, 0, none⟩), .int .i64 (z.place : Int), vp, .bool true, .int .i64 z.no, .int .i64 z.kind, vb, .int .i64 z.e]) :: Lp)
theorem IsRead.mono {I J : Imm} {r l : Nat} {z : Rd} {L : Chunks} (h : IsRead I r l z L) (hJ : I.le J) : IsRead J r l z L := by
 cases h with
 | live hdn ho hd hp h64 hb => exact .live hdn ho (fun e he => (hd e he).mono fun b o q => hJ.2 b o q) hp h64 (hb.mono fun b o q => hJ.2 b o q)
 | done hdn hb => exact .done hdn (hb.mono fun b o q => hJ.2 b o q)
theorem slNil (J : Imm) : SlRd (Im J) (.slice none 0 0) ([] : List UInt8).length 1 (bytesV []) := ⟨none, 0, rfl, Nat.le_refl _, rfl, .inl rfl⟩
def rdNew (p : Nat) : Rd := ⟨p, [], false, 0, 0, [], 1⟩
theorem log_NewRead {I : Imm} {l p : Nat} : Spec Try.prog 25 [.pointer (some ⟨l, 0, none⟩), .int .i64 (p : Int)] I [] (fun v J L' => I = J ∧ ∃ r, v = .pointer (some ⟨r, 0, none⟩) ∧ IsRead J r l (rdNew p) L') := by
 refine Spec.of Try.func25 rfl Try.ntmps25 (Nat.le_of_ble_eq_true rfl) (fun F => ?_)
 try simp only [nf]
 dsimp only [argsEnv]
 refine WP.seq ?_
 refine WP.region [0] rfl ?_
 refine WP.mv rfl rfl ?_
 refine WP.nil ?_
 refine WP.next ?_
 refine WP.seq ?_
 refine WP.region [0, 1, 2, 3, 4] rfl ?_
 iterate 2 refine WP.mv rfl rfl ?_
 refine WP.vl rfl (Yld.buildS (pl := [(0, 0, 1), (1, 1, 1), (7, 7, 1)]) rfl ty_zr_110 ty_zd_110 (by kernel_rfl) rfl (vs := [_, _, _]) rfl (segs := [(0, [_]), (1, [_]), (7, [_])]) rfl rfl (by repeat (first | exact SetSeg.nil | apply SetSeg.one | exact SetAt.zero | apply SetAt.succ))) ?_
 refine WP.loud rfl rfl ?_
 refine Op.box rfl rfl rfl rfl rfl (fun r => ?_)
 refine WP.mv rfl rfl ?_
 refine WP.nil ?_
 refine WP.sub [(0, _), (1, _), (4, _)] ?_ ⟨rfl, rfl, rfl, trivial⟩
 refine WP.next ?_
 refine WP.ret ?_
 refine WP.fn .ret (.inr rfl) (res1 rfl rfl) [(r, row 110 [.pointer (some ⟨l, 0, none⟩), .int .i64 (p : Int), .slice none 0 0, .bool false, .int .i64 0, .int .i64 0, .slice none 0 0, .int .i64 1])] (Imm.le_refl _) ?_
 exact ⟨rfl, r, rfl, .live (z := rdNew p) (lp := []) (Lp := []) rfl .none0 (fun e he => by cases he) rfl (Nat.zero_le _) (slNil _)⟩

theorem read_end {I : Imm} {r l p : Nat} {vp vb0 v1 v2 v3 v4 : Value} {no kind e : Int} {A : Option Addr} {m c : Nat} : Spec Try.prog 47 [.pointer (some ⟨r, 0, none⟩), .int .i64 no, .int .i64 kind, .slice A m c, .int .i64 e] I [(r, row 110 [.pointer (some ⟨l, 0, none⟩), .int .i64 (p : Int), vp, v1, v2, v3, vb0, v4])] (fun v J L' => v = .bool true ∧ I = J ∧ L' = [(r, row 110 [.pointer (some ⟨l, 0, none⟩), .int .i64 (p : Int), vp, .bool true, .int .i64 no, .int .i64 kind, .slice A m c, .int .i64 e])]) := by
 refine Spec.of Try.func47 rfl Try.ntmps47 (Nat.le_of_ble_eq_true rfl) (fun F => ?_)
 try simp only [nf]
 dsimp only [argsEnv]
 refine WP.seq ?_
 refine WP.region [0] rfl ?_
 refine WP.mv rfl rfl ?_
 refine WP.nil ?_
 refine WP.next ?_
 refine WP.seq ?_
 refine WP.region [0, 1, 2, 3, 4, 5, 6, 7, 8, 9, 10, 11, 12, 13, 14, 15, 16, 17, 18, 19, 20, 21, 22, 23] rfl ?_
 iterate 9 refine WP.mv rfl rfl ?_
 refine WP.vl rfl (Yld.nilCheck rfl rfl) ?_
 refine WP.vl rfl (Yld.fieldAddr rfl ty_fd_110_4 rfl) ?_
 refine WP.loud rfl rfl ?_
 refine Op.s1 rfl rfl ty_sz_3 rfl rfl rfl ?_
 refine WP.vl rfl (Yld.nilCheck rfl rfl) ?_
 refine WP.vl rfl (Yld.fieldAddr rfl ty_fd_110_5 rfl) ?_
 refine WP.loud rfl rfl ?_
 refine Op.s1 rfl rfl ty_sz_3 rfl rfl rfl ?_
 refine WP.vl rfl (Yld.nilCheck rfl rfl) ?_
 refine WP.vl rfl (Yld.fieldAddr rfl ty_fd_110_6 rfl) ?_
 refine WP.loud rfl rfl ?_
 refine Op.s1 rfl rfl ty_sz_46 rfl rfl rfl ?_
 refine WP.vl rfl (Yld.nilCheck rfl rfl) ?_
 refine WP.vl rfl (Yld.fieldAddr rfl ty_fd_110_7 rfl) ?_
 refine WP.loud rfl rfl ?_
 refine Op.s1 rfl rfl ty_sz_30 rfl rfl rfl ?_
 refine WP.vl rfl (Yld.nilCheck rfl rfl) ?_
 refine WP.vl rfl (Yld.fieldAddr rfl ty_fd_110_3 rfl) ?_
 refine WP.loud rfl rfl ?_
 refine Op.s1 rfl rfl ty_sz_4 rfl rfl rfl ?_
 refine WP.nil ?_
 refine WP.sub [(0, _), (1, _), (2, _), (3, _), (4, _), (10, _)] ?_ ⟨rfl, rfl, rfl, rfl, rfl, rfl, trivial⟩
 refine WP.next ?_
 refine WP.seq ?_
 refine WP.region [0] rfl ?_
 refine WP.mv rfl rfl ?_
 refine WP.nil ?_
 refine WP.next ?_
 refine WP.ret ?_
 refine WP.fn .ret (.inr rfl) (res1 rfl rfl) [(r, row 110 [.pointer (some ⟨l, 0, none⟩), .int .i64 (p : Int), vp, .bool true, .int .i64 no, .int .i64 kind, .slice A m c, .int .i64 e])] (Imm.le_refl _) ?_
 exact ⟨rfl, rfl, rfl⟩

theorem read_Got_live {I : Imm} {r l : Nat} {z : Rd} {L : Chunks} (hr : IsRead I r l z L) (hbl : z.b.length ≤ 140737488351232) (hdd : z.dn = false) : Spec Try.prog 27 [.pointer (some ⟨r, 0, none⟩)] I L (fun v J L' => I = J ∧ ∃ vc Lc, v = .tuple #[.int .i64 z.no, .int .i64 z.kind, vc, .int .i64 z.e] ∧ Own 5 1 vc (bytesV z.b) z.b.length Lc ∧ L' = Lc ++ L) := by
 cases hr with
 | @done vp vb Lp hdn hb => rw [hdd] at hdn; cases hdn
 | @live vp vb lp Lp hdn ho hd hp h64 hb =>
 refine Spec.of Try.func27 rfl Try.ntmps27 (Nat.le_of_ble_eq_true rfl) (fun F => ?_)
 try simp only [nf]
 dsimp only [argsEnv]
 refine WP.seq ?_
 refine WP.region [0, 1, 2, 3] rfl ?_
 iterate 4 refine WP.mv rfl rfl ?_
 refine WP.nil ?_
 refine WP.next ?_
 refine WP.seq ?_
 refine WD.start Trymixed 12 (fun _ _ => False) (fun c o => c = r ∧ o = row 110 [.pointer (some ⟨l, 0, none⟩), .int .i64 (z.place : Int), vp, .bool false, .int .i64 z.no, .int .i64 z.kind, vb, .int .i64 z.e]) (fun _ _ h => h.elim) (by rintro _ _ ⟨rfl, rfl⟩; exact (by repeat (first | exact There.h | exact There.i (by assumption) | apply There.t | apply There.s))) 21 [false, false, false, false, false, false, false, false, false, false, false, false, false, false, false, false, false, false, false, false, false] rfl rfl ?_
 refine WD.val (i := 0) rfl rfl rfl rfl (by kernel_rfl) rfl (Yld.move rfl rfl) ?_
 refine WD.val (i := 1) rfl rfl rfl rfl (by kernel_rfl) rfl (Yld.nilCheck rfl rfl) ?_
 refine WD.val (i := 2) rfl rfl rfl rfl (by kernel_rfl) rfl (Yld.fieldAddr rfl ty_fd_110_4 rfl) ?_
 refine WD.val (i := 3) rfl rfl rfl rfl (by kernel_rfl) rfl (Yld.load (v := .int .i64 z.no) rfl ty_sc_3 rfl ⟨rfl, rfl⟩ rfl) ?_
 refine WD.val (i := 4) rfl rfl rfl rfl (by kernel_rfl) rfl (Yld.move rfl rfl) ?_
 refine WD.val (i := 5) rfl rfl rfl rfl (by kernel_rfl) rfl (Yld.nilCheck rfl rfl) ?_
 refine WD.val (i := 6) rfl rfl rfl rfl (by kernel_rfl) rfl (Yld.fieldAddr rfl ty_fd_110_5 rfl) ?_
 refine WD.val (i := 7) rfl rfl rfl rfl (by kernel_rfl) rfl (Yld.load (v := .int .i64 z.kind) rfl ty_sc_3 rfl ⟨rfl, rfl⟩ rfl) ?_
 refine WD.val (i := 8) rfl rfl rfl rfl (by kernel_rfl) rfl (Yld.move rfl rfl) ?_
 refine WD.val (i := 9) rfl rfl rfl rfl (by kernel_rfl) rfl (Yld.nilCheck rfl rfl) ?_
 refine WD.val (i := 10) rfl rfl rfl rfl (by kernel_rfl) rfl (Yld.fieldAddr rfl ty_fd_110_6 rfl) ?_
 refine WD.val (i := 11) rfl rfl rfl rfl (by kernel_rfl) rfl (Yld.load (v := vb) rfl ty_sc_46 rfl ⟨rfl, rfl⟩ rfl) ?_
 refine WD.val (i := 13) rfl rfl rfl rfl (by kernel_rfl) rfl (Yld.move rfl rfl) ?_
 refine WD.val (i := 14) rfl rfl rfl rfl (by kernel_rfl) rfl (Yld.nilCheck rfl rfl) ?_
 refine WD.val (i := 15) rfl rfl rfl rfl (by kernel_rfl) rfl (Yld.fieldAddr rfl ty_fd_110_7 rfl) ?_
 refine WD.val (i := 16) rfl rfl rfl rfl (by kernel_rfl) rfl (Yld.load (v := .int .i64 z.e) rfl ty_sc_30 rfl ⟨rfl, rfl⟩ rfl) ?_
 refine WD.loud (i := 12) (by kernel_rfl) rfl rfl rfl ?_
 refine Op.cl (slices_Clone hb hbl) rfl Try.func36 rfl rfl rfl rfl ?_
 rintro v J Lc - ⟨rfl, hcn⟩
 try simp only [nf]
 refine WD.go (.inl rfl) (by rintro _ _ ⟨rfl, rfl⟩; exact (by repeat (first | exact There.h | exact There.i (by assumption) | apply There.t | apply There.s))) ?_
 refine WD.val (i := 17) rfl rfl rfl rfl (by kernel_rfl) rfl (Yld.assign rfl rfl) ?_
 refine WD.val (i := 18) rfl rfl rfl rfl (by kernel_rfl) rfl (Yld.assign rfl rfl) ?_
 refine WD.val (i := 19) rfl rfl rfl rfl (by kernel_rfl) rfl (Yld.assign rfl rfl) ?_
 refine WD.val (i := 20) rfl rfl rfl rfl (by kernel_rfl) rfl (Yld.assign rfl rfl) ?_
 refine WD.done (by kernel_rfl) ?_
 refine WP.sub [(0, _), (2, _), (3, _), (4, _), (5, _)] ?_ ⟨rfl, rfl, rfl, rfl, rfl, trivial⟩
 refine WP.next ?_
 refine WP.ret ?_
 refine WP.fn .ret (.inr rfl) (resT (rs := [.tmp 2, .tmp 3, .tmp 4, .tmp 5]) (vs := [_, _, _, _]) rfl ⟨rfl, rfl, rfl, rfl, trivial⟩ rfl) (Lc ++ ((r, row 110 [.pointer (some ⟨l, 0, none⟩), .int .i64 (z.place : Int), vp, .bool false, .int .i64 z.no, .int .i64 z.kind, vb, .int .i64 z.e]) :: Lp)) (Imm.le_refl _) ?_
 exact ⟨rfl, _, _, rfl, hcn, rfl⟩

theorem read_Got_done {I : Imm} {r l : Nat} {z : Rd} {L : Chunks} (hr : IsRead I r l z L) (hbl : z.b.length ≤ 140737488351232) (hdd : z.dn = true) : Spec Try.prog 27 [.pointer (some ⟨r, 0, none⟩)] I L (fun v J L' => I = J ∧ ∃ vc Lc, v = .tuple #[.int .i64 z.no, .int .i64 z.kind, vc, .int .i64 z.e] ∧ Own 5 1 vc (bytesV z.b) z.b.length Lc ∧ L' = Lc ++ L) := by
 cases hr with
 | @live vp vb lp Lp hdn ho hd hp h64 hb => rw [hdd] at hdn; cases hdn
 | @done vp vb Lp hdn hb =>
 refine Spec.of Try.func27 rfl Try.ntmps27 (Nat.le_of_ble_eq_true rfl) (fun F => ?_)
 try simp only [nf]
 dsimp only [argsEnv]
 refine WP.seq ?_
 refine WP.region [0, 1, 2, 3] rfl ?_
 iterate 4 refine WP.mv rfl rfl ?_
 refine WP.nil ?_
 refine WP.next ?_
 refine WP.seq ?_
 refine WD.start Trymixed 12 (fun _ _ => False) (fun c o => c = r ∧ o = row 110 [.pointer (some ⟨l, 0, none⟩), .int .i64 (z.place : Int), vp, .bool true, .int .i64 z.no, .int .i64 z.kind, vb, .int .i64 z.e]) (fun _ _ h => h.elim) (by rintro _ _ ⟨rfl, rfl⟩; exact (by repeat (first | exact There.h | exact There.i (by assumption) | apply There.t | apply There.s))) 21 [false, false, false, false, false, false, false, false, false, false, false, false, false, false, false, false, false, false, false, false, false] rfl rfl ?_
 refine WD.val (i := 0) rfl rfl rfl rfl (by kernel_rfl) rfl (Yld.move rfl rfl) ?_
 refine WD.val (i := 1) rfl rfl rfl rfl (by kernel_rfl) rfl (Yld.nilCheck rfl rfl) ?_
 refine WD.val (i := 2) rfl rfl rfl rfl (by kernel_rfl) rfl (Yld.fieldAddr rfl ty_fd_110_4 rfl) ?_
 refine WD.val (i := 3) rfl rfl rfl rfl (by kernel_rfl) rfl (Yld.load (v := .int .i64 z.no) rfl ty_sc_3 rfl ⟨rfl, rfl⟩ rfl) ?_
 refine WD.val (i := 4) rfl rfl rfl rfl (by kernel_rfl) rfl (Yld.move rfl rfl) ?_
 refine WD.val (i := 5) rfl rfl rfl rfl (by kernel_rfl) rfl (Yld.nilCheck rfl rfl) ?_
 refine WD.val (i := 6) rfl rfl rfl rfl (by kernel_rfl) rfl (Yld.fieldAddr rfl ty_fd_110_5 rfl) ?_
 refine WD.val (i := 7) rfl rfl rfl rfl (by kernel_rfl) rfl (Yld.load (v := .int .i64 z.kind) rfl ty_sc_3 rfl ⟨rfl, rfl⟩ rfl) ?_
 refine WD.val (i := 8) rfl rfl rfl rfl (by kernel_rfl) rfl (Yld.move rfl rfl) ?_
 refine WD.val (i := 9) rfl rfl rfl rfl (by kernel_rfl) rfl (Yld.nilCheck rfl rfl) ?_
 refine WD.val (i := 10) rfl rfl rfl rfl (by kernel_rfl) rfl (Yld.fieldAddr rfl ty_fd_110_6 rfl) ?_
 refine WD.val (i := 11) rfl rfl rfl rfl (by kernel_rfl) rfl (Yld.load (v := vb) rfl ty_sc_46 rfl ⟨rfl, rfl⟩ rfl) ?_
 refine WD.val (i := 13) rfl rfl rfl rfl (by kernel_rfl) rfl (Yld.move rfl rfl) ?_
 refine WD.val (i := 14) rfl rfl rfl rfl (by kernel_rfl) rfl (Yld.nilCheck rfl rfl) ?_
 refine WD.val (i := 15) rfl rfl rfl rfl (by kernel_rfl) rfl (Yld.fieldAddr rfl ty_fd_110_7 rfl) ?_
 refine WD.val (i := 16) rfl rfl rfl rfl (by kernel_rfl) rfl (Yld.load (v := .int .i64 z.e) rfl ty_sc_30 rfl ⟨rfl, rfl⟩ rfl) ?_
 refine WD.loud (i := 12) (by kernel_rfl) rfl rfl rfl ?_
 refine Op.cl (slices_Clone hb hbl) rfl Try.func36 rfl rfl rfl rfl ?_
 rintro v J Lc - ⟨rfl, hcn⟩
 try simp only [nf]
 refine WD.go (.inl rfl) (by rintro _ _ ⟨rfl, rfl⟩; exact (by repeat (first | exact There.h | exact There.i (by assumption) | apply There.t | apply There.s))) ?_
 refine WD.val (i := 17) rfl rfl rfl rfl (by kernel_rfl) rfl (Yld.assign rfl rfl) ?_
 refine WD.val (i := 18) rfl rfl rfl rfl (by kernel_rfl) rfl (Yld.assign rfl rfl) ?_
 refine WD.val (i := 19) rfl rfl rfl rfl (by kernel_rfl) rfl (Yld.assign rfl rfl) ?_
 refine WD.val (i := 20) rfl rfl rfl rfl (by kernel_rfl) rfl (Yld.assign rfl rfl) ?_
 refine WD.done (by kernel_rfl) ?_
 refine WP.sub [(0, _), (2, _), (3, _), (4, _), (5, _)] ?_ ⟨rfl, rfl, rfl, rfl, rfl, trivial⟩
 refine WP.next ?_
 refine WP.ret ?_
 refine WP.fn .ret (.inr rfl) (resT (rs := [.tmp 2, .tmp 3, .tmp 4, .tmp 5]) (vs := [_, _, _, _]) rfl ⟨rfl, rfl, rfl, rfl, trivial⟩ rfl) (Lc ++ ((r, row 110 [.pointer (some ⟨l, 0, none⟩), .int .i64 (z.place : Int), vp, .bool true, .int .i64 z.no, .int .i64 z.kind, vb, .int .i64 z.e]) :: Lp)) (Imm.le_refl _) ?_
 exact ⟨rfl, _, _, rfl, hcn, rfl⟩


theorem read_Got {I : Imm} {r l : Nat} {z : Rd} {L : Chunks} (hr : IsRead I r l z L) (hbl : z.b.length ≤ 140737488351232) : Spec Try.prog 27 [.pointer (some ⟨r, 0, none⟩)] I L (fun v J L' => I = J ∧ ∃ vc Lc, v = .tuple #[.int .i64 z.no, .int .i64 z.kind, vc, .int .i64 z.e] ∧ Own 5 1 vc (bytesV z.b) z.b.length Lc ∧ L' = Lc ++ L) := by
 cases hd : z.dn with
 | false => exact read_Got_live hr hbl hd
 | true => exact read_Got_done hr hbl hd

end Go.Hp
