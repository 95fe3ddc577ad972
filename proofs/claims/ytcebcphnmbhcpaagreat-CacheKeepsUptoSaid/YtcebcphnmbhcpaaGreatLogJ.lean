import Derived.Test.YtcebcphnmbhcpaaGreatTxnV
set_option linter.unusedVariables false
set_option linter.unusedSimpArgs false
namespace Go.Hp
open Go Go.Proofs

/-- A Read: the parts that it has, and what it has come to. -/
structure Rd where
 place : Nat
 ps : List Pt
 dn : Bool
 no : Int
 kind : Int
 b : List UInt8
 e : Int
def Rd.fin (z : Rd) (ps : List Pt) (no kind : Int) (b : List UInt8) (e : Int) : Rd := ⟨z.place, ps, true, no, kind, b, e⟩
def kindOk (b : List UInt8) : Prop := ¬ (((b.headD 0).toNat : Int) < 1) ∧ ¬ (5 < ((b.headD 0).toNat : Int))
instance (b : List UInt8) : Decidable (kindOk b) := inferInstanceAs (Decidable (_ ∧ _))
/-- A Read: under way, or at its end. -/
inductive IsRead (J : Imm) (r l : Nat) (z : Rd) : Chunks → Prop
 | live {vp vb : Value} {lp : List (Pt × Value)} {Lp : Chunks} (hdn : z.dn = false) (ho : Own 205 6 vp (pcells lp) lp.length Lp) (hd : ∀ e ∈ lp, SlRd (Im J) e.2 e.1.data.length 1 (bytesV e.1.data)) (hp : lp.map (·.1) = z.ps) (h64 : lp.length ≤ 64) (hb : SlRd (Im J) vb z.b.length 1 (bytesV z.b)) :
  IsRead J r l z ((r, row 207 [.pointer (some ⟨l, 0, none⟩), .int .i64 (z.place : Int), vp, .bool false, .int .i64 z.no, .int .i64 z.kind, vb, .int .i64 z.e]) :: Lp)
 | done {vp vb : Value} {Lp : Chunks} (hdn : z.dn = true) (hb : SlRd (Im J) vb z.b.length 1 (bytesV z.b)) :
  IsRead J r l z ((r, row 207 [.pointer (some ⟨l, 0, none⟩), .int .i64 (z.place : Int), vp, .bool true, .int .i64 z.no, .int .i64 z.kind, vb, .int .i64 z.e]) :: Lp)
theorem IsRead.mono {I J : Imm} {r l : Nat} {z : Rd} {L : Chunks} (h : IsRead I r l z L) (hJ : I.le J) : IsRead J r l z L := by
 cases h with
 | live hdn ho hd hp h64 hb => exact .live hdn ho (fun e he => (hd e he).mono fun b o q => hJ.2 b o q) hp h64 (hb.mono fun b o q => hJ.2 b o q)
 | done hdn hb => exact .done hdn (hb.mono fun b o q => hJ.2 b o q)
theorem read_end {I : Imm} {r l p : Nat} {vp vb0 v1 v2 v3 v4 : Value} {no kind e : Int} {A : Option Addr} {m c : Nat} : Spec Tryz.prog 102 [.pointer (some ⟨r, 0, none⟩), .int .i64 no, .int .i64 kind, .slice A m c, .int .i64 e] I [(r, row 207 [.pointer (some ⟨l, 0, none⟩), .int .i64 (p : Int), vp, v1, v2, v3, vb0, v4])] (fun v J L' => v = .bool true ∧ I = J ∧ L' = [(r, row 207 [.pointer (some ⟨l, 0, none⟩), .int .i64 (p : Int), vp, .bool true, .int .i64 no, .int .i64 kind, .slice A m c, .int .i64 e])]) := by
 refine Spec.of Tryz.func102 rfl Tryz.ntmps102 (Nat.le_of_ble_eq_true rfl) (fun F => ?_)
 try simp only [nf]
 dsimp only [argsEnv]
 refine WP.seq ?_; refine WP.region [0] rfl ?_; refine WP.mv rfl rfl ?_; refine WP.nil (WP.next (WP.seq ?_))
 refine WP.region [0, 1, 2, 3, 4, 5, 6, 7, 8, 9, 10, 11, 12, 13, 14, 15, 16, 17, 18, 19, 20, 21, 22, 23] rfl ?_; iterate 9 refine WP.mv rfl rfl ?_
 refine WP.vl rfl (Yld.nilCheck rfl rfl) ?_; refine WP.vl rfl (Yld.fieldAddr rfl ty_fd_207_4 rfl) ?_; refine WP.loud rfl rfl ?_; refine Op.s1 rfl rfl ty_sz_3 rfl rfl rfl ?_; refine WP.vl rfl (Yld.nilCheck rfl rfl) ?_; refine WP.vl rfl (Yld.fieldAddr rfl ty_fd_207_5 rfl) ?_; refine WP.loud rfl rfl ?_; refine Op.s1 rfl rfl ty_sz_3 rfl rfl rfl ?_; refine WP.vl rfl (Yld.nilCheck rfl rfl) ?_; refine WP.vl rfl (Yld.fieldAddr rfl ty_fd_207_6 rfl) ?_; refine WP.loud rfl rfl ?_; refine Op.s1 rfl rfl ty_sz_47 rfl rfl rfl ?_; refine WP.vl rfl (Yld.nilCheck rfl rfl) ?_; refine WP.vl rfl (Yld.fieldAddr rfl ty_fd_207_7 rfl) ?_; refine WP.loud rfl rfl ?_; refine Op.s1 rfl rfl ty_sz_40 rfl rfl rfl ?_; refine WP.vl rfl (Yld.nilCheck rfl rfl) ?_; refine WP.vl rfl (Yld.fieldAddr rfl ty_fd_207_3 rfl) ?_; refine WP.loud rfl rfl ?_; refine Op.s1 rfl rfl ty_sz_4 rfl rfl rfl ?_; refine WP.nil ?_; refine WP.sub [(0, _), (1, _), (2, _), (3, _), (4, _), (10, _)] ?_ ⟨rfl, rfl, rfl, rfl, rfl, rfl, trivial⟩
 refine WP.next (WP.seq ?_)
 refine WP.region [0] rfl ?_; refine WP.mv rfl rfl ?_; refine WP.nil (WP.next (WP.ret ?_))
 refine WP.fn .ret (.inr rfl) (res1 rfl rfl) [(r, row 207 [.pointer (some ⟨l, 0, none⟩), .int .i64 (p : Int), vp, .bool true, .int .i64 no, .int .i64 kind, .slice A m c, .int .i64 e])] (Imm.le_refl _) ?_; exact ⟨rfl, rfl, rfl⟩

theorem read_Got_live {I : Imm} {r l : Nat} {z : Rd} {L : Chunks} (hr : IsRead I r l z L) (hbl : z.b.length ≤ 140737488351232) (hdd : z.dn = false) : Spec Tryz.prog 92 [.pointer (some ⟨r, 0, none⟩)] I L (fun v J L' => I = J ∧ ∃ vc Lc, v = .tuple #[.int .i64 z.no, .int .i64 z.kind, vc, .int .i64 z.e] ∧ Own 5 1 vc (bytesV z.b) z.b.length Lc ∧ L' = Lc ++ L) := by
 cases hr with
 | @done vp vb Lp hdn hb => rw [hdd] at hdn; cases hdn
 | @live vp vb lp Lp hdn ho hd hp h64 hb =>
 refine Spec.of Tryz.func92 rfl Tryz.ntmps92 (Nat.le_of_ble_eq_true rfl) (fun F => ?_)
 try simp only [nf]
 dsimp only [argsEnv]
 refine WP.seq ?_; refine WP.region [0, 1, 2, 3] rfl ?_; iterate 4 refine WP.mv rfl rfl ?_
 refine WP.nil (WP.next (WP.seq ?_))
 refine WD.start Tryzmixed 12 (fun _ _ => False) (fun c o => c = r ∧ o = row 207 [.pointer (some ⟨l, 0, none⟩), .int .i64 (z.place : Int), vp, .bool false, .int .i64 z.no, .int .i64 z.kind, vb, .int .i64 z.e]) (fun _ _ h => h.elim) (by rintro _ _ ⟨rfl, rfl⟩; exact zM) 21 [false, false, false, false, false, false, false, false, false, false, false, false, false, false, false, false, false, false, false, false, false] rfl rfl ?_; refine WD.vl (i := 0) rfl (Yld.move rfl rfl) ?_; refine WD.vl (i := 1) rfl (Yld.nilCheck rfl rfl) ?_; refine WD.vl (i := 2) rfl (Yld.fieldAddr rfl ty_fd_207_4 rfl) ?_; refine WD.vl (i := 3) rfl (Yld.load (v := .int .i64 z.no) rfl ty_sc_3 rfl ⟨rfl, rfl⟩ rfl) ?_; refine WD.vl (i := 4) rfl (Yld.move rfl rfl) ?_; refine WD.vl (i := 5) rfl (Yld.nilCheck rfl rfl) ?_; refine WD.vl (i := 6) rfl (Yld.fieldAddr rfl ty_fd_207_5 rfl) ?_; refine WD.vl (i := 7) rfl (Yld.load (v := .int .i64 z.kind) rfl ty_sc_3 rfl ⟨rfl, rfl⟩ rfl) ?_; refine WD.vl (i := 8) rfl (Yld.move rfl rfl) ?_; refine WD.vl (i := 9) rfl (Yld.nilCheck rfl rfl) ?_; refine WD.vl (i := 10) rfl (Yld.fieldAddr rfl ty_fd_207_6 rfl) ?_; refine WD.vl (i := 11) rfl (Yld.load (v := vb) rfl ty_sc_47 rfl ⟨rfl, rfl⟩ rfl) ?_; refine WD.vl (i := 13) rfl (Yld.move rfl rfl) ?_; refine WD.vl (i := 14) rfl (Yld.nilCheck rfl rfl) ?_; refine WD.vl (i := 15) rfl (Yld.fieldAddr rfl ty_fd_207_7 rfl) ?_; refine WD.vl (i := 16) rfl (Yld.load (v := .int .i64 z.e) rfl ty_sc_40 rfl ⟨rfl, rfl⟩ rfl) ?_; refine WD.loud (i := 12) zK rfl rfl rfl ?_
 refine Op.cl (slices_Clone hb hbl) rfl Tryz.func46 rfl rfl rfl rfl ?_; rintro v J Lc - ⟨rfl, hcn⟩
 try simp only [nf]
 refine WD.go (.inl rfl) (by rintro _ _ ⟨rfl, rfl⟩; exact zM) ?_; refine WD.vl (i := 17) rfl (Yld.assign rfl rfl) ?_; refine WD.vl (i := 18) rfl (Yld.assign rfl rfl) ?_; refine WD.vl (i := 19) rfl (Yld.assign rfl rfl) ?_; refine WD.vl (i := 20) rfl (Yld.assign rfl rfl) ?_; refine WD.done zK ?_; refine WP.sub [(0, _), (2, _), (3, _), (4, _), (5, _)] ?_ ⟨rfl, rfl, rfl, rfl, rfl, trivial⟩
 refine WP.next (WP.ret ?_)
 refine WP.fn .ret (.inr rfl) (resT (rs := [.tmp 2, .tmp 3, .tmp 4, .tmp 5]) (vs := [_, _, _, _]) rfl ⟨rfl, rfl, rfl, rfl, trivial⟩ rfl) (Lc ++ ((r, row 207 [.pointer (some ⟨l, 0, none⟩), .int .i64 (z.place : Int), vp, .bool false, .int .i64 z.no, .int .i64 z.kind, vb, .int .i64 z.e]) :: Lp)) (Imm.le_refl _) ?_; exact ⟨rfl, _, _, rfl, hcn, rfl⟩

theorem read_Got_done {I : Imm} {r l : Nat} {z : Rd} {L : Chunks} (hr : IsRead I r l z L) (hbl : z.b.length ≤ 140737488351232) (hdd : z.dn = true) : Spec Tryz.prog 92 [.pointer (some ⟨r, 0, none⟩)] I L (fun v J L' => I = J ∧ ∃ vc Lc, v = .tuple #[.int .i64 z.no, .int .i64 z.kind, vc, .int .i64 z.e] ∧ Own 5 1 vc (bytesV z.b) z.b.length Lc ∧ L' = Lc ++ L) := by
 cases hr with
 | @live vp vb lp Lp hdn ho hd hp h64 hb => rw [hdd] at hdn; cases hdn
 | @done vp vb Lp hdn hb =>
 refine Spec.of Tryz.func92 rfl Tryz.ntmps92 (Nat.le_of_ble_eq_true rfl) (fun F => ?_)
 try simp only [nf]
 dsimp only [argsEnv]
 refine WP.seq ?_; refine WP.region [0, 1, 2, 3] rfl ?_; iterate 4 refine WP.mv rfl rfl ?_
 refine WP.nil (WP.next (WP.seq ?_))
 refine WD.start Tryzmixed 12 (fun _ _ => False) (fun c o => c = r ∧ o = row 207 [.pointer (some ⟨l, 0, none⟩), .int .i64 (z.place : Int), vp, .bool true, .int .i64 z.no, .int .i64 z.kind, vb, .int .i64 z.e]) (fun _ _ h => h.elim) (by rintro _ _ ⟨rfl, rfl⟩; exact zM) 21 [false, false, false, false, false, false, false, false, false, false, false, false, false, false, false, false, false, false, false, false, false] rfl rfl ?_; refine WD.vl (i := 0) rfl (Yld.move rfl rfl) ?_; refine WD.vl (i := 1) rfl (Yld.nilCheck rfl rfl) ?_; refine WD.vl (i := 2) rfl (Yld.fieldAddr rfl ty_fd_207_4 rfl) ?_; refine WD.vl (i := 3) rfl (Yld.load (v := .int .i64 z.no) rfl ty_sc_3 rfl ⟨rfl, rfl⟩ rfl) ?_; refine WD.vl (i := 4) rfl (Yld.move rfl rfl) ?_; refine WD.vl (i := 5) rfl (Yld.nilCheck rfl rfl) ?_; refine WD.vl (i := 6) rfl (Yld.fieldAddr rfl ty_fd_207_5 rfl) ?_; refine WD.vl (i := 7) rfl (Yld.load (v := .int .i64 z.kind) rfl ty_sc_3 rfl ⟨rfl, rfl⟩ rfl) ?_; refine WD.vl (i := 8) rfl (Yld.move rfl rfl) ?_; refine WD.vl (i := 9) rfl (Yld.nilCheck rfl rfl) ?_; refine WD.vl (i := 10) rfl (Yld.fieldAddr rfl ty_fd_207_6 rfl) ?_; refine WD.vl (i := 11) rfl (Yld.load (v := vb) rfl ty_sc_47 rfl ⟨rfl, rfl⟩ rfl) ?_; refine WD.vl (i := 13) rfl (Yld.move rfl rfl) ?_; refine WD.vl (i := 14) rfl (Yld.nilCheck rfl rfl) ?_; refine WD.vl (i := 15) rfl (Yld.fieldAddr rfl ty_fd_207_7 rfl) ?_; refine WD.vl (i := 16) rfl (Yld.load (v := .int .i64 z.e) rfl ty_sc_40 rfl ⟨rfl, rfl⟩ rfl) ?_; refine WD.loud (i := 12) zK rfl rfl rfl ?_
 refine Op.cl (slices_Clone hb hbl) rfl Tryz.func46 rfl rfl rfl rfl ?_; rintro v J Lc - ⟨rfl, hcn⟩
 try simp only [nf]
 refine WD.go (.inl rfl) (by rintro _ _ ⟨rfl, rfl⟩; exact zM) ?_; refine WD.vl (i := 17) rfl (Yld.assign rfl rfl) ?_; refine WD.vl (i := 18) rfl (Yld.assign rfl rfl) ?_; refine WD.vl (i := 19) rfl (Yld.assign rfl rfl) ?_; refine WD.vl (i := 20) rfl (Yld.assign rfl rfl) ?_; refine WD.done zK ?_; refine WP.sub [(0, _), (2, _), (3, _), (4, _), (5, _)] ?_ ⟨rfl, rfl, rfl, rfl, rfl, trivial⟩
 refine WP.next (WP.ret ?_)
 refine WP.fn .ret (.inr rfl) (resT (rs := [.tmp 2, .tmp 3, .tmp 4, .tmp 5]) (vs := [_, _, _, _]) rfl ⟨rfl, rfl, rfl, rfl, trivial⟩ rfl) (Lc ++ ((r, row 207 [.pointer (some ⟨l, 0, none⟩), .int .i64 (z.place : Int), vp, .bool true, .int .i64 z.no, .int .i64 z.kind, vb, .int .i64 z.e]) :: Lp)) (Imm.le_refl _) ?_; exact ⟨rfl, _, _, rfl, hcn, rfl⟩


theorem read_Got {I : Imm} {r l : Nat} {z : Rd} {L : Chunks} (hr : IsRead I r l z L) (hbl : z.b.length ≤ 140737488351232) : Spec Tryz.prog 92 [.pointer (some ⟨r, 0, none⟩)] I L (fun v J L' => I = J ∧ ∃ vc Lc, v = .tuple #[.int .i64 z.no, .int .i64 z.kind, vc, .int .i64 z.e] ∧ Own 5 1 vc (bytesV z.b) z.b.length Lc ∧ L' = Lc ++ L) := by
 cases hd : z.dn with
 | false => exact read_Got_live hr hbl hd
 | true => exact read_Got_done hr hbl hd

end Go.Hp
