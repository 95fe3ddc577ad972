import Derived.Test.YtcebcphnmbhcpaaGreatCacO
import Derived.Test.YtcebcphnmbhcpaaGreatBulk
set_option linter.unusedVariables false
set_option linter.unusedSimpArgs false
namespace Go.Hp
open Go Go.Proofs

theorem slc_bulk {H α : Type} {d : DataW H} {xs : List α} {D : α → DataW H → Prop} (h : (d = .nil ∧ xs = []) ∨ ∃ ds rest, d = .slice ds rest ∧ ds.length = xs.length ∧ ∀ (i : Nat) (a : α), xs[i]? = some a → ∃ e, ds[i]? = some e ∧ D a e) : xs.length ≤ YtcebcphnmbhcpaaGreat.Rows.uptoBulk d ∧ ∀ a ∈ xs, ∃ e, D a e ∧ YtcebcphnmbhcpaaGreat.Rows.uptoBulk e ≤ YtcebcphnmbhcpaaGreat.Rows.uptoBulk d := by
 rcases h with ⟨_, rfl⟩ | ⟨ds, rest, rfl, hl, hel⟩
 ·exact ⟨by simp, fun a ha => by cases ha⟩
 ·have h1 := YtcebcphnmbhcpaaGreat.bulks.slice_le ds rest
  have h2 := YtcebcphnmbhcpaaGreat.bulks.slice_elems ds rest
  refine ⟨by omega, fun a ha => ?_⟩
  obtain ⟨i, hi, rfl⟩ := List.getElem_of_mem ha
  obtain ⟨e, h3, h4⟩ := hel i _ (List.getElem?_eq_getElem hi)
  have h5 := YtcebcphnmbhcpaaGreat.bulks.part_le (List.mem_of_getElem? h3)
  exact ⟨e, h4, by omega⟩
/-- A change that somebody brings. -/
structure Chg where
 put : Bool
 kind : Int
 page : Int
 n : Int
 vb : Value
 b : List UInt8
def RChg (I : Imm) (o : Chg) (cs : List Value) : Prop := cs = [.bool o.put, .int .i64 o.kind, .int .i64 o.page, .int .i64 o.n, o.vb] ∧ SlRd (Im I) o.vb o.b.length 1 (bytesV o.b)
def DChg {H : Type} (o : Chg) (d : DataW H) : Prop := o.b.length ≤ YtcebcphnmbhcpaaGreat.Rows.uptoBulk d
set_option maxRecDepth 100000 in
theorem elem_chg {H : Type} {enc : TypeId × Value → H} {W : World} {sp : Nat → Bool} {held : Bool} (n : Nat) (cs : List Value) (x : DataW H × List MemPlace) (h : DataW.trod enc Tryz.prog W 0 sp held n 53 cs = some x) (hl : cs.length = 5) : ∃ a, RChg (immOf W) a cs ∧ DChg a x.1 := by
 obtain ⟨fs, hu, g0, g1, g2, g3, g4⟩ : ∃ fs, Tryz.prog.underlying 53 = some (.struct fs) ∧ (fs[0]?.map fun f => (f.type, f.offset)) = some (4, 0) ∧ (fs[1]?.map fun f => (f.type, f.offset)) = some (3, 1) ∧ (fs[2]?.map fun f => (f.type, f.offset)) = some (3, 2) ∧ (fs[3]?.map fun f => (f.type, f.offset)) = some (3, 3) ∧ (fs[4]?.map fun f => (f.type, f.offset)) = some (47, 4) := ⟨_, rfl, rfl, rfl, rfl, rfl, rfl⟩
 obtain ⟨xs, n', rfl, rfl, _, hxl, hel⟩ := DataW.trod_struct hu h
 have hget : ∀ (i ft off : Nat), (fs[i]?.map fun (f : Field) => (f.type, f.offset)) = some (ft, off) → ∃ y, xs[i]? = some y := by
  intro i ft off hf
  obtain ⟨f, h1, _⟩ := Option.map_eq_some_iff.1 hf
  have : i < fs.size := (Array.getElem?_eq_some_iff.1 h1).1
  exact ⟨_, List.getElem?_eq_getElem (by omega)⟩
 have k0 := part_trod hel 0 4 0 1 g0 zK
 obtain ⟨y0, e0⟩ := hget _ _ _ g0
 rw [e0] at k0
 have k1 := part_trod hel 1 3 1 1 g1 zK
 obtain ⟨y1, e1⟩ := hget _ _ _ g1
 rw [e1] at k1
 have k2 := part_trod hel 2 3 2 1 g2 zK
 obtain ⟨y2, e2⟩ := hget _ _ _ g2
 rw [e2] at k2
 have k3 := part_trod hel 3 3 3 1 g3 zK
 obtain ⟨y3, e3⟩ := hget _ _ _ g3
 rw [e3] at k3
 have k4 := part_trod hel 4 47 4 1 g4 zK
 obtain ⟨y4, e4⟩ := hget _ _ _ g4
 rw [e4] at k4
 match cs, hl with
 | [c0, c1, c2, c3, c4], _ =>
 obtain ⟨a0, j0, _⟩ := DataW.trod_bool Tryz.underlying4 k0
 obtain ⟨a1, j1, _, w1⟩ := DataW.trod_int Tryz.underlying3 k1
 obtain ⟨a2, j2, _, w2⟩ := DataW.trod_int Tryz.underlying3 k2
 obtain ⟨a3, j3, _, w3⟩ := DataW.trod_int Tryz.underlying3 k3
 obtain ⟨v4, z4, j4, S4, D4⟩ := open_slc RB (fun _ _ => True) Tryz.underlying47 (sz := 1) zK (by decide) (elem_byte zK) k4
 simp only [List.drop_zero, List.drop_succ_cons, List.take_succ_cons, List.take_zero, List.cons.injEq, and_true] at j0 j1 j2 j3 j4
 refine ⟨⟨a0, a1, a2, a3, v4, z4⟩, ⟨by rw [j0, j1, j2, j3, j4], Slc.bytes S4⟩, ?_⟩
 have q1 := (slc_bulk D4).1
 have q2 := YtcebcphnmbhcpaaGreat.bulks.part_le (List.mem_map_of_mem (f := (·.1)) (List.mem_of_getElem? e4))
 simp only [DChg, YtcebcphnmbhcpaaGreat.Rows.uptoBulk]; omega
theorem Slc.chg {I : Imm} {A : Option Addr} {m c : Nat} {l : List Chg} (h : Slc I 5 (RChg I) (.slice A m c) l) {i : Nat} (hi : i < l.length) : ∃ b k T fr arr, A = some ⟨b, k, none⟩ ∧ I.blk b = some (.cells arr T fr) ∧ arr[k + i * 5]? = some (.bool l[i].put) ∧ arr[k + i * 5 + 1]? = some (.int .i64 l[i].kind) ∧ arr[k + i * 5 + 2]? = some (.int .i64 l[i].page) ∧ arr[k + i * 5 + 3]? = some (.int .i64 l[i].n) ∧ arr[k + i * 5 + 4]? = some l[i].vb ∧ SlRd (Im I) l[i].vb l[i].b.length 1 (bytesV l[i].b) := by
 obtain ⟨A', cap, e, _, h3⟩ := h
 cases e
 rcases h3 with rfl | ⟨b, k, arr, T, fr, rfl, hb, hel⟩
 ·cases hi
 ·obtain ⟨_, hcs, h1⟩ := hel i _ (List.getElem?_eq_getElem hi)
  have at_ : ∀ (j : Nat) (v : Value), j < 5 → ([.bool l[i].put, .int .i64 l[i].kind, .int .i64 l[i].page, .int .i64 l[i].n, l[i].vb] : List Value)[j]? = some v → arr[k + i * 5 + j]? = some v := fun j v hj hv => by
   have := take_cells hcs j v hv hj; rwa [Array.getElem?_toList] at this
  exact ⟨b, k, T, fr, arr, rfl, hb, at_ 0 _ (by decide) rfl, at_ 1 _ (by decide) rfl, at_ 2 _ (by decide) rfl, at_ 3 _ (by decide) rfl, at_ 4 _ (by decide) rfl, h1⟩
theorem W1_ne {N : Nds} {k : Int} (h : k ≠ 1) : W1 N k = [] := updW_ne h
/-- What put makes of the world of one page. -/
theorem CPutR.one {m : Nat} {B : Bd} {N : Nds} {tb tb2 : Tb} {x : Lg} {e : Ent} {d : List UInt8} {c : Bool} (w : CW m B (W1 N) tb x) (hN : N ≠ []) (he : tb.ent 1 = some e) (hk : N.length ≤ 60 → N.length + 1 ≤ B.k) (hd : d.length ≤ B.b) (h : CPutR tb 1 e d c tb2) : Gro tb tb2 x x ∧ tb2.tok ≤ tb.tok + 1 ∧ ∃ N2, N2 ≠ [] ∧ CW m B (W1 N2) tb2 x ∧ ((c = true ∧ N2 = (false, d) :: N ∧ e.nodes = N ∧ tb.Swapped tb2 1 (putE e d)) ∨ (c = false ∧ N2 = N ∧ tb2 = tb)) := by
 have hW : W1 N 1 ≠ [] := by rw [W1_1]; exact hN
 have hh := w.held hW he
 rw [W1_1] at hh
 rcases h with ⟨h1, rfl, _⟩ | ⟨h1, h2, h3, h4⟩
 ·exact ⟨.refl _ _, Nat.le_succ _, N, hN, w, .inr ⟨h1, rfl, rfl⟩⟩
 ·have hn := hh.ok.nds.resolve_left h2
  rw [hn] at h3
  refine ⟨.swap h4 _, by rw [h4.tok]; exact Nat.le_refl _, (false, d) :: N, by simp, ?_, .inl ⟨h1, rfl, hn, h4⟩⟩
  exact w.swap ⟨by decide, by decide⟩ h4 (fun k hk => (W1_ne hk).trans (W1_ne hk).symm) (by rw [W1_1]; exact hh.ok.put h2 h3 (hk h3) hd)
theorem put_may {m : Nat} {B : Bd} {W : Int → Nds} {tb : Tb} {x : Lg} {p : Int} {e : Ent} {d : List UInt8} (w : CW m B W tb x) (hW : W p ≠ []) (he : tb.ent p = some e) (hk : (W p).length ≤ 60 → (W p).length + 1 ≤ B.k) (hb : B.b ≤ 1099511627776) (hd : d.length ≤ B.b) : e.nodes.length ≤ 64 ∧ (e.nodes ≠ [] → e.nodes.length ≤ 60 → (putE e d).mayP) ∧ (e.nodes ≠ [] → e.nodes.length ≤ 60 → (putE e d).sized) := by
 have hh := w.held hW he
 refine ⟨hh.ok.len, fun h1 h2 => ?_, fun h1 h2 => ?_⟩
 ·have hn := hh.ok.nds.resolve_left h1
  rw [hn] at h2
  exact (hh.ok.put h1 h2 (hk h2) hd).mayP
 ·have hn := hh.ok.nds.resolve_left h1
  rw [hn] at h2
  exact (hh.ok.put h1 h2 (hk h2) hd).sized hb
end Go.Hp
