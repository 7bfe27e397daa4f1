/- Words for a book that is written: its block, its row of stays. -/
import Derived.Test.YtpohkolapgofdaaGreatK2
import Derived.Lib.SmallJoins
import Derived.Deep.AppendLies
namespace Go.Proofs.YtpohkolapgofdaaGreat
open Go.RowKit

theorem flat_set (dy : Int) : ∀ (xs : List Stay) (j : Nat), j < xs.length → (xs.flatMap Stay.cells).set (j * 7 + 6) (.int .i64 dy) = (xs.modify j fun s => { s with till := dy }).flatMap Stay.cells
  | [], _, h => absurd h (by simp)
  | y :: ys, 0, _ => by simp [Stay.cells, Lot.cells]
  | y :: ys, j + 1, h => by
    have hj : j < ys.length := by simpa using h
    rw [List.flatMap_cons, List.set_append_right _ _ (by rw [stay_len]; omega), stay_len, show (j + 1) * 7 + 6 - 7 = j * 7 + 6 by omega, flat_set dy ys j hj]
    simp
theorem own_ne {W : World} {base size n : Nat} {e t : TypeId} {v : Value} {xs : List Value} (hown : W.ownsRow base e size v n xs) {b : Nat} {cs : Array Value} {fr : Nat × Nat} (hb : W.heap[b]? = some (.cells cs t fr)) (ht : t ≠ e) : some b ≠ v.ownBlock := by
  rcases hown.2 with ⟨rfl, _⟩ | ⟨g, cap, cur, rfl, _, hh, _⟩
  · simp [Value.ownBlock]
  · intro h
    have hg : b = g := by simpa [Value.ownBlock] using h
    rw [← hg, hb] at hh
    simp only [Option.some.injEq, Obj.cells.injEq] at hh
    exact ht hh.2.1
theorem own_ne_map {W : World} {base size n : Nat} {e : TypeId} {v : Value} {xs : List Value} (hown : W.ownsRow base e size v n xs) {b : Nat} {K V : Type} {ek : K → Value} {ev : V → Value} {m : List (K × V)} (hm : MapAt W b ek ev m) : some b ≠ v.ownBlock := by
  obtain ⟨es, c, hb, _⟩ := hm
  rcases hown.2 with ⟨rfl, _⟩ | ⟨g, cap, cur, rfl, _, hh, _⟩
  · simp [Value.ownBlock]
  · intro h
    have hg : b = g := by simpa [Value.ownBlock] using h
    rw [← hg, hb] at hh
    simp at hh
theorem blk_ne_map {W : World} {b c : Nat} {cs : Array Value} {t : TypeId} {fr : Nat × Nat} {K V : Type} {ek : K → Value} {ev : V → Value} {m : List (K × V)} (hb : W.heap[b]? = some (.cells cs t fr)) (hm : MapAt W c ek ev m) : b ≠ c := by
  obtain ⟨es, k, hc, _⟩ := hm
  rintro rfl
  rw [hb] at hc
  simp at hc
theorem own_keep {w W : World} {base size k : Nat} {e : TypeId} {v : Value} {xs : List Value} (h : w.ownsRow base e size v k xs) {n : Nat} (hb : Below n w W) (hn : w.heap.size ≤ n := by first | exact Nat.le_refl _ | omega) : W.ownsRow base e size v k xs := by
  have hg : w.grownBy W none := ⟨hb.os, hb.tape, hb.output, hb.size, fun i hi _ => hb.block i (Nat.lt_of_lt_of_le hi hn)⟩
  refine h.kept hg ?_
  rcases hv : v.ownBlock with _ | g
  · exact .inl rfl
  · exact .inr (by simp)
theorem own_ext {w : World} {base size k : Nat} {e : TypeId} {v : Value} {xs : List Value} (h : w.ownsRow base e size v k xs) (z : Ez) : (w.ext z).ownsRow base e size v k xs := own_keep h (below_ext w z)
theorem blk_lt {W : World} {b : Nat} {o : Obj} (hb : W.heap[b]? = some o) : b < W.heap.size := (Array.getElem?_eq_some_iff.1 hb).1
theorem grown_set (w : World) (b i : Nat) (u : Value) : w.grownBy (w.setCell ⟨b, i, none⟩ u) (some b) :=
  ⟨rfl, rfl, rfl, by simp, fun k _ hk => heap_setCell_other w ⟨b, i, none⟩ k u (fun e => hk (by simp [e]))⟩

/-- A book's block behind the two last stores of 'add'. -/
theorem book_stored {w : World} {base bb bm : Nat} {k : Bk} {v v0 : Value} {st : List Stay} {m : List (ByteArray × Int)} {d dy : Int}
    (hblk : w.heap[bb]? = some (.cells #[.slice k.A k.n k.c, .slice k.R k.rn k.rc, .int .i64 k.c0, .int .i64 k.c1, .int .i64 k.c2, v0, .map (some bm), .int .i64 d] 101))
    (hown : w.ownsRow base 119 7 v st.length (st.flatMap Stay.cells)) (hm : MapAt w bm ekS evI m) (hb : base ≤ bb) (hbm : base ≤ bm) :
    BookAt ((w.setCell ⟨bb, 5, none⟩ v).setCell ⟨bb, 7, none⟩ (.int .i64 dy)) base bb { k with st := st, m := m, day := dy } := by
  have h1 := Joins.block_setCell (i := 5) hblk v
  have h2 := Joins.block_setCell (i := 7) h1 (.int .i64 dy)
  have hg := grown_trans (grown_set w bb 5 v) (grown_set _ bb 7 (.int .i64 dy))
  have hne := own_ne hown hblk (by decide)
  refine ⟨v, bm, by simpa using h2, hown.kept hg (.inr (Ne.symm hne)), hm.keep (hg.block bm hm.lt ?_), hb, hbm⟩
  have := blk_ne_map hblk hm
  simpa using this.symm
end Go.Proofs.YtpohkolapgofdaaGreat
