/- Plain: what a death does to the rights, as the program reckons it. -/
import Derived.Test.YtkhkhnellekofaaGreatDoorE2
import Derived.Test.YtkhkhnellekofaaGreatDoorE4
import Derived.Test.YtkhkhnellekofaaGreatDoorJT
import Derived.Test.YtkhkhnellekofaaGreatDoorN9
set_option linter.unusedSimpArgs false
set_option linter.unusedVariables false
namespace Go.Proofs.YtkhkhnellekofaaGreatDoor
open Go.RowKit Go.Shelf

theorem mem_rows {m : List (ByteArray × Value)} {g : Nat} : g ∈ rowBlocks m ↔ ∃ e ∈ m, blkOf e.2 = some g := by
 unfold rowBlocks
 rw [List.mem_filterMap]
theorem rows_cons (e : ByteArray × Value) (m : List (ByteArray × Value)) : rowBlocks (e :: m) = (blkOf e.2).toList ++ rowBlocks m := by
 unfold rowBlocks
 rw [List.filterMap_cons]
 cases h : blkOf e.2 <;> simp
theorem rows_append (m l : List (ByteArray × Value)) : rowBlocks (m ++ l) = rowBlocks m ++ rowBlocks l := by
 unfold rowBlocks
 exact List.filterMap_append
theorem rows_put {k : ByteArray} {v : Value} : ∀ {m : List (ByteArray × Value)}, (rowBlocks m).Nodup → (∀ g, blkOf v = some g → (∃ v0, mget eqS k m = some v0 ∧ blkOf v0 = some g) ∨ g ∉ rowBlocks m) →
    (rowBlocks (mput eqS k v m)).Nodup ∧ ∀ g ∈ rowBlocks (mput eqS k v m), g ∈ rowBlocks m ∨ blkOf v = some g
 | [], _, _ => by
  rw [mput, rows_cons]
  have e : rowBlocks [] = [] := rfl
  rw [e]
  cases h : blkOf v <;> simp
 | x :: m, hn, hv => by
  rw [rows_cons, List.nodup_append] at hn
  obtain ⟨n1, n2, n3⟩ := hn
  rw [mput]
  cases hk : eqS k x.1
  · rw [if_neg (by simp)]
    have hv' : ∀ g, blkOf v = some g → (∃ v0, mget eqS k m = some v0 ∧ blkOf v0 = some g) ∨ g ∉ rowBlocks m := fun g hg => by
     rcases hv g hg with ⟨v0, h1, h2⟩ | h
     · rw [mget, hk] at h1
       exact .inl ⟨v0, by simpa using h1, h2⟩
     · exact .inr fun h' => h (by rw [rows_cons]; exact List.mem_append_right _ h')
    obtain ⟨i1, i2⟩ := rows_put n2 hv'
    rw [rows_cons, List.nodup_append]
    refine ⟨⟨n1, i1, fun a ha b hb e => ?_⟩, fun g hg => ?_⟩
    · subst e
      rcases i2 _ hb with h | h
      · exact n3 a ha a h rfl
      · rcases hv a h with ⟨v0, h1, h2⟩ | h'
        · rw [mget, hk] at h1
          have h1' : mget eqS k m = some v0 := by simpa using h1
          exact n3 a ha a (mem_rows.2 ⟨_, mget_mem h1', h2⟩) rfl
        · exact h' (by rw [rows_cons]; exact List.mem_append_left _ ha)
    · rw [List.mem_append] at hg
      rcases hg with hg | hg
      · exact .inl (by rw [rows_cons]; exact List.mem_append_left _ hg)
      · rcases i2 g hg with h | h
        · exact .inl (by rw [rows_cons]; exact List.mem_append_right _ h)
        · exact .inr h
  · rw [if_pos rfl, rows_cons, List.nodup_append]
    have hx : mget eqS k (x :: m) = some x.2 := by rw [mget, hk]; rfl
    refine ⟨⟨by cases h : blkOf v <;> simp, n2, fun a ha b hb e => ?_⟩, fun g hg => ?_⟩
    · subst e
      have ha' : blkOf v = some a := by
       cases h : blkOf v with
       | none => simp [h] at ha
       | some y => simp [h] at ha; rw [ha]
      rcases hv a ha' with ⟨v0, h1, h2⟩ | h'
      · rw [hx] at h1
        simp only [Option.some.injEq] at h1
        subst h1
        exact n3 a (by rw [h2]; simp) a hb rfl
      · exact h' (by rw [rows_cons]; exact List.mem_append_right _ hb)
    · rw [List.mem_append] at hg
      rcases hg with hg | hg
      · cases h : blkOf v with
        | none => simp [h] at hg
        | some y => simp [h] at hg; exact .inr (by rw [hg])
      · exact .inl (by rw [rows_cons]; exact List.mem_append_right _ hg)
theorem rows_apart {k n : ByteArray} {v v0 : Value} {g : Nat} (hne : sameB n k = false) : ∀ {m : List (ByteArray × Value)}, (rowBlocks m).Nodup → mget eqS n m = some v → mget eqS k m = some v0 → blkOf v = some g → blkOf v0 ≠ some g
 | [], _, h, _, _ => by cases h
 | x :: m, hn, h1, h2, h3 => fun h4 => by
  rw [rows_cons, List.nodup_append] at hn
  obtain ⟨n1, n2, n3⟩ := hn
  rw [mget] at h1 h2
  cases ha : eqS n x.1
  · rw [ha] at h1
    simp only [Bool.false_eq_true, if_false] at h1
    cases hb : eqS k x.1
    · rw [hb] at h2
      simp only [Bool.false_eq_true, if_false] at h2
      exact rows_apart hne n2 h1 h2 h3 h4
    · rw [hb] at h2
      simp only [if_true, Option.some.injEq] at h2
      subst h2
      exact n3 g (by rw [h4]; simp) g (mem_rows.2 ⟨_, mget_mem h1, h3⟩) rfl
  · rw [ha] at h1
    simp only [if_true, Option.some.injEq] at h1
    subst h1
    cases hb : eqS k x.1
    · rw [hb] at h2
      simp only [Bool.false_eq_true, if_false] at h2
      exact n3 g (by rw [h3]; simp) g (mem_rows.2 ⟨_, mget_mem h2, h4⟩) rfl
    · have e1 : n = x.1 := same_iff.1 ha
      have e2 : k = x.1 := same_iff.1 hb
      rw [e1, e2, same_refl] at hne
      cases hne
theorem kids_push (s : St) (f t n : ByteArray) : childrenP { s with children := s.children ++ [(f, t)] } n = childrenP s n ++ if sameB f n then [t] else [] := by
 unfold childrenP
 simp only [List.filter_append, List.map_append, List.filter_cons, List.filter_nil]
 cases sameB f n <;> simp
theorem pars_push (s : St) (f t n : ByteArray) : parentsP { s with children := s.children ++ [(f, t)] } n = parentsP s n ++ if sameB t n then [f] else [] := by
 unfold parentsP
 simp only [List.filter_append, List.map_append, List.filter_cons, List.filter_nil]
 cases sameB t n <;> simp
theorem row_own {W : World} {base : Nat} {m : List (ByteArray × Value)} {n : ByteArray} {xs : List ByteArray} (h : RowIs W base m n xs) : ∃ A c, (mget eqS n m).getD (.slice none 0 0) = .slice A xs.length c ∧ OwnS W base 9 1 sC (.slice A xs.length c) xs ∧ (∀ g, blkOf (.slice A xs.length c) = some g → mget eqS n m = some (.slice A xs.length c)) := by
 rcases h with ⟨h1, rfl⟩ | ⟨v, h1, h2⟩
 · exact ⟨none, 0, by rw [h1]; rfl, OwnS.nil, fun g hg => by cases hg⟩
 · obtain ⟨A, c, rfl, _, _⟩ := h2.sl sC_len
   exact ⟨A, c, by rw [h1]; rfl, h2, fun _ _ => h1⟩
theorem same_sym (a b : ByteArray) : sameB a b = sameB b a := by rw [Bool.eq_iff_iff, same_iff, same_iff]; exact ⟨Eq.symm, Eq.symm⟩
theorem OwnS.same {α : Type} {W W' : World} {base : Nat} {e : TypeId} {size : Nat} {f : α → List Value} {v : Value} {xs : List α} (h : OwnS W base e size f v xs) (hk : ∀ g cur, blkOf v = some g → W.heap[g]? = some (.cells cur e (0, 0)) → W'.heap[g]? = W.heap[g]?) : OwnS W' base e size f v xs := by
 rcases h with h | ⟨g, o, cap, cur, rfl, hb, hh, rest⟩
 · exact .inl h
 · exact .inr ⟨g, o, cap, cur, rfl, hb, (hk g cur rfl hh).trans hh, rest⟩
theorem own_str {W : World} {base : Nat} {v : Value} {xs : List ByteArray} (h : OwnS W base 9 1 sC v xs) {g : Nat} (hg : blkOf v = some g) : ∃ cur, W.heap[g]? = some (.cells cur 9 (0, 0)) := by
 rcases h with ⟨rfl, _⟩ | ⟨k, o, c, cur, rfl, _, hk, _⟩
 · cases hg
 · simp only [blkOf, Option.some.injEq] at hg
   subst hg
   exact ⟨cur, hk⟩
theorem wld_child {base b : Nat} {W w9 : World} {B ps : List Nat} {d c p wl r : Nat} {mv tv va vb v1 v2 : Value} {s : St} {la co : Int} {mc mp : List (ByteArray × Value)} {fr tn : ByteArray} (hb : base ≤ b) (hC : WldC W b d c p wl r mv tv la co) (hP : PplAt base W B d c p wl r mv s) (hT : TombsAt base W B tv ps s.graves)
    (k1 : MapS W c ekS (fun v : Value => v) mc) (k2 : MapS W p ekS (fun v : Value => v) mp) (k3 : ∀ n, RowIs W base mc n (childrenP s n)) (k4 : ∀ n, RowIs W base mp n (parentsP s n)) (k5 : B = rowBlocks (mc ++ mp)) (k6 : B.Nodup ∧ (mc.map (·.1)).Nodup ∧ (mp.map (·.1)).Nodup)
    (ha : OwnS W base 9 1 sC va (childrenP s fr)) (ha' : ∀ g, blkOf va = some g → mget eqS fr mc = some va) (hv : OwnS W base 9 1 sC vb (parentsP s tn)) (hv' : ∀ g, blkOf vb = some g → mget eqS tn mp = some vb)
    (o1 : OwnS w9 base 9 1 sC v1 (childrenP s fr ++ [tn])) (o2 : OwnS w9 base 9 1 sC v2 (parentsP s tn ++ [fr])) (b1 : ∀ g, blkOf v1 = some g → blkOf va = some g ∨ W.heap.size ≤ g) (b2 : ∀ g, blkOf v2 = some g → blkOf vb = some g ∨ W.heap.size ≤ g) (b12 : ∀ g, blkOf v1 = some g → blkOf v2 ≠ some g)
    (m1 : MapS w9 c ekS (fun v : Value => v) (mput eqS fr v1 mc)) (m2 : MapS w9 p ekS (fun v : Value => v) (mput eqS tn v2 mp)) (hF : ∀ k, k < W.heap.size → k ≠ c → k ≠ p → blkOf va ≠ some k → blkOf vb ≠ some k → w9.heap[k]? = W.heap[k]?) : WldAt base w9 b { s with children := s.children ++ [(fr, tn)] } la co := by
 have hnd := hP.nd
 simp only [List.nodup_cons, List.mem_cons, List.not_mem_nil, or_false, not_or] at hnd
 obtain ⟨⟨n1, n2, n3, n4⟩, ⟨n5, n6, n7⟩, ⟨n8, n9⟩, n10, _⟩ := hnd
 obtain ⟨ec, cc, hc⟩ := mapS_block k1
 obtain ⟨ep, cp, hp⟩ := mapS_block k2
 -- cells of another type stay
 have hcell : ∀ {k : Nat} {cur : Array Value} {t : TypeId} {f : Nat × Nat}, W.heap[k]? = some (.cells cur t f) → t ≠ 9 → w9.heap[k]? = W.heap[k]? := fun {k cur t f} hk ht => by
  refine hF k (Array.getElem?_eq_some_iff.1 hk).1 (fun e => ?_) (fun e => ?_) (fun e => ?_) (fun e => ?_)
  · subst e; rw [hc] at hk; simp at hk
  · subst e; rw [hp] at hk; simp at hk
  · obtain ⟨cur', h'⟩ := own_str ha e
    rw [h'] at hk
    simp only [Option.some.injEq, Obj.cells.injEq] at hk
    exact ht hk.2.1.symm
  · obtain ⟨cur', h'⟩ := own_str hv e
    rw [h'] at hk
    simp only [Option.some.injEq, Obj.cells.injEq] at hk
    exact ht hk.2.1.symm
 have hmap : ∀ {k : Nat} {es : Array MapEntry} {x : Nat}, W.heap[k]? = some (.map es x) → k ≠ c → k ≠ p → w9.heap[k]? = W.heap[k]? := fun {k es x} hk h1 h2 => by
  refine hF k (Array.getElem?_eq_some_iff.1 hk).1 h1 h2 (fun e => ?_) (fun e => ?_)
  · obtain ⟨cur', h'⟩ := own_str ha e
    rw [h'] at hk; simp at hk
  · obtain ⟨cur', h'⟩ := own_str hv e
    rw [h'] at hk; simp at hk
 have hva : ∀ g, blkOf va = some g → g ∈ rowBlocks mc := fun g hg => mem_rows.2 ⟨_, mget_mem (ha' g hg), hg⟩
 have hvb : ∀ g, blkOf vb = some g → g ∈ rowBlocks mp := fun g hg => mem_rows.2 ⟨_, mget_mem (hv' g hg), hg⟩
 obtain ⟨k6, kn1, kn2⟩ := k6
 rw [k5, rows_append, List.nodup_append] at k6
 obtain ⟨q1, q2, q3⟩ := k6
 have hold : ∀ {m : List (ByteArray × Value)} {n : ByteArray} {v : Value} {xs : List ByteArray}, mget eqS n m = some v → OwnS W base 9 1 sC v xs → (∀ g, blkOf v = some g → blkOf va ≠ some g ∧ blkOf vb ≠ some g) → OwnS w9 base 9 1 sC v xs := fun {m n v xs} hm ho hne =>
  ho.same fun g cur hg hh => hF g (Array.getElem?_eq_some_iff.1 hh).1 (fun e => by subst e; rw [hc] at hh; simp at hh) (fun e => by subst e; rw [hp] at hh; simp at hh) (hne g hg).1 (hne g hg).2
 have hfr1 : ∀ g, W.heap.size ≤ g → g ∉ rowBlocks mc ∧ g ∉ rowBlocks mp := fun g hg => by
  have key : ∀ {m : List (ByteArray × Value)} {f : ByteArray → List ByteArray}, (m.map (·.1)).Nodup → (∀ n, RowIs W base m n (f n)) → g ∉ rowBlocks m := fun {m f} hk hr h => by
   obtain ⟨e, he, hge⟩ := mem_rows.1 h
   have h1 := mem_mget hk (show (e.1, e.2) ∈ m from he)
   rcases hr e.1 with ⟨h2, _⟩ | ⟨v, h2, h3⟩
   · rw [h2] at h1; cases h1
   · rw [h2] at h1
     simp only [Option.some.injEq] at h1
     rw [h1] at h3
     have := (h3.ge g hge).2
     omega
  exact ⟨key kn1 k3, key kn2 k4⟩
 have R1 := rows_put (k := fr) (v := v1) q1 (fun g hg => by
  rcases b1 g hg with h | h
  · exact .inl ⟨va, ha' g h, h⟩
  · exact .inr (hfr1 g h).1)
 have R2 := rows_put (k := tn) (v := v2) q2 (fun g hg => by
  rcases b2 g hg with h | h
  · exact .inl ⟨vb, hv' g h, h⟩
  · exact .inr (hfr1 g h).2)
 have hB' : ∀ g ∈ rowBlocks (mput eqS fr v1 mc ++ mput eqS tn v2 mp), g ∈ B ∨ W.heap.size ≤ g := fun g hg => by
  rw [rows_append, List.mem_append] at hg
  rw [k5, rows_append]
  rcases hg with hg | hg
  · rcases R1.2 g hg with h | h
    · exact .inl (List.mem_append_left _ h)
    · rcases b1 g h with h | h
      · exact .inl (List.mem_append_left _ (hva g h))
      · exact .inr h
  · rcases R2.2 g hg with h | h
    · exact .inl (List.mem_append_right _ h)
    · rcases b2 g h with h | h
      · exact .inl (List.mem_append_right _ (hvb g h))
      · exact .inr h
 obtain ⟨m, k7, k8⟩ := hP.wills
 refine ⟨_, d, c, p, wl, r, mv, tv, ps, hb, ?_, ⟨hP.nd, hP.ge, ?_, ⟨_, _, m1, m2, fun n => ?_, fun n => ?_, rfl, ?_⟩, ?_, ⟨m, ?_, fun n => ?_⟩, ?_⟩, ⟨?_, hT.len, hT.nd, fun i T g e1 e2 => ?_⟩⟩
 · exact (hcell hC (by decide)).trans hC
 · obtain ⟨es, x, hx⟩ := mapS_block hP.dead
   exact hP.dead.keep (hmap hx n1 n2)
 · rw [kids_push]
   unfold RowIs
   rw [mget_mput]
   cases hn : sameB n fr
   · rw [same_sym fr n, hn]
     simp only [Bool.false_eq_true, if_false, List.append_nil]
     rcases k3 n with h | ⟨v, h1, h2⟩
     · exact .inl h
     · refine .inr ⟨v, h1, hold h1 h2 fun g hg => ⟨fun e => ?_, fun e => ?_⟩⟩
       · exact rows_apart hn q1 h1 (ha' g e) hg e
       · exact q3 g (mem_rows.2 ⟨_, mget_mem h1, hg⟩) g (hvb g e) rfl
   · rw [same_sym fr n, hn]
     have e : n = fr := same_iff.1 hn
     subst e
     exact .inr ⟨v1, rfl, o1⟩
 · rw [pars_push]
   unfold RowIs
   rw [mget_mput]
   cases hn : sameB n tn
   · rw [same_sym tn n, hn]
     simp only [Bool.false_eq_true, if_false, List.append_nil]
     rcases k4 n with h | ⟨v, h1, h2⟩
     · exact .inl h
     · refine .inr ⟨v, h1, hold h1 h2 fun g hg => ⟨fun e => ?_, fun e => ?_⟩⟩
       · exact q3 g (hva g e) g (mem_rows.2 ⟨_, mget_mem h1, hg⟩) rfl
       · exact rows_apart hn q2 h1 (hv' g e) hg e
   · rw [same_sym tn n, hn]
     have e : n = tn := same_iff.1 hn
     subst e
     exact .inr ⟨v2, rfl, o2⟩
 · refine ⟨?_, (mput_keys _ _ _ kn1).1, (mput_keys _ _ _ kn2).1⟩
   rw [rows_append, List.nodup_append]
   refine ⟨R1.1, R2.1, fun g hg g' hg' e => ?_⟩
   subst e
   rcases R1.2 g hg with h | h
   · rcases R2.2 g hg' with h' | h'
     · exact q3 g h g h' rfl
     · rcases b2 g h' with h' | h'
       · exact q3 g h g (hvb g h') rfl
       · exact (hfr1 g h').1 h
   · rcases R2.2 g hg' with h' | h'
     · rcases b1 g h with h | h
       · exact q3 g (hva g h) g h' rfl
       · exact (hfr1 g h).2 h'
     · exact b12 g h h'
 · exact hP.marr.same fun g cur _ hh => hcell hh (by decide)
 · obtain ⟨es, x, hx⟩ := mapS_block k7
   exact k7.keep (hmap hx (fun e => n6 e.symm) (fun e => n8 e.symm))
 · rcases k8 n with h | ⟨A, x, h1, h2⟩
   · exact .inl h
   · exact .inr ⟨A, x, h1, h2.same fun g cur f hh _ => hcell hh (by decide)⟩
 · obtain ⟨es, x, hx⟩ := mapS_block hP.ren
   exact hP.ren.keep (hmap hx (fun e => n7 e.symm) (fun e => n9 e.symm))
 · exact hT.own.same fun g cur _ hh => hcell hh (by decide)
 · obtain ⟨H, hh, D, dc, f', t1, t2, t3, t4, t5, t6, t7⟩ := hT.all i T g e1 e2
   refine ⟨H, hh, D, dc, f', (hcell t1 (by decide)).trans t1, t2, t3, t4, t5.same fun g' cur f hx _ => hcell hx (by decide), ?_, fun hl a ha1 hin => ?_⟩
   · intro hl
     obtain ⟨g', off, cur, f, hA, hx, hy⟩ := t6 hl
     have hnB := t7 hl ⟨g', off, none⟩ hA
     refine ⟨g', off, cur, f, hA, ?_, hy⟩
     rw [← hx]
     refine hF g' (Array.getElem?_eq_some_iff.1 hx).1 (fun e => by subst e; rw [hc] at hx; simp at hx) (fun e => by subst e; rw [hp] at hx; simp at hx) (fun e => hnB ?_) (fun e => hnB ?_)
     · rw [k5, rows_append]; exact List.mem_append_left _ (hva g' e)
     · rw [k5, rows_append]; exact List.mem_append_right _ (hvb g' e)
   · obtain ⟨g', off, cur, f, hA, hx, hy⟩ := t6 hl
     rw [hA] at ha1
     simp only [Option.some.injEq] at ha1
     rcases hB' _ hin with h | h
     · exact t7 hl a (by rw [hA, ha1]) h
     · have := (Array.getElem?_eq_some_iff.1 hx).1
       rw [← ha1] at h
       simp at h
       omega
end Go.Proofs.YtkhkhnellekofaaGreatDoor
namespace Go.Proofs.YtkhkhnellekofaaGreatDoor
open Go.RowKit

def heldQ (n : ByteArray) (day : Int) (g : Grave) : Bool := inForceP g day && decide (0 < (shareP g.holders n).num)
theorem num_pos7 {q : Rat} : 0 < q ↔ 0 < q.num := by rw [Rat.lt_iff]; simp
theorem held_same {s : St} {last day : Int} {n : ByteArray} {i : Nat} {g : Grave} (hG : GoodSt s last) (hl : last ≤ day) (hi : s.graves[i]? = some g) : heldP s n day i g = heldQ n day g := by
 have hgg := hG.graves g (List.mem_of_getElem? hi)
 have hn := share_nonneg hgg.good n
 have h1 : (shareP g.holders n != 0) = decide (0 < (shareP g.holders n).num) := by
  rw [Bool.eq_iff_iff, bne_iff_ne, decide_eq_true_eq, ← num_pos7]
  constructor
  · intro h
    exact Rat.lt_of_le_of_ne hn (fun e => h e.symm)
  · intro h e
    rw [e] at h
    exact absurd h (by decide)
 have h2 : (graveIx s g.place day == some i) = inForceP g day := by
  cases hf : inForceP g day
  · cases hx : graveIx s g.place day with
    | none => rfl
    | some j =>
     obtain ⟨gj, h3, h4, h5⟩ := graveIx_some hx
     cases hji : (some j == some i)
     · rfl
     · have e : j = i := by simpa using hji
       subst e
       rw [h3] at hi
       simp only [Option.some.injEq] at hi
       rw [hi, hf] at h5
       cases h5
  · cases hx : graveIx s g.place day with
    | none =>
     have := graveIx_none hx g (List.mem_of_getElem? hi) rfl
     rw [hf] at this
     cases this
    | some j =>
     obtain ⟨gj, h3, h4, h5⟩ := graveIx_some hx
     have := hG.force j i gj g h3 hi h4 day hl h5 hf
     simp [this]
 unfold heldP heldQ
 rw [h1, h2, Bool.and_comm]
def heirOf (n : ByteArray) (h : Parts) (g : Grave) (f : Bool) : Parts × Bool := gainF (shareP g.holders n) h (setP g.holders n 0, f)
def diesQ (n : ByteArray) (day : Int) (h : Parts) : List Grave → Bool → List Grave × Bool
 | [], f => ([], f)
 | g :: l, f => if heldQ n day g then (⟨g.place, g.cls, g.fin, (heirOf n h g f).1, g.died ++ [n]⟩ :: (diesQ n day h l (heirOf n h g f).2).1, (diesQ n day h l (heirOf n h g f).2).2) else (g :: (diesQ n day h l f).1, (diesQ n day h l f).2)
theorem dies_mark {n : ByteArray} {day : Int} {h : Parts} : ∀ {l : List Grave} {f : Bool}, f = true → (diesQ n day h l f).2 = true
 | [], _, hf => hf
 | g :: l, f, hf => by
  rw [diesQ]
  split
  · exact dies_mark (gain_mark (by exact hf))
  · exact dies_mark hf
theorem dies_some {s : St} {n : ByteArray} {day : Int} {h : Parts} (hh : ∀ p ∈ h, 0 ≤ p.2) : ∀ {l : List Grave} {i : Nat}, (∀ j g, l[j]? = some g → heldP s n day (i + j) g = heldQ n day g) → (∀ g ∈ l, GoodG g) →
    (∀ gs, diesGo s n day (some h) i l = some gs → diesQ n day h l false = (gs, false)) ∧ (diesGo s n day (some h) i l = none → (diesQ n day h l false).2 = true)
 | [], i, _, _ => by
  rw [diesGo, diesQ]
  exact ⟨fun gs e => by cases e; rfl, fun e => by cases e⟩
 | g :: l, i, hq, hg => by
  have ih := dies_some (s := s) (n := n) (day := day) hh (l := l) (i := i + 1) (fun j g' hj => by
   have := hq (j + 1) g' (by simpa using hj)
   rw [show i + 1 + j = i + (j + 1) by omega]
   exact this) (fun g' h' => hg g' (by simp [h']))
  have h0 := hq 0 g rfl
  rw [Nat.add_zero] at h0
  rw [diesGo, diesQ, h0]
  have hgg := hg g (by simp)
  cases hh2 : heldQ n day g
  · simp only [Bool.false_eq_true, if_false]
    refine ⟨fun gs e => ?_, fun e => ?_⟩
    · cases hd : diesGo s n day (some h) (i + 1) l with
      | none => rw [hd] at e; cases e
      | some r =>
       rw [hd] at e
       simp only [Option.map_some, Option.some.injEq] at e
       rw [ih.1 r hd, ← e]
    · cases hd : diesGo s n day (some h) (i + 1) l with
      | none => exact ih.2 hd
      | some r => rw [hd] at e; cases e
  · simp only [if_true]
    have hz : setP g.holders n 0 = withoutP g.holders n := set_zero hgg.good.asc n
    obtain ⟨g1, g2⟩ := gain_same (share_nonneg hgg.good n) hh (without_good hgg.good (n := n)) (by
     have h1 : largeP (setP g.holders n 0) = false := small_set hgg.small (by decide)
     rw [← hz]
     exact h1)
    have hy : heirOf n h g false = gainF (shareP g.holders n) h (withoutP g.holders n, false) := by unfold heirOf; rw [hz]
    rw [hy]
    cases hgo : gainGo (shareP g.holders n) h (withoutP g.holders n) with
    | none =>
     have h3 := g2 hgo
     refine ⟨fun gs e => by simp at e, fun _ => ?_⟩
     exact dies_mark h3
    | some o =>
     have h3 := g1 o hgo
     rw [h3]
     refine ⟨fun gs e => ?_, fun e => ?_⟩
     · cases hd : diesGo s n day (some h) (i + 1) l with
       | none => rw [hd] at e; cases e
       | some r =>
        rw [hd] at e
        simp only [Option.bind_some, Option.map_some, Option.some.injEq] at e
        rw [ih.1 r hd, ← e]
     · cases hd : diesGo s n day (some h) (i + 1) l with
       | none => exact ih.2 hd
       | some r => rw [hd] at e; cases e
theorem dies_none {s : St} {n : ByteArray} {day : Int} {h : Option Parts} : ∀ {l : List Grave} {i : Nat}, (∀ j g, l[j]? = some g → heldP s n day (i + j) g = heldQ n day g) → (l.any (heldQ n day) = false → diesGo s n day h i l = some l) ∧ (h = none → l.any (heldQ n day) = true → diesGo s n day h i l = none)
 | [], i, _ => by
  have e : diesGo s n day h i [] = some [] := by simp [diesGo]
  rw [e]
  exact ⟨fun _ => rfl, fun _ e => by cases e⟩
 | g :: l, i, hq => by
  have ih := dies_none (s := s) (n := n) (day := day) (h := h) (l := l) (i := i + 1) (fun j g' hj => by
   have := hq (j + 1) g' (by simpa using hj)
   rw [show i + 1 + j = i + (j + 1) by omega]
   exact this)
  have h0 := hq 0 g rfl
  rw [Nat.add_zero] at h0
  unfold diesGo
  rw [h0, List.any_cons]
  cases hh2 : heldQ n day g
  · simp only [Bool.false_eq_true, if_false, Bool.false_or]
    exact ⟨fun e => by rw [ih.1 e]; rfl, fun e1 e2 => by rw [ih.2 e1 e2]; rfl⟩
  · simp only [if_true, Bool.true_or]
    refine ⟨fun e => (by cases e), fun e _ => ?_⟩
    subst e
    rfl
theorem deathP_eq {laws : List Law} {s : St} {d : Deed} {last : Int} (hG : GoodSt s last) (hl : last ≤ d.day) (hw : isShareP 16 (lawOnP laws d.day).num (lawOnP laws d.day).den = true) :
    deathP laws s d = if isDeadP s d.frm then (s, 28) else if s.graves.any (heldQ d.frm d.day) then
     (if (diesQ d.frm d.day (estateF s (lawOnP laws d.day) d.frm).1 s.graves (estateF s (lawOnP laws d.day) d.frm).2).2 then (s, 8) else
      ({ s with graves := (diesQ d.frm d.day (estateF s (lawOnP laws d.day) d.frm).1 s.graves (estateF s (lawOnP laws d.day) d.frm).2).1, dead := s.dead ++ [d.frm] }, 0))
     else ({ s with dead := s.dead ++ [d.frm] }, 0) := by
 have hq : ∀ j g, s.graves[j]? = some g → heldP s d.frm d.day (0 + j) g = heldQ d.frm d.day g := fun j g hj => by rw [Nat.zero_add]; exact held_same hG hl hj
 obtain ⟨e1, e2⟩ := estate_same (s := s) (n := d.frm) (hG.wills d.frm) hw
 have hn := dies_none (s := s) (n := d.frm) (day := d.day) (h := estateP s (lawOnP laws d.day) d.frm) hq
 unfold deathP
 cases hd : isDeadP s d.frm
 · simp only [Bool.false_eq_true, if_false]
   cases ha : s.graves.any (heldQ d.frm d.day)
   · rw [hn.1 ha]
     simp
   · simp only [if_true]
     cases he : estateP s (lawOnP laws d.day) d.frm with
     | none =>
      rw [he] at hn
      rw [hn.2 rfl ha, if_pos (dies_mark (e2 he))]
     | some h =>
      have hgd := estate_good (hG.wills d.frm) hw he
      obtain ⟨f1, f2⟩ := dies_some (s := s) (n := d.frm) (day := d.day) (h := h) (fun p hp => by have := hgd.1.pos p hp; grind) hq hG.graves
      rw [e1 h he]
      cases hx : diesGo s d.frm d.day (some h) 0 s.graves with
      | none =>
       simp only
       rw [if_pos (f2 hx)]
      | some gs =>
       simp only
       rw [f1 gs hx]
       simp
 · simp
def heldFrom (n : ByteArray) (day : Int) : Nat → List Grave → List Nat
 | _, [] => []
 | k, g :: l => if heldQ n day g then k :: heldFrom n day (k + 1) l else heldFrom n day (k + 1) l
theorem held_append (n : ByteArray) (day : Int) : ∀ (k : Nat) (a b : List Grave), heldFrom n day k (a ++ b) = heldFrom n day k a ++ heldFrom n day (k + a.length) b
 | k, [], b => by simp [heldFrom]
 | k, g :: a, b => by
  rw [List.cons_append, heldFrom, heldFrom, held_append n day (k + 1) a b, List.length_cons]
  rw [show k + 1 + a.length = k + (a.length + 1) by omega]
  split <;> simp
theorem held_snoc (n : ByteArray) (day : Int) (gs : List Grave) {k : Nat} (h : k < gs.length) : heldFrom n day 0 (gs.take (k + 1)) = heldFrom n day 0 (gs.take k) ++ if heldQ n day gs[k] then [k] else [] := by
 rw [List.take_succ_eq_append_getElem h, held_append, Nat.zero_add, List.length_take, Nat.min_eq_left (by omega), heldFrom, heldFrom]
theorem held_len (n : ByteArray) (day : Int) : ∀ (k : Nat) (l : List Grave), (heldFrom n day k l).length = (l.filter (heldQ n day)).length
 | _, [] => rfl
 | k, g :: l => by
  rw [heldFrom, List.filter_cons]
  split <;> simp [held_len n day (k + 1) l]
theorem held_get (n : ByteArray) (day : Int) : ∀ (l : List Grave) (k j i : Nat), (heldFrom n day k l)[j]? = some i → k ≤ i ∧ ∃ g, l[i - k]? = some g ∧ (l.filter (heldQ n day))[j]? = some g
 | [], k, j, i, h => by simp [heldFrom] at h
 | g :: l, k, j, i, h => by
  rw [heldFrom] at h
  rw [List.filter_cons]
  cases hq : heldQ n day g
  · rw [hq] at h
    simp only [Bool.false_eq_true, if_false] at h ⊢
    obtain ⟨h1, g', h2, h3⟩ := held_get n day l (k + 1) j i h
    refine ⟨by omega, g', ?_, h3⟩
    rw [show i - k = (i - (k + 1)) + 1 by omega, List.getElem?_cons_succ]
    exact h2
  · rw [hq] at h
    simp only [if_true] at h ⊢
    cases j with
    | zero =>
     simp only [List.getElem?_cons_zero, Option.some.injEq] at h
     subst h
     exact ⟨Nat.le_refl _, g, by simp, by simp⟩
    | succ j =>
     simp only [List.getElem?_cons_succ] at h ⊢
     obtain ⟨h1, g', h2, h3⟩ := held_get n day l (k + 1) j i h
     refine ⟨by omega, g', ?_, h3⟩
     rw [show i - k = (i - (k + 1)) + 1 by omega, List.getElem?_cons_succ]
     exact h2
def nextF (n : ByteArray) (h : Parts) : List Grave → Bool → List Grave × Bool
 | [], f => ([], f)
 | g :: l, f => (⟨g.place, g.cls, g.fin, (heirOf n h g f).1, g.died ++ [n]⟩ :: (nextF n h l (heirOf n h g f).2).1, (nextF n h l (heirOf n h g f).2).2)
theorem next_append (n : ByteArray) (h : Parts) : ∀ (a b : List Grave) (f : Bool), nextF n h (a ++ b) f = ((nextF n h a f).1 ++ (nextF n h b (nextF n h a f).2).1, (nextF n h b (nextF n h a f).2).2)
 | [], b, f => by simp [nextF]
 | g :: a, b, f => by
  rw [List.cons_append, nextF, next_append n h a b, nextF]
  simp
theorem next_snoc (n : ByteArray) (h : Parts) (l : List Grave) (f : Bool) {k : Nat} (hk : k < l.length) : nextF n h (l.take (k + 1)) f = ((nextF n h (l.take k) f).1 ++ [⟨l[k].place, l[k].cls, l[k].fin, (heirOf n h l[k] (nextF n h (l.take k) f).2).1, l[k].died ++ [n]⟩], (heirOf n h l[k] (nextF n h (l.take k) f).2).2) := by
 rw [List.take_succ_eq_append_getElem hk, next_append, nextF, nextF]
theorem next_len (n : ByteArray) (h : Parts) : ∀ (l : List Grave) (f : Bool), (nextF n h l f).1.length = l.length
 | [], _ => rfl
 | g :: l, f => by rw [nextF]; simp [next_len n h l]
def setAll : List Grave → List Nat → List Grave → List Grave
 | gs, i :: H, x :: X => setAll (gs.set i x) H X
 | gs, _, _ => gs
theorem setAll_snoc : ∀ (H : List Nat) (X : List Grave) (gs : List Grave) (i : Nat) (x : Grave), H.length = X.length → setAll gs (H ++ [i]) (X ++ [x]) = (setAll gs H X).set i x
 | [], [], gs, i, x, _ => rfl
 | [], _ :: _, _, _, _, h => by cases h
 | _ :: _, [], _, _, _, h => by cases h
 | j :: H, y :: X, gs, i, x, h => by
  rw [List.cons_append, List.cons_append, setAll, setAll]
  exact setAll_snoc H X _ i x (by simpa using h)
theorem setAll_len : ∀ (H : List Nat) (X gs : List Grave), (setAll gs H X).length = gs.length
 | [], _, _ => by simp [setAll]
 | _ :: _, [], _ => by simp [setAll]
 | j :: H, y :: X, gs => by rw [setAll, setAll_len H X]; simp
theorem setAll_dies (n : ByteArray) (day : Int) (h : Parts) : ∀ (l A : List Grave) (f : Bool), setAll (A ++ l) (heldFrom n day A.length l) (nextF n h (l.filter (heldQ n day)) f).1 = A ++ (diesQ n day h l f).1 ∧ (nextF n h (l.filter (heldQ n day)) f).2 = (diesQ n day h l f).2
 | [], A, f => by simp [heldFrom, nextF, diesQ, setAll]
 | g :: l, A, f => by
  rw [heldFrom, List.filter_cons, diesQ]
  cases hq : heldQ n day g
  · simp only [Bool.false_eq_true, if_false]
    have := setAll_dies n day h l (A ++ [g]) f
    rw [List.length_append, List.length_singleton, List.append_assoc, List.singleton_append] at this
    exact ⟨by rw [this.1]; simp, this.2⟩
  · simp only [if_true]
    rw [nextF, setAll]
    have := setAll_dies n day h l (A ++ [⟨g.place, g.cls, g.fin, (heirOf n h g f).1, g.died ++ [n]⟩]) (heirOf n h g f).2
    rw [List.length_append, List.length_singleton, List.append_assoc, List.singleton_append] at this
    have e : (A ++ g :: l).set A.length ⟨g.place, g.cls, g.fin, (heirOf n h g f).1, g.died ++ [n]⟩ = A ++ ⟨g.place, g.cls, g.fin, (heirOf n h g f).1, g.died ++ [n]⟩ :: l := by
     rw [List.set_append_right _ _ (Nat.le_refl _), Nat.sub_self, List.set_cons_zero]
    exact ⟨by rw [e, this.1]; simp, this.2⟩
end Go.Proofs.YtkhkhnellekofaaGreatDoor
