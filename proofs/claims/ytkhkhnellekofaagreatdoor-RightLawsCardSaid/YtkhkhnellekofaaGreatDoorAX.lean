/- Walk: what every law of chapter 5 begins with. -/
import Derived.Test.YtkhkhnellekofaaGreatDoorEF
import Derived.Test.YtkhkhnellekofaaGreatDoorRP
import Derived.Test.YtkhkhnellekofaaGreatDoorOD
set_option linter.unusedSimpArgs false
set_option linter.unusedVariables false
namespace Go.Proofs.YtkhkhnellekofaaGreatDoor
open Go.RowKit Go.Shelf
attribute [local go_sem] World.cell?_alloc_mark ext_size ext_cell ext_frozen lt_add_r lt_add_r2 lt_add_r3 lt_add_r4 lt_add_r5 lt_add_r6 lt_add_r7 lt_add_r8
attribute [local go_sem] ext_setCell alloc_setCell_lt

noncomputable def mayBuryP (laws : List Law) (ds : List Deed) (place name : ByteArray) (day : Int) : Bool × Int :=
 if onErr laws ds [place, name] day != 0 then (false, onErr laws ds [place, name] day) else match graveIx (replayD laws ds day).1 place day with
  | none => (false, 12)
  | some i => (((replayD laws ds day).1.graves.getD i zeroG).cls == 4 || entP (replayD laws ds day).1 ((replayD laws ds day).1.graves.getD i zeroG) name, 0)
theorem blk_cell {W : World} {a o : Nat} {v : Value} (h : W.cell? ⟨a, o, none⟩ = some v) : a < W.heap.size := by
 unfold World.cell? at h
 cases hh : W.heap[a]? with
 | none => simp [hh] at h
 | some x => exact blk_lt hh
set_option maxRecDepth 100000 in
set_option maxHeartbeats 2000000 in
theorem mayBury_any (laws : List Law) (ds : List Deed) (place name : ByteArray) (day : Int) (LA : Option Addr) (n nc : Nat) (DA : Option Addr) (m mc : Nat) (w : World) (hR : RightsIn w laws ds LA n nc DA m mc) (hF : FormsIn w) (hL : LensIn w) (hO : ∀ d ∈ ds, okLens d) (hp : place.size ≤ 100000) (hn : name.size ≤ 100000) :
    Calls Tryz.prog 46 #[.agg #[.slice LA n nc, .slice DA m mc], .string place, .string name, .int .i64 day] w (Ret w (.tuple #[.bool (mayBuryP laws ds place name day).1, .int .i64 (mayBuryP laws ds place name day).2])) := by
 have hin := fun W (hB : Below w.heap.size w W) NA (hS : Sl W 1 sC NA [name]) => inForceR_any laws ds place [name] day LA n nc DA m mc NA 1 1 W (hR.keep hB) (hF.keep hB) (hL.keep hB) hO hp rfl (by simp) (by simpa using hn) hS
 have HIN := Lib.hid hin
 clear hin hR hF hL hO hp hn
 unfold InForcePost at HIN
 obtain ⟨R, hR⟩ : ∃ R, R = mayBuryP laws ds place name day := ⟨_, rfl⟩
 rw [← hR]
 unfold mayBuryP at hR
 generalize onErr laws ds [place, name] day = E at *
 generalize (replayD laws ds day).1 = s at *
 have HR := Lib.hid hR
 clear hR
 by_cases h0 : E = 0
 · have HE := Lib.hid h0
   cases hix : graveIx s place day with
   | none =>
    have HX : Hid (R = (false, 12)) := by show _ = _; rw [HR.out, hix, if_neg (by simp [h0])]
    have HIX := Lib.hid hix
    clear HR hix h0
    go_enter Tryz.func46, Tryz.ntmps46
    go_wp2_with (go_at_call 77
                 go_must (refine (HIN.out _ Bw _ (sl_one (J_new _ _ _ (by simp)))).mono ?_)
                 rintro e wq ⟨h1, ⟨hne, _⟩ | ⟨_, _, rfl⟩ | ⟨_, base, b, la, co, B, T, i, g, hi, _⟩⟩
                 · exact absurd HE.out hne
                 rotate_left 1
                 · rw [HIX.out] at hi; cases hi
                 go_must (have hm := (show Below w.heap.size _ wq from h1.mono (by simp only [World.size_alloc]; omega)))
                 go_must (have hb9 : Below w.heap.size w wq := Below.trans Bw hm)
                 have HB9 := Lib.hid hb9
                 clear h1 hm hb9)
    go_ret2
    rw [HX.out]
    have hb9 := HB9.out
    have hbs := hb9.size
    exact Ret.of rfl Bw
   | some i =>
    have HIX := Lib.hid hix
    have hX : R = ((s.graves.getD i zeroG).cls == 4 || entP s (s.graves.getD i zeroG) name, 0) := by rw [HR.out, hix, if_neg (by simp [h0])]
    obtain ⟨g, hgi, -, -⟩ := graveIx_some hix
    rw [grave_at hgi] at hX
    have HX := Lib.hid hX
    have HGI := Lib.hid hgi
    clear HR hix h0 hX hgi
    go_enter Tryz.func46, Tryz.ntmps46
    go_upto_region 2 with
                (go_at_call 77
                 go_must (refine (HIN.out _ Bw _ (sl_one (J_new _ _ _ (by simp)))).mono ?_)
                 rintro e wq ⟨h1, ⟨hne, _⟩ | ⟨_, hi, _⟩ | ⟨_, base, b, la, co, B, T, i', g', hi, hg', rfl, h2, h3, h4, h5, h6⟩⟩
                 go_must (· exact absurd HE.out hne)
                 go_must (· rw [HIX.out] at hi; cases hi)
                 go_must (have hm := (show Below w.heap.size _ wq from h1.mono (by simp only [World.size_alloc]; omega)))
                 go_must (have hb9 : Below w.heap.size w wq := Below.trans Bw hm)
                 go_must (have hN9 := (h1.cell (p := ⟨w.heap.size + 1, 0, none⟩) (by simp <;> omega)).trans (show _ = some (Value.string name) from by simp [go_sem]))
                 go_must (have hgg : g' = g := (by rw [HIX.out] at hi; cases hi; rw [HGI.out] at hg'; exact (Option.some.inj hg').symm))
                 go_must (subst hgg)
                 have HN9 := Lib.hid hN9
                 have HB9 := Lib.hid hb9
                 have hs9 := hb9.size
                 have H3 := Lib.hid h3
                 have H4 := Lib.hid h4
                 have H6 := Lib.hid h6
                 clear h1 hm hb9 hN9 h2 h3 h4 h5 h6 hi hg')
    have hTA := H4.out
    obtain ⟨H, hc', D, dc, frm, t1, t2, t3, t4, t5, t6, t7⟩ := H4.out
    have hTl := blk_lt t1
    unfold TombC at t1
    have k1 : wq.cell? ⟨T, 1, none⟩ = some (.int .i64 g'.cls) := by simp only [World.cell?, t1]; rfl
    obtain ⟨k, hk6, hfew⟩ := H6.out
    have hhl := hfew.held g' (List.mem_of_getElem? HGI.out)
    have hml := hfew.marr
    have hkl := hfew.kids
    have hbq := H3.out.lt
    have hnl : w.heap.size + 1 < wq.heap.size := blk_cell HN9.out
    have hen : ∀ W, Below wq.heap.size wq W → W.cell? ⟨wq.heap.size, 0, none⟩ = some (.pointer (some ⟨b, 0, none⟩)) → W.cell? ⟨wq.heap.size + 1, 0, none⟩ = some (.pointer (some ⟨T, 0, none⟩)) → Calls Tryz.prog 78 #[.pointer (some ⟨T, 0, none⟩), closV (w.heap.size + 1) (wq.heap.size + 1) wq.heap.size] W (Ret W (.bool (entP s g' name))) := fun W hB e1 e2 =>
     entitled_any base b T (w.heap.size + 1) (wq.heap.size + 1) wq.heap.size B s g' name W ⟨H3.out.peo.keep hB, Nat.lt_of_lt_of_le hTl hB.size, (B_cell hB hTl).trans k1, Nat.lt_of_lt_of_le hnl hB.size, (B_cell hB hnl).trans HN9.out, blk_cell e2, e2, blk_cell e1, e1⟩ (hTA.keep hB) (by omega) (by omega) (by omega) (by omega)
    have HEN := Lib.hid hen
    unfold closV at HEN
    have HT9 := Lib.hid hTl
    have hTn : T ≠ wq.heap.size := by omega
    have hTn1 : T ≠ wq.heap.size + 1 := by omega
    generalize entP s g' name = ep at *
    clear hen hTA t1 t2 t3 t4 t5 t6 t7 hhl hml hkl hfew hbq
    by_cases h4 : g'.cls = 4
    · have HX2 : Hid (R = (true, 0)) := by show _ = _; rw [HX.out, h4]; rfl
      rw [h4] at k1
      go_wp2_with fail
      go_ret2
      rw [HX2.out]
      have hb9 := HB9.out
      exact Ret.of rfl Bw
    · have HX2 : Hid (R = (ep, 0)) := by
        show _ = _
        rw [HX.out, show (g'.cls == 4) = false by simpa using h4]
        rfl
      go_wp2_with (go_at_call 78; go_must (refine (HEN.out _ Bw (by simp [go_sem]) (by simp [go_sem])).mono ?_); rintro e wz ⟨rfl, z, rfl⟩)
      go_ret2
      rw [HX2.out]
      have hb9 := HB9.out
      exact Ret.of rfl Bw
 · have HX : Hid (R = (false, E)) := by show _ = _; rw [HR.out, if_pos (by simpa using h0)]
   have HE := Lib.hid h0
   clear HR h0
   go_enter Tryz.func46, Tryz.ntmps46
   go_wp2_with (go_at_call 77
                go_must (refine (HIN.out _ Bw _ (sl_one (J_new _ _ _ (by simp)))).mono ?_)
                rintro e wq ⟨h1, ⟨_, rfl⟩ | ⟨he, _⟩ | ⟨he, _⟩⟩
                rotate_left 1
                · exact absurd he HE.out
                · exact absurd he HE.out
                go_must (have hm := (show Below w.heap.size _ wq from h1.mono (by simp only [World.size_alloc]; omega)))
                go_must (have hb9 : Below w.heap.size w wq := Below.trans Bw hm)
                have HB9 := Lib.hid hb9
                clear h1 hm hb9)
   go_ret2
   rw [HX.out]
   have hb9 := HB9.out
   have hbs := hb9.size
   exact Ret.of rfl Bw
end Go.Proofs.YtkhkhnellekofaaGreatDoor
namespace Go.Proofs.YtkhkhnellekofaaGreatDoor
open Go.RowKit Go.Shelf
attribute [local go_sem] World.cell?_alloc_mark ext_size ext_cell ext_frozen lt_add_r lt_add_r2 lt_add_r3 lt_add_r4 lt_add_r5 lt_add_r6 lt_add_r7 lt_add_r8
attribute [local go_sem] ext_setCell alloc_setCell_lt

theorem results_part {fn : Func} {p : Tmp} (h : fn.results = #[.cell p 63]) (tmps : Array Value) (w : World) (B : Nat) (x0 x1 x2 : Value) (hp : tmps.getD p undef = .pointer (some ⟨B, 0, none⟩))
    (hx : w.heap[B]? = some (.cells #[x0, x1, x2] 63)) : (results fn tmps).run Tryz.prog w = .ok (.agg #[x0, x1, x2]) w := by
 have h0 : w.cell? ⟨B, 0, none⟩ = some x0 := by simp only [World.cell?, hx]; rfl
 have h1 : w.cell? ⟨B, 1, none⟩ = some x1 := by simp only [World.cell?, hx]; rfl
 have h2 : w.cell? ⟨B, 2, none⟩ = some x2 := by simp only [World.cell?, hx]; rfl
 clear hx
 rw [results_c1 h, hp]
 go_simp
theorem results_rights {fn : Func} {p : Tmp} (h : fn.results = #[.cell p 58]) (tmps : Array Value) (w : World) (B : Nat) (x0 x1 : Value) (hp : tmps.getD p undef = .pointer (some ⟨B, 0, none⟩))
    (hx : w.heap[B]? = some (.cells #[x0, x1] 58)) : (results fn tmps).run Tryz.prog w = .ok (.agg #[x0, x1]) w := by
 have h0 : w.cell? ⟨B, 0, none⟩ = some x0 := by simp only [World.cell?, hx]; rfl
 have h1 : w.cell? ⟨B, 1, none⟩ = some x1 := by simp only [World.cell?, hx]; rfl
 clear hx
 rw [results_c1 h, hp]
 go_simp
set_option maxRecDepth 100000 in
set_option maxHeartbeats 2000000 in
theorem part5_any (n : ByteArray) (a b : Int) (w : World) : Calls Tryz.prog 48 #[.string n, .int .i64 a, .int .i64 b] w (Ret w (.agg #[.string n, .int .i64 a, .int .i64 b])) := by
 go_enter Tryz.func48, Tryz.ntmps48
 go_wp2_with fail
 refine bodyPost_ret (v := .agg #[.string n, .int .i64 a, .int .i64 b]) ?_ rfl ?_
 · exact results_part rfl _ _ w.heap.size _ _ _ rfl (J_new _ _ _ rfl)
 · exact Ret.of rfl Bw
def FamPost (w : World) (e : Ending) (w' : World) : Prop :=
 ∃ LA DA, e = .returned (.agg #[.slice LA 2 2, .slice DA 5 5]) ∧ RightsIn w' famLaws famDeeds LA 2 2 DA 5 5 ∧ Below w.heap.size w w'
theorem sl_cells {α : Type} {w : World} {b size : Nat} {f : α → List Value} {t : TypeId} {fr : Nat × Nat} {cs : Array Value} {xs : List α} (hlen : ∀ x, (f x).length = size) (h : w.heap[b]? = some (.cells cs t fr)) (hc : xs.flatMap f = cs.toList) : Sl w size f (some ⟨b, 0, none⟩) xs := fun _ =>
 ⟨b, 0, rfl, blk_lt h, fun k x hk j u hu => by
  have := flat_at f size hlen xs k x hk j u hu
  rw [hc] at this
  simp only [World.cell?, h, Nat.zero_add]
  simpa using this⟩
def deedC (k d : Int) (p f : ByteArray) (s : Value) (c y : Int) : List Value := [.int .i64 k, .int .i64 d, .string p, .string f, s, .int .i64 c, .int .i64 y]
def famCells (p0 p1 p2 p3 : Nat) : List Value :=
 deedC 6 0 n0 nAnn (.slice (some ⟨p0, 0, none⟩) 1 1) 0 0 ++ (deedC 6 0 n0 nAnn (.slice (some ⟨p1, 0, none⟩) 1 1) 0 0 ++ (deedC 7 0 n0 nAnn (.slice (some ⟨p2, 0, none⟩) 1 1) 0 0 ++ (deedC 0 100 nA1 n0 (.slice (some ⟨p3, 0, none⟩) 1 1) 1 0 ++ deedC 8 200 n0 nAnn (.slice none 0 0) 0 0)))
theorem fam_slw {W : World} {D p0 p1 p2 p3 : Nat} {f0 f1 f2 f3 fd : Nat × Nat}
    (h0 : W.heap[p0]? = some (.cells #[.string nBob, .int .i64 0, .int .i64 0] 63 f0)) (h1 : W.heap[p1]? = some (.cells #[.string nCat, .int .i64 0, .int .i64 0] 63 f1))
    (h2 : W.heap[p2]? = some (.cells #[.string nDan, .int .i64 0, .int .i64 0] 63 f2)) (h3 : W.heap[p3]? = some (.cells #[.string nAnn, .int .i64 1, .int .i64 1] 63 f3))
    (hd : W.heap[D]? = some (.cells (famCells p0 p1 p2 p3).toArray 90 fd)) : SlW W 7 deedR (some ⟨D, 0, none⟩) famDeeds := fun _ => by
 refine ⟨D, 0, rfl, blk_lt hd, fun k x hk => ?_⟩
 have hcell : ∀ j, W.cell? ⟨D, j, none⟩ = (famCells p0 p1 p2 p3)[j]? := fun j => by simp only [World.cell?, hd]; simp
 match k, hk with
 | 0, hk =>
  obtain rfl : famD 0 = x := by simpa [famDeeds] using hk
  exact ⟨_, ⟨_, 1, Nat.le_refl _, rfl, sl_cells (fun _ => rfl) h0 rfl⟩, fun j u hu => by
   rw [hcell]
   match j, hu with
   | 0, hu | 1, hu | 2, hu | 3, hu | 4, hu | 5, hu | 6, hu => exact hu⟩
 | 1, hk =>
  obtain rfl : famD 1 = x := by simpa [famDeeds] using hk
  exact ⟨_, ⟨_, 1, Nat.le_refl _, rfl, sl_cells (fun _ => rfl) h1 rfl⟩, fun j u hu => by
   rw [hcell]
   match j, hu with
   | 0, hu | 1, hu | 2, hu | 3, hu | 4, hu | 5, hu | 6, hu => exact hu⟩
 | 2, hk =>
  obtain rfl : famD 2 = x := by simpa [famDeeds] using hk
  exact ⟨_, ⟨_, 1, Nat.le_refl _, rfl, sl_cells (fun _ => rfl) h2 rfl⟩, fun j u hu => by
   rw [hcell]
   match j, hu with
   | 0, hu | 1, hu | 2, hu | 3, hu | 4, hu | 5, hu | 6, hu => exact hu⟩
 | 3, hk =>
  obtain rfl : famD 3 = x := by simpa [famDeeds] using hk
  exact ⟨_, ⟨_, 1, Nat.le_refl _, rfl, sl_cells (fun _ => rfl) h3 rfl⟩, fun j u hu => by
   rw [hcell]
   match j, hu with
   | 0, hu | 1, hu | 2, hu | 3, hu | 4, hu | 5, hu | 6, hu => exact hu⟩
 | 4, hk =>
  obtain rfl : famD 4 = x := by simpa [famDeeds] using hk
  exact ⟨_, ⟨none, 0, Nat.le_refl _, rfl, Sl.nil⟩, fun j u hu => by
   rw [hcell]
   match j, hu with
   | 0, hu | 1, hu | 2, hu | 3, hu | 4, hu | 5, hu | 6, hu => exact hu⟩
 | k + 5, hk => simp [famDeeds] at hk
set_option maxRecDepth 100000 in
set_option maxHeartbeats 2000000 in
theorem family_any (w : World) : Calls Tryz.prog 31 #[] w (FamPost w) := by
 go_enter Tryz.func31, Tryz.ntmps31
 go_wp2_with (go_at_call 48; go_must (refine (part5_any _ _ _ _).mono ?_); rintro e wq ⟨rfl, z, rfl⟩)
 refine bodyPost_ret (v := .agg #[.slice (some ⟨w.heap.size + 1, 0, none⟩) 2 2, .slice (some ⟨w.heap.size + 1 + 1 + 1 + 1 + 1 + z.os.size + 1, 0, none⟩) 5 5]) ?_ rfl ?_
 · refine results_rights rfl _ _ w.heap.size _ _ rfl ?_
   (repeat (first | with_reducible exact J_new _ _ _ (by simp) | with_reducible exact J_new _ _ _ (by simp [ext_size]) | with_reducible refine J_ext ?_ | with_reducible refine J_alloc ?_))
 · refine ⟨_, _, rfl, ⟨rfl, rfl, by decide, by decide, ?h1, ?h2⟩, Bw⟩
   case h1 =>
    refine sl_cells (t := 41) (fr := (0, 0)) (cs := #[.int .i64 0, .bool false, .int .i64 1, .int .i64 4, .int .i64 50000, .bool true, .int .i64 1, .int .i64 2]) (fun _ => rfl) ?_ rfl
    (repeat (first | with_reducible exact J_new _ _ _ (by simp) | with_reducible exact J_new _ _ _ (by simp [ext_size]) | with_reducible refine J_ext ?_ | with_reducible refine J_alloc ?_))
   case h2 =>
    refine fam_slw (p0 := w.heap.size + 1 + 1) (p1 := w.heap.size + 1 + 1 + 1) (p2 := w.heap.size + 1 + 1 + 1 + 1) (p3 := w.heap.size + 1 + 1 + 1 + 1 + 1 + z.os.size) (f0 := (0, 0)) (f1 := (0, 0)) (f2 := (0, 0)) (f3 := (0, 0)) (fd := (0, 0)) ?_ ?_ ?_ ?_ ?_
    · (repeat (first | exact J_new _ _ _ (by simp [ext_size]; done) | with_reducible refine J_ext ?_ | with_reducible refine J_alloc ?_))
    · (repeat (first | exact J_new _ _ _ (by simp [ext_size]; done) | with_reducible refine J_ext ?_ | with_reducible refine J_alloc ?_))
    · (repeat (first | exact J_new _ _ _ (by simp [ext_size]; done) | with_reducible refine J_ext ?_ | with_reducible refine J_alloc ?_))
    · (repeat (first | exact J_new _ _ _ (by simp [ext_size]; done) | with_reducible refine J_ext ?_ | with_reducible refine J_alloc ?_))
    · (repeat (first | exact J_new _ _ _ (by simp [ext_size]; done) | with_reducible refine J_ext ?_ | with_reducible refine J_alloc ?_))
theorem sl_same {α β : Type} {w : World} {size : Nat} {f : α → List Value} {g : β → List Value} {A : Option Addr} {xs : List α} {ys : List β} (h : Sl w size f A xs) (he : xs.map f = ys.map g) : Sl w size g A ys := fun hl => by
 have hlen : xs.length = ys.length := by simpa using congrArg List.length he
 obtain ⟨b, off, hA, hb, hc⟩ := h (by omega)
 refine ⟨b, off, hA, hb, fun k y hy j u hu => ?_⟩
 have hk := (List.getElem?_eq_some_iff.1 hy).1
 have h1 := congrArg (fun l => l[k]?) he
 simp only [List.getElem?_map, hy, List.getElem?_eq_getElem (show k < xs.length by omega), Option.map_some, Option.some.injEq] at h1
 exact hc k _ (List.getElem?_eq_getElem (by omega)) j u (by rw [h1]; exact hu)
set_option maxRecDepth 100000 in
set_option maxHeartbeats 2000000 in
theorem sameParts_any (xs : List RPart) (P Q : Option Addr) (pc qc : Nat) (w : World) (hp : Sl w 3 RPart.cells P xs) (hq : Sl w 3 RPart.cells Q xs) (hl : xs.length ≤ 100000) (hpc : xs.length ≤ pc) (hqc : xs.length ≤ qc) :
    Calls Tryz.prog 47 #[.slice P xs.length pc, .slice Q xs.length qc] w (Ret w (.bool true)) := by
 go_enter Tryz.func47, Tryz.ntmps47
 go_wp2_with fail
 go_loopw [5] (fun i wr => ∃ j : Nat, j ≤ xs.length ∧ i = .int .i64 j ∧ ∃ z, wr = w.ext z) (fun i _ => xs.length - (intOf i).toNat)
 case atStart => exact ⟨0, Nat.zero_le _, rfl, ext_below (Below.refl _ _)⟩
 case round =>
  obtain ⟨j, hj, rfl, z, rfl⟩ := hrel
  by_cases hlt : j < xs.length
  · obtain ⟨b, off, rfl, hb, hc⟩ := hp.at hlt
    obtain ⟨b', off', rfl, hb', hc'⟩ := hq.at hlt
    have hlt2 : (j : Int) < (xs.length : Int) := by omega
    have hj0 : (0 : Int) ≤ (j : Int) := by omega
    generalize xs[j] = x at *
    have x0 : w.cell? ⟨b, off + j * 3, none⟩ = some (.string x.name) := hc 0 _ rfl
    have y0 : w.cell? ⟨b', off' + j * 3, none⟩ = some (.string x.name) := hc' 0 _ rfl
    have x1 : w.cell? ⟨b, off + j * 3 + 1, none⟩ = some (.int .i64 x.num) := hc 1 _ rfl
    have y1 : w.cell? ⟨b', off' + j * 3 + 1, none⟩ = some (.int .i64 x.num) := hc' 1 _ rfl
    have x2 : w.cell? ⟨b, off + j * 3 + 2, none⟩ = some (.int .i64 x.den) := hc 2 _ rfl
    have y2 : w.cell? ⟨b', off' + j * 3 + 2, none⟩ = some (.int .i64 x.den) := hc' 2 _ rfl
    clear hc hc'
    go_wp2_with fail
    (refine wp_region_ext_lit (by kernel_rfl) (by kernel_rfl) ?_
     repeat (first | go_big_quiet_skip | (go_big_quiet_want; go_big_quiet_op; first | go_big_quiet_on | (apply Exists.intro; refine ⟨fun _ => ?_, ?_⟩; (fail); go_big_quiet_on)))
     refine wpQuiet_nil ?_
     rintro _ ⟨zq, rfl⟩)
    go_wp2_with fail
    go_roundw
    case rel => exact ⟨j + 1, by omega, by go_num, ext_below Bw⟩
    case measure => simp [intOf]; omega
  · have hnl : ¬ ((j : Int) < (xs.length : Int)) := by omega
    go_wp2_with fail
    go_ret
    exact Ret.of rfl Bw
set_option maxRecDepth 100000 in
set_option maxHeartbeats 2000000 in
theorem sameInts_any (xs : List Nat) (P Q : Option Addr) (pc qc : Nat) (w : World) (hp : Sl w 1 intC P xs) (hq : Sl w 1 intC Q xs) (hl : xs.length ≤ 100000) (hpc : xs.length ≤ pc) (hqc : xs.length ≤ qc) :
    Calls Tryz.prog 27 #[.slice P xs.length pc, .slice Q xs.length qc] w (Ret w (.bool true)) := by
 go_enter Tryz.func27, Tryz.ntmps27
 go_wp2_with fail
 go_loopw [5] (fun i wr => ∃ j : Nat, j ≤ xs.length ∧ i = .int .i64 j ∧ ∃ z, wr = w.ext z) (fun i _ => xs.length - (intOf i).toNat)
 case atStart => exact ⟨0, Nat.zero_le _, rfl, ext_below (Below.refl _ _)⟩
 case round =>
  obtain ⟨j, hj, rfl, z, rfl⟩ := hrel
  by_cases hlt : j < xs.length
  · obtain ⟨b, off, rfl, hb, hc⟩ := hp.at hlt
    obtain ⟨b', off', rfl, hb', hc'⟩ := hq.at hlt
    have hlt2 : (j : Int) < (xs.length : Int) := by omega
    have hj0 : (0 : Int) ≤ (j : Int) := by omega
    generalize xs[j] = x at *
    have x0 : w.cell? ⟨b, off + j, none⟩ = some (.int .i64 (x : Int)) := by have := hc 0 _ rfl; simpa using this
    have y0 : w.cell? ⟨b', off' + j, none⟩ = some (.int .i64 (x : Int)) := by have := hc' 0 _ rfl; simpa using this
    clear hc hc'
    go_wp2_with fail
    (refine wp_region_ext_lit (by kernel_rfl) (by kernel_rfl) ?_
     repeat (first | go_big_quiet_skip | (go_big_quiet_want; go_big_quiet_op; first | go_big_quiet_on | (apply Exists.intro; refine ⟨fun _ => ?_, ?_⟩; (fail); go_big_quiet_on)))
     refine wpQuiet_nil ?_
     rintro _ ⟨zq, rfl⟩)
    go_wp2_with fail
    go_roundw
    case rel => exact ⟨j + 1, by omega, by go_num, ext_below Bw⟩
    case measure => simp [intOf]; omega
  · have hnl : ¬ ((j : Int) < (xs.length : Int)) := by omega
    go_wp2_with fail
    go_ret
    exact Ret.of rfl Bw
end Go.Proofs.YtkhkhnellekofaaGreatDoor
namespace Go.Proofs.YtkhkhnellekofaaGreatDoor
open Go.RowKit Go.Shelf
attribute [local go_sem] World.cell?_alloc_mark ext_size ext_cell ext_frozen lt_add_r lt_add_r2 lt_add_r3 lt_add_r4 lt_add_r5 lt_add_r6 lt_add_r7 lt_add_r8
attribute [local go_sem] ext_setCell alloc_setCell_lt

def famR : List RPart := [⟨nBob, 3, 8⟩, ⟨nCat, 3, 8⟩, ⟨nDan, 1, 4⟩]
theorem fam_cells : famParts.map partCells = famR.map RPart.cells := by kernel_rfl
theorem fam_holds : holdersP fam5 nA1 200 = famParts := by kernel_rfl
theorem fam_err (names : List ByteArray) (day : Int) (hn : names.any (fun s => !isNameP s) = false) (hd : isDayP day = true) : onErr famLaws famDeeds names day = 0 := by
 unfold onErr
 have h : (stopQ famLaws famDeeds 200000).2 = (5, 0) := by rw [stopQ_replay, fam_replay 200000 (by decide)]
 rw [h, hn, hd]
 rfl
theorem fam_bury : mayBuryP famLaws famDeeds nA1 nAnn 300 = (true, 0) := by
 unfold mayBuryP
 rw [fam_err [nA1, nAnn] 300 (by kernel_rfl) (by kernel_rfl), fam_replay 300 (by decide)]
 have h : graveIx fam5 nA1 300 = some 0 := by kernel_rfl
 simp only [bne_self_eq_false, Bool.false_eq_true, if_false]
 rw [h]
 have hg : fam5.graves.getD 0 zeroG = ⟨nA1, 1, -1, famParts, [nAnn]⟩ := rfl
 simp only [hg]
 have he : entP fam5 ⟨nA1, 1, -1, famParts, [nAnn]⟩ nAnn = true := by
  unfold entP
  have : [nAnn].any (letsP fam5 1 nAnn) = true := by
   rw [List.any_cons]
   unfold letsP
   rw [show sameB nAnn nAnn = true from same_refl _]
   rfl
  rw [this, Bool.or_true]
 rw [he, Bool.or_true]
theorem fam_lens : ∀ d ∈ famDeeds, okLens d := by
 intro d hd
 simp only [famDeeds, List.mem_cons, List.not_mem_nil, or_false] at hd
 rcases hd with rfl | rfl | rfl | rfl | rfl <;> exact ⟨by decide, by decide, by simp [famD]; try decide, by simp [famD]⟩
theorem recs5_lens : recLens recs5 := by
 intro x hx
 simp only [recs5, List.mem_cons, List.not_mem_nil, or_false] at hx
 rcases hx with rfl | rfl | rfl | rfl | rfl <;> exact ⟨by decide, by decide, by decide⟩
theorem best_all (l : List Rec) (n : Nat) (hn : n = l.length) : ∀ k, Best l n k (bestsGo l k)
 | 0 => best_zero l n
 | k + 1 => by
  rw [bestsGo, ← hn]
  exact best_next (best_all l n hn k)
theorem leastR_is {l : List Rec} {s : List Nat} (h0 : checkRecsP l = 0) (h12 : l.length ≤ 12) (hs : IsLeast l s) : leastR l = (s, 0) := by
 unfold leastR
 rw [if_neg (by simp [h0]), if_neg (by simpa using h12)]
 have hB := best_all l l.length rfl (2 ^ l.length)
 cases hx : bestsGo l (2 ^ l.length) with
 | none =>
  rw [hx] at hB
  have hb : ∀ t, SetOf l.length t → contraP (ofP l t) = false := best_least hB
  have := hb s hs.set
  rw [hs.bad] at this
  cases this
 | some t =>
  rw [hx] at hB
  have hb : IsLeast l t := best_least hB
  have e : t = s := least_unique hb hs
  rw [e]
theorem recs5_res : leastR recs5 = ([0, 2], 0) := leastR_is recs5_ok (by decide) recs5_least
structure Laid5 (w : World) : Prop where
 forms : FormsIn w
 lens : LensIn w
 tz : TzTab w
theorem Laid5.keep {w W : World} {n : Nat} (h : Laid5 w) (hB : Below n w W) (hn : w.heap.size ≤ n := by first | exact Nat.le_refl _ | omega) : Laid5 W := ⟨h.forms.keep hB hn, h.lens.keep hB hn, h.tz.keep hB hn⟩
def HoldPost (w : World) (e : Ending) (w' : World) : Prop := ∃ A c, e = .returned (.tuple #[.slice A 3 c, .int .i64 0]) ∧ 3 ≤ c ∧ Sl w' 3 RPart.cells A famR ∧ Below w.heap.size w w'
theorem famHolders_any (LA DA : Option Addr) (w : World) (hR : RightsIn w famLaws famDeeds LA 2 2 DA 5 5) (hL : Laid5 w) : Calls Tryz.prog 30 #[.agg #[.slice LA 2 2, .slice DA 5 5], .string ⟨#[97, 49]⟩, .int .i64 200] w (HoldPost w) := by
 refine (holders_any famLaws famDeeds nA1 200 LA 2 2 DA 5 5 w hR hL.forms hL.lens fam_lens (by decide)).mono ?_
 rintro e w' ⟨hB, h⟩
 rw [fam_err [nA1] 200 (by kernel_rfl) (by kernel_rfl), fam_replay 200 (by decide)] at h
 rcases h with ⟨h, _⟩ | ⟨_, A, c, rfl, hc, hS⟩
 · exact absurd rfl h
 · rw [show ((fam5, 5, (0 : Int)) : St × Nat × Int).1 = fam5 from rfl, fam_holds] at hc hS ⊢
   exact ⟨A, c, rfl, hc, sl_same hS fam_cells, hB⟩
theorem famBury_any (LA DA : Option Addr) (w : World) (hR : RightsIn w famLaws famDeeds LA 2 2 DA 5 5) (hL : Laid5 w) : Calls Tryz.prog 46 #[.agg #[.slice LA 2 2, .slice DA 5 5], .string ⟨#[97, 49]⟩, .string ⟨#[97, 110, 110]⟩, .int .i64 300] w (Ret w (.tuple #[.bool true, .int .i64 0])) := by
 have := mayBury_any famLaws famDeeds nA1 nAnn 300 LA 2 2 DA 5 5 w hR hL.forms hL.lens fam_lens (by decide) (by decide)
 rw [fam_bury] at this
 exact this
def LeastPost5 (w : World) (e : Ending) (w' : World) : Prop := ∃ A c, e = .returned (.tuple #[.slice A 2 c, .int .i64 0]) ∧ 2 ≤ c ∧ Sl w' 1 intC A [0, 2] ∧ Below w.heap.size w w'
theorem famLeast_any (A : Option Addr) (w : World) (hS : Sl w 8 Rec.cells A recs5) (hL : Laid5 w) : Calls Tryz.prog 10 #[.slice A 5 5] w (LeastPost5 w) := by
 refine (least_any recs5 A 5 w (Nat.le_refl _) recs5_lens hL.tz hS).mono ?_
 rintro e w' ⟨B, c, rfl, hc, hS, hB⟩
 rw [recs5_res] at hc hS ⊢
 exact ⟨B, c, rfl, hc, hS, hB⟩
theorem fam_same (A2 : Option Addr) (c2 : Nat) (hc2 : 3 ≤ c2) (P : Nat) (W : World) (h : Sl W 3 RPart.cells A2 famR) (hP : W.heap[P]? = some (.cells #[.string ⟨#[98, 111, 98]⟩, .int .i64 3, .int .i64 8, .string ⟨#[99, 97, 116]⟩, .int .i64 3, .int .i64 8, .string ⟨#[100, 97, 110]⟩, .int .i64 1, .int .i64 4] 63)) :
    Calls Tryz.prog 47 #[.slice A2 3 c2, .slice (some ⟨P, 0, none⟩) 3 3] W (Ret W (.bool true)) :=
 sameParts_any famR A2 (some ⟨P, 0, none⟩) c2 3 _ h (sl_cells (fun _ => rfl) hP rfl) (by decide) hc2 (by decide)
theorem two_same (A5 : Option Addr) (c5 : Nat) (hc5 : 2 ≤ c5) (P : Nat) (W : World) (h : Sl W 1 intC A5 [0, 2]) (hP : W.heap[P]? = some (.cells #[.int .i64 0, .int .i64 2] 3)) :
    Calls Tryz.prog 27 #[.slice A5 2 c5, .slice (some ⟨P, 0, none⟩) 2 2] W (Ret W (.bool true)) :=
 sameInts_any [0, 2] A5 (some ⟨P, 0, none⟩) c5 2 _ h (sl_cells (fun _ => rfl) hP rfl) (by decide) hc5 (by decide)
set_option maxRecDepth 100000 in
set_option maxHeartbeats 2000000 in
theorem awake5_any (w : World) (hL : Laid5 w) : Calls Tryz.prog 15 #[] w (Ret w (.bool true)) := by
 have HL := Lib.hid hL
 clear hL
 go_enter Tryz.func15, Tryz.ntmps15
 go_upto_region 2 with (first
  | (go_at_call 31; go_must (refine (family_any _).mono ?_); rintro e w1 ⟨LA, DA, rfl, hr, hb⟩; have HR := Lib.hid hr; have HB := Lib.hid hb; clear hr hb)
  | (go_at_call 30; go_must (refine (famHolders_any LA DA _ HR.out (HL.out.keep HB.out)).mono ?_); rintro e w2 ⟨A2, c2, rfl, hc2, hs2, hb2⟩; have HS2 := Lib.hid hs2; have HB2 := Lib.hid (HB.out.trans (hb2.mono HB.out.size)); clear hs2 hb2))
 clear HR HB
 go_upto_region 3 with (first
  | (go_at_call 31; go_must (refine (family_any _).mono ?_); rintro e w3 ⟨LA3, DA3, rfl, hr, hb⟩; have HR := Lib.hid hr; have HB3 := Lib.hid hb; have HB := Lib.hid (HB2.out.trans (hb.mono HB2.out.size)); clear hr hb)
  | (go_at_call 46; go_must (refine (famBury_any LA3 DA3 _ HR.out (HL.out.keep HB.out)).mono ?_); rintro e w4 ⟨rfl, z4, rfl⟩))
 have HS3 := Lib.hid ((HS2.out.keep HB3.out).keep (below_ext w3 z4))
 have HB4 := Lib.hid (HB.out.trans ((below_ext w3 z4).mono HB.out.size))
 generalize w3.ext z4 = W4 at *
 clear HR HB HS2 HB2 HB3
 have hw4 : w.heap.size ≤ W4.heap.size := HB4.out.size
 go_upto_region 4 with (go_at_call 10
                        go_must (refine (famLeast_any _ _ (sl_cells (fun _ => rfl) (J_new _ _ _ rfl) rfl) ((HL.out.keep HB4.out).keep (n := W4.heap.size) Bw)).mono ?_)
                        rintro e w5 ⟨A5, c5, rfl, hc5, hs5, hb5⟩)
 have HS6 := Lib.hid (HS3.out.keep ((B_alloc (Below.refl _ _) _ (Nat.le_refl _)).trans (hb5.mono (by simp))))
 have HB6 := Lib.hid (HB4.out.trans (((B_alloc (Below.refl _ _) _ (Nat.le_refl _)).trans (hb5.mono (by simp))).mono hw4))
 have HI5 := Lib.hid hs5
 clear HS3 HB4 hs5 hb5
 have HSP := Lib.hid (fun (W : World) (hW : Below w5.heap.size w5 W) => fun (P : Nat) hP => fam_same A2 c2 hc2 P W (HS6.out.keep hW) hP)
 have HIS := Lib.hid (fun (W : World) (hW : Below w5.heap.size w5 W) => fun (P : Nat) hP => two_same A5 c5 hc5 P W (HI5.out.keep hW) hP)
 clear HS6 HI5
 have hw5 : w.heap.size ≤ w5.heap.size := HB6.out.size
 clear HL
 go_wp2_with (first
  | (go_at_call 48; go_must (refine (part5_any _ _ _ _).mono ?_); rintro e wq ⟨rfl, zq, rfl⟩)
  | (go_at_call 47; go_must (refine (HSP.out _ Bw _ (J_new _ _ _ (by simp [ext_size]))).mono ?_); rintro e wq ⟨rfl, zq, rfl⟩)
  | (go_at_call 27; go_must (refine (HIS.out _ Bw _ (J_new _ _ _ (by simp [ext_size]))).mono ?_); rintro e wq ⟨rfl, zq, rfl⟩))
 go_ret
 exact Ret.of rfl (HB6.out.trans (Below.mono (B := w5.heap.size) Bw HB6.out.size))
end Go.Proofs.YtkhkhnellekofaaGreatDoor
