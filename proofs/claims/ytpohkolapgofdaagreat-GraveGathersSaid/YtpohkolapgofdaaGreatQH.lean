/- Walk: the library's Reverse at lots. -/
/- Walk of the reference: the events that gather all that lies at a site. -/
/- Walk: the events that gather all that lies at a site. -/
/- Plain law of GraveGathers: what the program gathers is what the reference gathers; behind accepted events it is accepted, and leaves nothing lying there. -/
/- Plain law of GraveGathers: the gatherings are accepted behind the events, and leave nothing lying at the site. -/
import Derived.Test.YtpohkolapgofdaaGreatHE
import Derived.Shelf.SlicesQ.Reverse
import Derived.Test.YtpohkolapgofdaaGreatLP
import Derived.Test.YtpohkolapgofdaaGreatX3
import Derived.Test.YtpohkolapgofdaaGreatQE
import Derived.Test.YtpohkolapgofdaaGreatQF
import Derived.Test.YtpohkolapgofdaaGreatH4
namespace Go.Proofs.YtpohkolapgofdaaGreat
open Go.RowKit Go.Shelf Go.Sort
attribute [local go_sem] World.cell?_alloc_mark ext_size ext_cell ext_frozen lt_add_r lt_add_r2 lt_add_r3 lt_add_r4 lt_add_r5 lt_add_r6 lt_add_r7 lt_add_r8

def revLay_ren : Go.Shelf.Ren := ⟨fun | 35 => 51 | n => n, fun | 22 => 33 | 23 => 40 | 3 => 3 | 4 => 4 | 0 => 0 | n => n, fun | n => n⟩
theorem revLay : Go.Proofs.SlLaysE0.n35 Tryz.prog revLay_ren := {
  mixed := by kernel_rfl
  f35 := ⟨Tryz.f51.name, by decide, Tryz.func51.trans (congrArg some (by kernel_rfl))⟩
  t0 := Tryz.underlying0
  a0 := Tryz.isAgg0
  z0 := Tryz.sizeOf0
  v0 := Tryz.zeroValue0
  t3 := Tryz.underlying3
  a3 := Tryz.isAgg3
  z3 := Tryz.sizeOf3
  v3 := Tryz.zeroValue3
  t4 := Tryz.underlying4
  a4 := Tryz.isAgg4
  z4 := Tryz.sizeOf4
  v4 := Tryz.zeroValue4
  t22 := Tryz.underlying33
  a22 := Tryz.isAgg33
  z22 := Tryz.sizeOf33
  v22 := Tryz.zeroValue33 }
set_option maxRecDepth 100000 in
set_option maxHeartbeats 2000000 in
theorem revNone_any (w : World) : Calls Tryz.prog 51 #[.slice none 0 0] w fun e w' => e = .returned (.tuple #[]) ∧ w' = w := by
  go_enter Tryz.func51, Tryz.ntmps51
  go_wp2_with fail
  go_loop [2, 3] (fun a b => a = .int .i64 0 ∧ b = .int .i64 (-1)) (fun _ _ => 0)
  case atStart => exact ⟨rfl, rfl⟩
  case round =>
    obtain ⟨rfl, rfl⟩ := hrel
    go_wp2_with fail
    go_end0
    exact ⟨rfl, rfl⟩
theorem rev_any (v : Value) (X : List Lot) (base : Nat) (w : World) (hown : Held w base v X) (hl : X.length ≤ 100000) :
    Calls Tryz.prog 51 #[v] w fun e w' => e = .returned (.tuple #[]) ∧ Held w' base v X.reverse ∧ ∀ w0 : World, Below w0.heap.size w0 w → w0.heap.size ≤ base → Below w0.heap.size w0 w' := by
  obtain ⟨rfl, rfl⟩ | ⟨g, cap, rfl, hb, hg, hH, hcap⟩ := hown
  · refine (revNone_any w).mono ?_
    rintro e wq ⟨rfl, rfl⟩
    exact ⟨rfl, .inl ⟨rfl, rfl⟩, fun w0 h _ => h⟩
  · have hcon := AnyQ.slices_Reverse revLay 6 Tryz.isAgg40 Tryz.sizeOf40 Lot.cells lot_len lot_one g 0 cap X.toArray w hH (by simp; omega)
    change Calls Tryz.prog 51 _ _ _ at hcon
    rw [show X.toArray.size = X.length by simp] at hcon
    refine hcon.mono ?_
    rintro e wq ⟨rfl, q, rfl⟩
    have e1 : putRowK Lot.cells 6 (Sort.ahead w q) g 0 X.toArray.reverse = sortWorldK Lot.cells 6 w g 0 q X.toArray.reverse #[] := by
      unfold sortWorldK
      rw [grow_empty]
    rw [e1]
    refine ⟨rfl, .inr ⟨g, cap, by rw [List.length_reverse], hb, lt_sortWorldK Lot.cells 6 w g 0 q _ #[] hg, ?_, by rw [List.length_reverse]; exact hcap⟩, fun w0 h hb0 => below_sort (by omega) h⟩
    have := holdsK_sortWorldK Lot.cells 6 w g 0 q X.toArray X.toArray.reverse #[] hg hH (by simp)
    have e2 : X.toArray.reverse = X.reverse.toArray := by simp
    rw [e2] at this ⊢
    exact this
end Go.Proofs.YtpohkolapgofdaaGreat
namespace Go.Proofs.YtpohkolapgofdaaGreat
open Go.RowKit
attribute [local go_sem] World.cell?_alloc_mark ext_size ext_cell ext_frozen lt_add_r lt_add_r2 lt_add_r3 lt_add_r4 lt_add_r5 lt_add_r6 lt_add_r7 lt_add_r8

def gatherEv (day : Int) (l : Lot) : Event := ⟨day, 4, ⟨#[]⟩, 0, l.remain, 0, false⟩
def liesLv (nm : ByteArray) (n : Int) (l : Lot) : Bool := liesAt nm l && l.level == n
def lvAt (nm : ByteArray) (n : Int) (ls : List Lot) : List Lot := ls.filter (liesLv nm n)
/-- What lies at a site, from the highest level down. -/
def downP (nm : ByteArray) (ls : List Lot) (m : Nat) : List Lot := (List.range m).flatMap fun (k : Nat) => lvAt nm (11 - (k : Int)) ls
def lateP (es : List Event) (day : Int) : Bool := match es.getLast? with | none => false | some e => decide (day < e.day)
def stillP (ss : List Site) (rs : List Rest) (day : Int) (l : Lot) : Bool := decide (day < rOverL ss rs l)
def rGatherP (ss : List Site) (rs : List Rest) (ls : List Lot) (nm : ByteArray) (day : Int) : List Event × Int :=
  if (downP nm ls 12).any (stillP ss rs day) then ([], 17) else ((downP nm ls 12).map (gatherEv day), 0)
def rGatherW (ss : List Site) (rs : List Rest) (es : List Event) (ls : List Lot) (nm : ByteArray) (day : Int) : List Event × Int :=
  if lateP es day then ([], 9) else rGatherP ss rs ls nm day
theorem downP_succ (nm : ByteArray) (ls : List Lot) (m : Nat) : downP nm ls (m + 1) = downP nm ls m ++ lvAt nm (11 - (m : Int)) ls := by
  unfold downP
  rw [List.range_succ, List.flatMap_append, List.flatMap_cons, List.flatMap_nil, List.append_nil]
theorem lvAt_take {nm : ByteArray} {n : Int} {ls : List Lot} {j : Nat} (h : j < ls.length) : lvAt nm n (ls.take (j + 1)) = lvAt nm n (ls.take j) ++ (if liesLv nm n ls[j] then [ls[j]] else []) := by
  rw [List.take_succ_eq_append_getElem h, lvAt, List.filter_append]
  congr 1
  cases hq : liesLv nm n ls[j] <;> simp [hq]
theorem lvAt_le (nm : ByteArray) (n : Int) (ls : List Lot) : (lvAt nm n ls).length ≤ ls.length := List.length_filter_le _ _
theorem downP_le (nm : ByteArray) (ls : List Lot) : ∀ m, (downP nm ls m).length ≤ m * ls.length
  | 0 => by simp [downP]
  | m + 1 => by
    have ih := downP_le nm ls m
    have := lvAt_le nm (11 - (m : Int)) ls
    rw [downP_succ, List.length_append, Nat.succ_mul]
    omega
theorem downP_mem {nm : ByteArray} {ls : List Lot} {m : Nat} (hm : m < 12) {l : Lot} (hl : l ∈ ls) (h : liesLv nm (11 - (m : Int)) l = true) : l ∈ downP nm ls 12 :=
  List.mem_flatMap.2 ⟨m, List.mem_range.2 hm, List.mem_filter.2 ⟨hl, h⟩⟩
/-- Events of the call's own come back, with an error. -/
def EvsPost (w : World) (r : List Event × Int) : Ending → World → Prop := ListPost w 76 7 (r.1.flatMap Event.cells, r.1.length) r.2

set_option maxRecDepth 100000 in
set_option maxHeartbeats 2000000 in
theorem rGatherAll_any (ss : List Site) (rs : List Rest) (A R : Option Addr) (n c rn rc : Nat) (c0 c1 c2 : Int) (es : List Event) (E : Option Addr) (en ec : Nat) (nm : ByteArray) (day : Int) (w : World) (hy : YardIn w ss rs A n c R rn rc) (hev : EventsIn w es E en) (hel : es.length ≤ 100000) (hroom : ∀ s ∈ ss, s.room ≤ 12)
    (hst : ∀ t ∈ (rReplayP c0 c1 c2 ss rs es).1, t.state = 1 → ∃ s, findSite t.site ss = some s) :
    Calls Tryz.prog 27 #[.agg #[.slice A n c, .slice R rn rc, .int .i64 c0, .int .i64 c1, .int .i64 c2], .slice E en ec, .string nm, .int .i64 day] w (EvsPost w (rGatherW ss rs es (rReplayP c0 c1 c2 ss rs es).1 nm day)) := by
  have hlen := rReplay_len (c0 := c0) (c1 := c1) (c2 := c2) (ss := ss) (rs := rs) es
  have HR := fun W h1 h2 => rReplay_any ss rs A R n c rn rc c0 c1 c2 es E en ec W h1 h2 hroom
  generalize rReplayP c0 c1 c2 ss rs es = p at *
  obtain ⟨ls, i0, e0⟩ := p
  dsimp only at hlen hst ⊢
  have hen := hev.hn
  subst hen
  have HST := Lib.hid hst
  clear hst
  cases hlate : lateP es day
  · have hX : rGatherW ss rs es ls nm day = rGatherP ss rs ls nm day := by unfold rGatherW; rw [hlate]; rfl
    rw [hX]
    clear hX
    have HP := Lib.hid (show rGatherP ss rs ls nm day = if (downP nm ls 12).any (stillP ss rs day) then ([], 17) else ((downP nm ls 12).map (gatherEv day), 0) from rfl)
    generalize rGatherP ss rs ls nm day = out at *
    obtain hnil | ⟨q, x, hq, hx, hd⟩ : es = [] ∨ ∃ q x, es.length = q + 1 ∧ es[q]? = some x ∧ ¬ day < x.day := by
      rcases List.eq_nil_or_concat es with h | ⟨l, x, h⟩
      · exact .inl h
      · subst h
        exact .inr ⟨l.length, x, by simp, by simp, by simpa [lateP] using hlate⟩
    · have hl0 : es.length = 0 := by rw [hnil]; rfl
      have hn0 : ¬ 0 < es.length := by omega
      clear hlate hnil hl0
      go_enter Tryz.func27, Tryz.ntmps27
      go_wp2_with (go_at_call 42; refine (HR _ (hy.keep (m := w.heap.size) (by repeat (first | exact B_refl | exact Below.refl _ _ | assumption | with_reducible refine B_alloc ?_ _ | with_reducible refine B_ext ?_ _ | with_reducible refine B_drew ?_ | with_reducible refine B_drewN ?_ _ | with_reducible refine B_set ?_ (by simp; omega) _))) (hev.keep (m := w.heap.size) (by repeat (first | exact B_refl | exact Below.refl _ _ | assumption | with_reducible refine B_alloc ?_ _ | with_reducible refine B_ext ?_ _ | with_reducible refine B_drew ?_ | with_reducible refine B_drewN ?_ _ | with_reducible refine B_set ?_ (by simp; omega) _)))).mono ?_; intro e wq hq; obtain ⟨A', c', z, rfl, rfl, hl, hlc⟩ := hq.form (by dsimp only; omega); clear hq)
      generalize hW0 : World.ext (w.alloc (.cells #[.slice A n c, .slice R rn rc, .int .i64 c0, .int .i64 c1, .int .i64 c2] 26)) z = W0 at *
      have hB : Below w.heap.size w W0 := by rw [← hW0]; repeat (first | exact B_refl | exact Below.refl _ _ | assumption | with_reducible refine B_alloc ?_ _ | with_reducible refine B_ext ?_ _ | with_reducible refine B_drew ?_ | with_reducible refine B_drewN ?_ _ | with_reducible refine B_set ?_ (by simp; omega) _)
      have hblk : W0.heap[w.heap.size]? = some (.cells #[.slice A n c, .slice R rn rc, .int .i64 c0, .int .i64 c1, .int .i64 c2] 26) := by rw [← hW0]; (repeat (first | with_reducible exact G_new _ _ _ (by simp) | with_reducible exact G_new _ _ _ (by simp [ext_size]) | with_reducible refine G_drew ?_ | with_reducible refine G_ext ?_ | with_reducible refine G_alloc ?_))
      have hz := blk_lt hblk
      have hy0 := hy.keep hB
      have hS := hl.sl
      obtain ⟨N, hN⟩ : ∃ N, N = W0.heap.size := ⟨_, rfl⟩
      clear hW0 HR hev hl hy
      go_loopw [13, 14] (fun v i wr => ∃ (m : Nat) (x : Int), m ≤ 12 ∧ x = 11 - (m : Int) ∧ i = .int .i64 x ∧ wr.ownsRow N 76 7 v ((downP nm ls m).map (gatherEv day)).length (((downP nm ls m).map (gatherEv day)).flatMap Event.cells) ∧ Below N W0 wr ∧ Hid ((downP nm ls m).any (stillP ss rs day) = false)) (fun _ i _ => (intOf i + 1).toNat)
      case atStart => exact ⟨0, 11, Nat.zero_le _, rfl, rfl, World.ownsRow_nil _ _ _ _, Below.refl _ _, (show _ = _ from rfl)⟩
      case round =>
        obtain ⟨m, x, hm, hx, rfl, hown, hBr, hno⟩ := hrel
        by_cases hm12 : m < 12
        · have hx0 : (0 : Int) ≤ x := by omega
          have hx1 : x ≤ 11 := by omega
          have HS := Lib.hid (downP_succ nm ls m)
          rw [← hx] at HS
          have HMEM : Hid (∀ l, l ∈ ls → liesLv nm x l = true → l ∈ downP nm ls 12) := fun l h1 h2 => downP_mem hm12 h1 (by rw [← hx]; exact h2)
          have HXE := Lib.hid hx
          clear hx
          have hdl := downP_le nm ls m
          have hdl1 : m * ls.length ≤ 12 * ls.length := Nat.mul_le_mul_right _ hm
          have hdl2 : (downP nm ls m).length ≤ 3600 := by omega
          clear hdl hdl1
          generalize hdn : downP nm ls m = dn at *
          have HDN := Lib.hid hdn
          clear hdn
          obtain ⟨wo, rfl⟩ : ∃ wo : World, wo = wr := ⟨_, rfl⟩
          go_wp2_with fail
          go_loopw [13, 15] (fun v i wr => ∃ j : Nat, j ≤ ls.length ∧ i = .int .i64 j ∧ wr.ownsRow N 76 7 v ((dn ++ lvAt nm x (ls.take j)).map (gatherEv day)).length (((dn ++ lvAt nm x (ls.take j)).map (gatherEv day)).flatMap Event.cells) ∧ Below N W0 wr ∧ Hid ((dn ++ lvAt nm x (ls.take j)).any (stillP ss rs day) = false)) (fun _ i _ => ls.length - (intOf i).toNat)
          case atStart => exact ⟨0, Nat.zero_le _, rfl, by simpa [lvAt] using hown, hBr, by simpa [lvAt] using hno⟩
          case round =>
            obtain ⟨j, hj, rfl, hown1, hBr1, hno1⟩ := hrel
            have hwN : N ≤ wr.heap.size := by have := hBr1.size; omega
            have k0 := (hBr1.block w.heap.size (by omega)).trans hblk
            have g0 : wr.cell? ⟨w.heap.size, 0, none⟩ = some (.slice A n c) := by simp [World.cell?, k0]
            have g1 : wr.cell? ⟨w.heap.size, 1, none⟩ = some (.slice R rn rc) := by simp [World.cell?, k0]
            have g2 : wr.cell? ⟨w.heap.size, 2, none⟩ = some (.int .i64 c0) := by simp [World.cell?, k0]
            have g3 : wr.cell? ⟨w.heap.size, 3, none⟩ = some (.int .i64 c1) := by simp [World.cell?, k0]
            have g4 : wr.cell? ⟨w.heap.size, 4, none⟩ = some (.int .i64 c2) := by simp [World.cell?, k0]
            have hzw : w.heap.size < wr.heap.size := by omega
            clear k0
            by_cases hjl : j < ls.length
            · obtain ⟨b, off, rfl, hb, hc0⟩ := hS.at hjl
              have hc : ∀ i u, (ls[j].cells)[i]? = some u → wr.cell? ⟨b, off + j * 6 + i, none⟩ = some u := fun i u hu => (hBr1.cell (p := ⟨b, off + j * 6 + i, none⟩) (by rw [hN]; exact hb)).trans (hc0 i u hu)
              have x0 : wr.cell? ⟨b, off + j * 6, none⟩ = some (.string ls[j].remain) := hc 0 _ rfl
              have x1 : wr.cell? ⟨b, off + j * 6 + 1, none⟩ = some (.int .i64 ls[j].state) := hc 1 _ rfl
              have x2 : wr.cell? ⟨b, off + j * 6 + 2, none⟩ = some (.string ls[j].site) := hc 2 _ rfl
              have x3 : wr.cell? ⟨b, off + j * 6 + 3, none⟩ = some (.int .i64 ls[j].level) := hc 3 _ rfl
              have x4 : wr.cell? ⟨b, off + j * 6 + 4, none⟩ = some (.int .i64 ls[j].container) := hc 4 _ rfl
              have x5 : wr.cell? ⟨b, off + j * 6 + 5, none⟩ = some (.int .i64 ls[j].since) := hc 5 _ rfl
              have hbw : b < wr.heap.size := by omega
              have HT := Lib.hid (lvAt_take (nm := nm) (n := x) hjl)
              have hjl2 : (j : Int) < (ls.length : Int) := by omega
              have hsl := lvAt_le nm x (ls.take j)
              rw [List.length_take] at hsl
              have hus : (dn ++ lvAt nm x (ls.take j)).length ≤ 4000 := by rw [List.length_append]; omega
              have HFS := Lib.hid (HST.out _ (List.getElem_mem hjl))
              have HIN := Lib.hid (HMEM.out _ (List.getElem_mem hjl))
              clear hc hc0 hsl
              generalize ls[j] = s at *
              obtain ⟨a0, a1, a2, a3, a4, a5⟩ := s
              dsimp only at x0 x1 x2 x3 x4 x5 HT HFS
              generalize hus0 : dn ++ lvAt nm x (ls.take j) = us at *
              have HU := Lib.hid hus0
              clear hus0
              have HNX : Hid (liesLv nm x ⟨a0, a1, a2, a3, a4, a5⟩ = false → us = dn ++ lvAt nm x (ls.take (j + 1))) := fun h => by rw [HT.out, h, ← HU.out]; simp
              have HYX : Hid (liesLv nm x ⟨a0, a1, a2, a3, a4, a5⟩ = true → us ++ [⟨a0, a1, a2, a3, a4, a5⟩] = dn ++ lvAt nm x (ls.take (j + 1))) := fun h => by rw [HT.out, h, ← HU.out]; simp
              cases h1 : (a1 == 1)
              · have HE : Hid (us = dn ++ lvAt nm x (ls.take (j + 1))) := HNX.out (by simp [liesLv, liesAt, h1])
                go_wp2_with fail
                go_roundw
                case rel => exact ⟨j + 1, by omega, by go_num, by rw [← HE.out]; exact hown1, hBr1, by rw [← HE.out]; exact hno1⟩
                case measure => simp [intOf]; omega
              · have h1' : a1 = 1 := by simpa using h1
                subst h1'
                cases h2 : (a2.toList == nm.toList)
                · have HE : Hid (us = dn ++ lvAt nm x (ls.take (j + 1))) := HNX.out (by simp [liesLv, liesAt, h2])
                  go_wp2_with fail
                  go_roundw
                  case rel => exact ⟨j + 1, by omega, by go_num, by rw [← HE.out]; exact hown1, hBr1, by rw [← HE.out]; exact hno1⟩
                  case measure => simp [intOf]; omega
                · cases h3 : (a3 == x)
                  · have HE : Hid (us = dn ++ lvAt nm x (ls.take (j + 1))) := HNX.out (by simp [liesLv, liesAt, h3])
                    go_wp2_with fail
                    go_roundw
                    case rel => exact ⟨j + 1, by omega, by go_num, by rw [← HE.out]; exact hown1, hBr1, by rw [← HE.out]; exact hno1⟩
                    case measure => simp [intOf]; omega
                  · have hll : liesLv nm x ⟨a0, 1, a2, a3, a4, a5⟩ = true := by simp [liesLv, liesAt, h2, h3]
                    have HE : Hid (us ++ [⟨a0, 1, a2, a3, a4, a5⟩] = dn ++ lvAt nm x (ls.take (j + 1))) := HYX.out hll
                    have hin := HIN.out hll
                    have HV := fun W h => rOver_any ss rs A R n c rn rc c0 c1 c2 a0 1 a2 a3 a4 a5 W h (HFS.out rfl)
                    have HSP : Hid (stillP ss rs day ⟨a0, 1, a2, a3, a4, a5⟩ = decide (day < rOverL ss rs ⟨a0, 1, a2, a3, a4, a5⟩)) := rfl
                    generalize rOverL ss rs ⟨a0, 1, a2, a3, a4, a5⟩ = ovr at *
                    by_cases hlate : day < ovr
                    · have HO : Hid (out = ([], 17)) := by
                        show _ = _
                        rw [HP.out, if_pos (List.any_eq_true.2 ⟨_, hin, by rw [HSP.out]; simpa using hlate⟩)]
                      clear hin hll
                      go_wp2_with fail
                      (refine wp_region_ext_lit (by kernel_rfl) (by kernel_rfl) ?_
                       repeat (first | go_big_quiet_skip | (go_big_quiet_want; go_big_quiet_op; first | go_big_quiet_on | (apply Exists.intro; refine ⟨fun _ => ?_, ?_⟩; ((go_at_call 50; exact quietx (HV _ ((hy0.keep hBr1 (by omega)).keep (m := wr.heap.size) (by repeat (first | exact B_refl | exact Below.refl _ _ | assumption | with_reducible refine B_alloc ?_ _ | with_reducible refine B_ext ?_ _ | with_reducible refine B_drew ?_ | with_reducible refine B_drewN ?_ _ | with_reducible refine B_set ?_ (by simp; omega) _)))))); go_big_quiet_on)))
                       refine wpQuiet_nil ?_
                       rintro _ ⟨zq, rfl⟩)
                      go_wp2_with fail
                      go_ret2
                      rw [HO.out]
                      exact ListPost.none (hB.trans ((B_ext hBr1 _).mono (by omega)))
                    · have HNO : Hid ((us ++ [(⟨a0, 1, a2, a3, a4, a5⟩ : Lot)]).any (stillP ss rs day) = false) := by
                        show _ = _
                        rw [List.any_append, hno1.out, List.any_cons, HSP.out]
                        simpa using hlate
                      clear hin hll
                      go_wp2_with fail
                      (refine wp_region_ext_lit (by kernel_rfl) (by kernel_rfl) ?_
                       repeat (first | go_big_quiet_skip | (go_big_quiet_want; go_big_quiet_op; first | go_big_quiet_on | (apply Exists.intro; refine ⟨fun _ => ?_, ?_⟩; ((go_at_call 50; exact quietx (HV _ ((hy0.keep hBr1 (by omega)).keep (m := wr.heap.size) (by repeat (first | exact B_refl | exact Below.refl _ _ | assumption | with_reducible refine B_alloc ?_ _ | with_reducible refine B_ext ?_ _ | with_reducible refine B_drew ?_ | with_reducible refine B_drewN ?_ _ | with_reducible refine B_set ?_ (by simp; omega) _)))))); go_big_quiet_on)))
                       refine wpQuiet_nil ?_
                       rintro _ ⟨zq, rfl⟩)
                      have hus2 : (us.map (gatherEv day)).length ≤ 4000 := by rw [List.length_map]; exact hus
                      have HMP : Hid ((us ++ [(⟨a0, 1, a2, a3, a4, a5⟩ : Lot)]).map (gatherEv day) = us.map (gatherEv day) ++ [⟨day, 4, ⟨#[]⟩, 0, a0, 0, false⟩]) := by show _ = _; rw [List.map_append]; rfl
                      generalize us.map (gatherEv day) = vs at *
                      go_wp2_with (at_builtin; refine wpList_append_sl rfl _ _ rfl elEvent event_len event_one (base := N) (n := vs.length) (m := 1) (v := u13) rfl ((own_ext hown1 _).alloc _) rfl (ys := [⟨day, 4, ⟨#[]⟩, 0, a0, 0, false⟩]) rfl (sl_event (t := 76) (fr := (0, 0)) (G_new _ _ _ (by first | rfl | (simp [ext_size]; done)))) (by simp [maxLen]; omega) (by omega) (by simp [ext_size]; omega) ?_; intro v' w1 h1 h2 h3)
                      have hown2 : w1.ownsRow N 76 7 v' (vs ++ [(⟨day, 4, ⟨#[]⟩, 0, a0, 0, false⟩ : Event)]).length ((vs ++ [(⟨day, 4, ⟨#[]⟩, 0, a0, 0, false⟩ : Event)]).flatMap Event.cells) := by simpa using h1
                      have hB2 : Below N W0 w1 := below_own (B_alloc (B_ext hBr1 _) _) ((own_ext hown1 _).alloc _) h2
                      clear h1 h2 h3
                      go_wp2_with fail
                      go_roundw
                      case rel => exact ⟨j + 1, by omega, by go_num, by rw [← HE.out, HMP.out]; exact hown2, hB2, by rw [← HE.out]; exact HNO⟩
                      case measure => simp [intOf]; omega
            · have hje : j = ls.length := by omega
              subst hje
              rw [List.take_length] at hown1 hno1
              go_wp2_with fail
              go_roundw
              case rel => exact ⟨m + 1, x - 1, by omega, by have := HXE.out; omega, by go_num, by rw [HS.out]; exact hown1, hBr1, by rw [HS.out]; exact hno1⟩
              case measure => simp [intOf]; omega
        · have hme : m = 12 := by omega
          subst hme
          have hxn : x = -1 := by omega
          subst hxn
          have HO : Hid (out = ((downP nm ls 12).map (gatherEv day), 0)) := by
            show _ = _
            rw [HP.out, hno.out]
            rfl
          go_wp2_with fail
          go_ret2
          rw [HO.out]
          exact ⟨_, rfl, own_mono' hown (by have := hB.size; omega), ext_below (hB.trans (hBr.mono (by have := hB.size; omega)))⟩
    · clear hlate
      have hlt : q < es.length := by omega
      obtain ⟨b, off, rfl, hb, hc0⟩ := hev.sl.at hlt
      have hxe := (List.getElem?_eq_some_iff.1 hx).2
      rw [hxe] at hc0
      have x0 : w.cell? ⟨b, off + q * 7, none⟩ = some (.int .i64 x.day) := hc0 0 _ rfl
      clear hc0 hxe hx
      rw [hq] at HR hev hel ⊢
      clear hq hlt
      go_enter Tryz.func27, Tryz.ntmps27
      go_wp2_with (go_at_call 42; refine (HR _ (hy.keep (m := w.heap.size) (by repeat (first | exact B_refl | exact Below.refl _ _ | assumption | with_reducible refine B_alloc ?_ _ | with_reducible refine B_ext ?_ _ | with_reducible refine B_drew ?_ | with_reducible refine B_drewN ?_ _ | with_reducible refine B_set ?_ (by simp; omega) _))) (hev.keep (m := w.heap.size) (by repeat (first | exact B_refl | exact Below.refl _ _ | assumption | with_reducible refine B_alloc ?_ _ | with_reducible refine B_ext ?_ _ | with_reducible refine B_drew ?_ | with_reducible refine B_drewN ?_ _ | with_reducible refine B_set ?_ (by simp; omega) _)))).mono ?_; intro e wq hq; obtain ⟨A', c', z, rfl, rfl, hl, hlc⟩ := hq.form (by dsimp only; omega); clear hq)
      generalize hW0 : World.ext (w.alloc (.cells #[.slice A n c, .slice R rn rc, .int .i64 c0, .int .i64 c1, .int .i64 c2] 26)) z = W0 at *
      have hB : Below w.heap.size w W0 := by rw [← hW0]; repeat (first | exact B_refl | exact Below.refl _ _ | assumption | with_reducible refine B_alloc ?_ _ | with_reducible refine B_ext ?_ _ | with_reducible refine B_drew ?_ | with_reducible refine B_drewN ?_ _ | with_reducible refine B_set ?_ (by simp; omega) _)
      have hblk : W0.heap[w.heap.size]? = some (.cells #[.slice A n c, .slice R rn rc, .int .i64 c0, .int .i64 c1, .int .i64 c2] 26) := by rw [← hW0]; (repeat (first | with_reducible exact G_new _ _ _ (by simp) | with_reducible exact G_new _ _ _ (by simp [ext_size]) | with_reducible refine G_drew ?_ | with_reducible refine G_ext ?_ | with_reducible refine G_alloc ?_))
      have hz := blk_lt hblk
      have hy0 := hy.keep hB
      have hS := hl.sl
      obtain ⟨N, hN⟩ : ∃ N, N = W0.heap.size := ⟨_, rfl⟩
      clear hW0 HR hev hl hy
      go_loopw [13, 14] (fun v i wr => ∃ (m : Nat) (x : Int), m ≤ 12 ∧ x = 11 - (m : Int) ∧ i = .int .i64 x ∧ wr.ownsRow N 76 7 v ((downP nm ls m).map (gatherEv day)).length (((downP nm ls m).map (gatherEv day)).flatMap Event.cells) ∧ Below N W0 wr ∧ Hid ((downP nm ls m).any (stillP ss rs day) = false)) (fun _ i _ => (intOf i + 1).toNat)
      case atStart => exact ⟨0, 11, Nat.zero_le _, rfl, rfl, World.ownsRow_nil _ _ _ _, Below.refl _ _, (show _ = _ from rfl)⟩
      case round =>
        obtain ⟨m, x, hm, hx, rfl, hown, hBr, hno⟩ := hrel
        by_cases hm12 : m < 12
        · have hx0 : (0 : Int) ≤ x := by omega
          have hx1 : x ≤ 11 := by omega
          have HS := Lib.hid (downP_succ nm ls m)
          rw [← hx] at HS
          have HMEM : Hid (∀ l, l ∈ ls → liesLv nm x l = true → l ∈ downP nm ls 12) := fun l h1 h2 => downP_mem hm12 h1 (by rw [← hx]; exact h2)
          have HXE := Lib.hid hx
          clear hx
          have hdl := downP_le nm ls m
          have hdl1 : m * ls.length ≤ 12 * ls.length := Nat.mul_le_mul_right _ hm
          have hdl2 : (downP nm ls m).length ≤ 3600 := by omega
          clear hdl hdl1
          generalize hdn : downP nm ls m = dn at *
          have HDN := Lib.hid hdn
          clear hdn
          obtain ⟨wo, rfl⟩ : ∃ wo : World, wo = wr := ⟨_, rfl⟩
          go_wp2_with fail
          go_loopw [13, 15] (fun v i wr => ∃ j : Nat, j ≤ ls.length ∧ i = .int .i64 j ∧ wr.ownsRow N 76 7 v ((dn ++ lvAt nm x (ls.take j)).map (gatherEv day)).length (((dn ++ lvAt nm x (ls.take j)).map (gatherEv day)).flatMap Event.cells) ∧ Below N W0 wr ∧ Hid ((dn ++ lvAt nm x (ls.take j)).any (stillP ss rs day) = false)) (fun _ i _ => ls.length - (intOf i).toNat)
          case atStart => exact ⟨0, Nat.zero_le _, rfl, by simpa [lvAt] using hown, hBr, by simpa [lvAt] using hno⟩
          case round =>
            obtain ⟨j, hj, rfl, hown1, hBr1, hno1⟩ := hrel
            have hwN : N ≤ wr.heap.size := by have := hBr1.size; omega
            have k0 := (hBr1.block w.heap.size (by omega)).trans hblk
            have g0 : wr.cell? ⟨w.heap.size, 0, none⟩ = some (.slice A n c) := by simp [World.cell?, k0]
            have g1 : wr.cell? ⟨w.heap.size, 1, none⟩ = some (.slice R rn rc) := by simp [World.cell?, k0]
            have g2 : wr.cell? ⟨w.heap.size, 2, none⟩ = some (.int .i64 c0) := by simp [World.cell?, k0]
            have g3 : wr.cell? ⟨w.heap.size, 3, none⟩ = some (.int .i64 c1) := by simp [World.cell?, k0]
            have g4 : wr.cell? ⟨w.heap.size, 4, none⟩ = some (.int .i64 c2) := by simp [World.cell?, k0]
            have hzw : w.heap.size < wr.heap.size := by omega
            clear k0
            by_cases hjl : j < ls.length
            · obtain ⟨b, off, rfl, hb, hc0⟩ := hS.at hjl
              have hc : ∀ i u, (ls[j].cells)[i]? = some u → wr.cell? ⟨b, off + j * 6 + i, none⟩ = some u := fun i u hu => (hBr1.cell (p := ⟨b, off + j * 6 + i, none⟩) (by rw [hN]; exact hb)).trans (hc0 i u hu)
              have x0 : wr.cell? ⟨b, off + j * 6, none⟩ = some (.string ls[j].remain) := hc 0 _ rfl
              have x1 : wr.cell? ⟨b, off + j * 6 + 1, none⟩ = some (.int .i64 ls[j].state) := hc 1 _ rfl
              have x2 : wr.cell? ⟨b, off + j * 6 + 2, none⟩ = some (.string ls[j].site) := hc 2 _ rfl
              have x3 : wr.cell? ⟨b, off + j * 6 + 3, none⟩ = some (.int .i64 ls[j].level) := hc 3 _ rfl
              have x4 : wr.cell? ⟨b, off + j * 6 + 4, none⟩ = some (.int .i64 ls[j].container) := hc 4 _ rfl
              have x5 : wr.cell? ⟨b, off + j * 6 + 5, none⟩ = some (.int .i64 ls[j].since) := hc 5 _ rfl
              have hbw : b < wr.heap.size := by omega
              have HT := Lib.hid (lvAt_take (nm := nm) (n := x) hjl)
              have hjl2 : (j : Int) < (ls.length : Int) := by omega
              have hsl := lvAt_le nm x (ls.take j)
              rw [List.length_take] at hsl
              have hus : (dn ++ lvAt nm x (ls.take j)).length ≤ 4000 := by rw [List.length_append]; omega
              have HFS := Lib.hid (HST.out _ (List.getElem_mem hjl))
              have HIN := Lib.hid (HMEM.out _ (List.getElem_mem hjl))
              clear hc hc0 hsl
              generalize ls[j] = s at *
              obtain ⟨a0, a1, a2, a3, a4, a5⟩ := s
              dsimp only at x0 x1 x2 x3 x4 x5 HT HFS
              generalize hus0 : dn ++ lvAt nm x (ls.take j) = us at *
              have HU := Lib.hid hus0
              clear hus0
              have HNX : Hid (liesLv nm x ⟨a0, a1, a2, a3, a4, a5⟩ = false → us = dn ++ lvAt nm x (ls.take (j + 1))) := fun h => by rw [HT.out, h, ← HU.out]; simp
              have HYX : Hid (liesLv nm x ⟨a0, a1, a2, a3, a4, a5⟩ = true → us ++ [⟨a0, a1, a2, a3, a4, a5⟩] = dn ++ lvAt nm x (ls.take (j + 1))) := fun h => by rw [HT.out, h, ← HU.out]; simp
              cases h1 : (a1 == 1)
              · have HE : Hid (us = dn ++ lvAt nm x (ls.take (j + 1))) := HNX.out (by simp [liesLv, liesAt, h1])
                go_wp2_with fail
                go_roundw
                case rel => exact ⟨j + 1, by omega, by go_num, by rw [← HE.out]; exact hown1, hBr1, by rw [← HE.out]; exact hno1⟩
                case measure => simp [intOf]; omega
              · have h1' : a1 = 1 := by simpa using h1
                subst h1'
                cases h2 : (a2.toList == nm.toList)
                · have HE : Hid (us = dn ++ lvAt nm x (ls.take (j + 1))) := HNX.out (by simp [liesLv, liesAt, h2])
                  go_wp2_with fail
                  go_roundw
                  case rel => exact ⟨j + 1, by omega, by go_num, by rw [← HE.out]; exact hown1, hBr1, by rw [← HE.out]; exact hno1⟩
                  case measure => simp [intOf]; omega
                · cases h3 : (a3 == x)
                  · have HE : Hid (us = dn ++ lvAt nm x (ls.take (j + 1))) := HNX.out (by simp [liesLv, liesAt, h3])
                    go_wp2_with fail
                    go_roundw
                    case rel => exact ⟨j + 1, by omega, by go_num, by rw [← HE.out]; exact hown1, hBr1, by rw [← HE.out]; exact hno1⟩
                    case measure => simp [intOf]; omega
                  · have hll : liesLv nm x ⟨a0, 1, a2, a3, a4, a5⟩ = true := by simp [liesLv, liesAt, h2, h3]
                    have HE : Hid (us ++ [⟨a0, 1, a2, a3, a4, a5⟩] = dn ++ lvAt nm x (ls.take (j + 1))) := HYX.out hll
                    have hin := HIN.out hll
                    have HV := fun W h => rOver_any ss rs A R n c rn rc c0 c1 c2 a0 1 a2 a3 a4 a5 W h (HFS.out rfl)
                    have HSP : Hid (stillP ss rs day ⟨a0, 1, a2, a3, a4, a5⟩ = decide (day < rOverL ss rs ⟨a0, 1, a2, a3, a4, a5⟩)) := rfl
                    generalize rOverL ss rs ⟨a0, 1, a2, a3, a4, a5⟩ = ovr at *
                    by_cases hlate : day < ovr
                    · have HO : Hid (out = ([], 17)) := by
                        show _ = _
                        rw [HP.out, if_pos (List.any_eq_true.2 ⟨_, hin, by rw [HSP.out]; simpa using hlate⟩)]
                      clear hin hll
                      go_wp2_with fail
                      (refine wp_region_ext_lit (by kernel_rfl) (by kernel_rfl) ?_
                       repeat (first | go_big_quiet_skip | (go_big_quiet_want; go_big_quiet_op; first | go_big_quiet_on | (apply Exists.intro; refine ⟨fun _ => ?_, ?_⟩; ((go_at_call 50; exact quietx (HV _ ((hy0.keep hBr1 (by omega)).keep (m := wr.heap.size) (by repeat (first | exact B_refl | exact Below.refl _ _ | assumption | with_reducible refine B_alloc ?_ _ | with_reducible refine B_ext ?_ _ | with_reducible refine B_drew ?_ | with_reducible refine B_drewN ?_ _ | with_reducible refine B_set ?_ (by simp; omega) _)))))); go_big_quiet_on)))
                       refine wpQuiet_nil ?_
                       rintro _ ⟨zq, rfl⟩)
                      go_wp2_with fail
                      go_ret2
                      rw [HO.out]
                      exact ListPost.none (hB.trans ((B_ext hBr1 _).mono (by omega)))
                    · have HNO : Hid ((us ++ [(⟨a0, 1, a2, a3, a4, a5⟩ : Lot)]).any (stillP ss rs day) = false) := by
                        show _ = _
                        rw [List.any_append, hno1.out, List.any_cons, HSP.out]
                        simpa using hlate
                      clear hin hll
                      go_wp2_with fail
                      (refine wp_region_ext_lit (by kernel_rfl) (by kernel_rfl) ?_
                       repeat (first | go_big_quiet_skip | (go_big_quiet_want; go_big_quiet_op; first | go_big_quiet_on | (apply Exists.intro; refine ⟨fun _ => ?_, ?_⟩; ((go_at_call 50; exact quietx (HV _ ((hy0.keep hBr1 (by omega)).keep (m := wr.heap.size) (by repeat (first | exact B_refl | exact Below.refl _ _ | assumption | with_reducible refine B_alloc ?_ _ | with_reducible refine B_ext ?_ _ | with_reducible refine B_drew ?_ | with_reducible refine B_drewN ?_ _ | with_reducible refine B_set ?_ (by simp; omega) _)))))); go_big_quiet_on)))
                       refine wpQuiet_nil ?_
                       rintro _ ⟨zq, rfl⟩)
                      have hus2 : (us.map (gatherEv day)).length ≤ 4000 := by rw [List.length_map]; exact hus
                      have HMP : Hid ((us ++ [(⟨a0, 1, a2, a3, a4, a5⟩ : Lot)]).map (gatherEv day) = us.map (gatherEv day) ++ [⟨day, 4, ⟨#[]⟩, 0, a0, 0, false⟩]) := by show _ = _; rw [List.map_append]; rfl
                      generalize us.map (gatherEv day) = vs at *
                      go_wp2_with (at_builtin; refine wpList_append_sl rfl _ _ rfl elEvent event_len event_one (base := N) (n := vs.length) (m := 1) (v := u13) rfl ((own_ext hown1 _).alloc _) rfl (ys := [⟨day, 4, ⟨#[]⟩, 0, a0, 0, false⟩]) rfl (sl_event (t := 76) (fr := (0, 0)) (G_new _ _ _ (by first | rfl | (simp [ext_size]; done)))) (by simp [maxLen]; omega) (by omega) (by simp [ext_size]; omega) ?_; intro v' w1 h1 h2 h3)
                      have hown2 : w1.ownsRow N 76 7 v' (vs ++ [(⟨day, 4, ⟨#[]⟩, 0, a0, 0, false⟩ : Event)]).length ((vs ++ [(⟨day, 4, ⟨#[]⟩, 0, a0, 0, false⟩ : Event)]).flatMap Event.cells) := by simpa using h1
                      have hB2 : Below N W0 w1 := below_own (B_alloc (B_ext hBr1 _) _) ((own_ext hown1 _).alloc _) h2
                      clear h1 h2 h3
                      go_wp2_with fail
                      go_roundw
                      case rel => exact ⟨j + 1, by omega, by go_num, by rw [← HE.out, HMP.out]; exact hown2, hB2, by rw [← HE.out]; exact HNO⟩
                      case measure => simp [intOf]; omega
            · have hje : j = ls.length := by omega
              subst hje
              rw [List.take_length] at hown1 hno1
              go_wp2_with fail
              go_roundw
              case rel => exact ⟨m + 1, x - 1, by omega, by have := HXE.out; omega, by go_num, by rw [HS.out]; exact hown1, hBr1, by rw [HS.out]; exact hno1⟩
              case measure => simp [intOf]; omega
        · have hme : m = 12 := by omega
          subst hme
          have hxn : x = -1 := by omega
          subst hxn
          have HO : Hid (out = ((downP nm ls 12).map (gatherEv day), 0)) := by
            show _ = _
            rw [HP.out, hno.out]
            rfl
          go_wp2_with fail
          go_ret2
          rw [HO.out]
          exact ⟨_, rfl, own_mono' hown (by have := hB.size; omega), ext_below (hB.trans (hBr.mono (by have := hB.size; omega)))⟩
  · have hX : rGatherW ss rs es ls nm day = ([], 9) := by unfold rGatherW; rw [hlate]; rfl
    rw [hX]
    clear hX
    obtain ⟨q, x, hq, hx, hd⟩ : ∃ q x, es.length = q + 1 ∧ es[q]? = some x ∧ day < x.day := by
      rcases List.eq_nil_or_concat es with h | ⟨l, x, h⟩
      · subst h; simp [lateP] at hlate
      · subst h
        exact ⟨l.length, x, by simp, by simp, by simpa [lateP] using hlate⟩
    clear hlate
    have hlt : q < es.length := by omega
    obtain ⟨b, off, rfl, hb, hc0⟩ := hev.sl.at hlt
    have hxe := (List.getElem?_eq_some_iff.1 hx).2
    rw [hxe] at hc0
    have x0 : w.cell? ⟨b, off + q * 7, none⟩ = some (.int .i64 x.day) := hc0 0 _ rfl
    clear hc0 hxe hx hev HR HST
    rw [hq] at hlt hel ⊢
    clear hq
    go_enter Tryz.func27, Tryz.ntmps27
    go_wp2_with fail
    go_ret2
    exact ListPost.none (by repeat (first | exact B_refl | exact Below.refl _ _ | assumption | with_reducible refine B_alloc ?_ _ | with_reducible refine B_ext ?_ _ | with_reducible refine B_drew ?_ | with_reducible refine B_drewN ?_ _ | with_reducible refine B_set ?_ (by simp; omega) _))
end Go.Proofs.YtpohkolapgofdaaGreat
namespace Go.Proofs.YtpohkolapgofdaaGreat
open Go.RowKit Go.Shelf
attribute [local go_sem] World.cell?_alloc_mark ext_size ext_cell ext_frozen lt_add_r lt_add_r2 lt_add_r3 lt_add_r4 lt_add_r5 lt_add_r6 lt_add_r7 lt_add_r8

/-- The error ahead of what lies there. -/
def gaErr (p : Bk × Int) (ss : List Site) (nm : ByteArray) (day : Int) : Int := if wsErr p ss nm != 0 then wsErr p ss nm else if !inR day 0 200000 then 2 else if decide (day < p.1.day) then 9 else 0
/-- The events, or the error, by what lies there. -/
def gaOf (ss : List Site) (rs : List Rest) (day : Int) (X : List Lot) : List Event × Int := if X.any (restsOn ss rs day) then ([], 17) else (X.reverse.map (gatherEv day), 0)
def GaPost (w : World) (ss : List Site) (rs : List Rest) (p : Bk × Int) (nm : ByteArray) (day : Int) (e : Ending) (w' : World) : Prop :=
  (gaErr p ss nm day ≠ 0 ∧ EvsPost w ([], gaErr p ss nm day) e w') ∨
  (gaErr p ss nm day = 0 ∧ ∃ L, L.Perm (lotsNow p.1.st) ∧ Up L ∧ EvsPost w (gaOf ss rs day ((lvlSorted (hereL nm L)).filter lies)) e w')
theorem Held.keep {w W : World} {base : Nat} {v : Value} {xs : List Lot} (h : Held w base v xs) {n : Nat} (hb : Below n w W) (hn : w.heap.size ≤ n := by first | exact Nat.le_refl _ | omega) : Held W base v xs := by
  rcases h with h | ⟨g, cap, h1, h2, h3, h4, h5⟩
  · exact .inl h
  · exact .inr ⟨g, cap, h1, h2, Nat.lt_of_lt_of_le h3 hb.size, holds_keep h4 hb (by omega), h5⟩
set_option maxRecDepth 100000 in
set_option maxHeartbeats 2000000 in
theorem gGatherAll_any (ss : List Site) (rs : List Rest) (A R : Option Addr) (n c rn rc : Nat) (c0 c1 c2 : Int) (es : List Event) (L : Option Addr) (ln lc : Nat) (nm : ByteArray) (day : Int) (w : World) (hy : YardIn w ss rs A n c R rn rc) (hev : EventsIn w es L ln)
    (hfew : (readP ss rs (bk0 A n c R rn rc c0 c1 c2) es).2 = 0 → (lotsNow (readP ss rs (bk0 A n c R rn rc c0 c1 c2) es).1.st).length < 20) :
    Calls Tryz.prog 26 #[.agg #[.slice A n c, .slice R rn rc, .int .i64 c0, .int .i64 c1, .int .i64 c2], .slice L ln lc, .string nm, .int .i64 day] w (GaPost w ss rs (readP ss rs (bk0 A n c R rn rc c0 c1 c2) es) nm day) := by
  have HW := fun W h1 h2 => withSite_any ss rs A R n c rn rc c0 c1 c2 es L ln lc nm W h1 h2
  have HFW := Lib.hid hfew
  clear hfew
  generalize readP ss rs (bk0 A n c R rn rc c0 c1 c2) es = p at *
  cases hq : (wsErr p ss nm != 0)
  rotate_left
  · have HQ := Lib.hid hq
    have hX : gaErr p ss nm day = wsErr p ss nm := by unfold gaErr; rw [hq]; rfl
    have hN : wsErr p ss nm ≠ 0 := by simpa using hq
    unfold GaPost
    rw [hX]
    have HN := Lib.hid hN
    clear hX hN
    go_enter Tryz.func26, Tryz.ntmps26
    go_wp2_with (go_at_call 37; refine (HW _ (hy.keep (by repeat (first | exact B_refl | exact Below.refl _ _ | assumption | with_reducible refine B_alloc ?_ _ | with_reducible refine B_ext ?_ _ | with_reducible refine B_drew ?_ | with_reducible refine B_drewN ?_ _ | with_reducible refine B_set ?_ (by simp; omega) _))) (hev.keep (by repeat (first | exact B_refl | exact Below.refl _ _ | assumption | with_reducible refine B_alloc ?_ _ | with_reducible refine B_ext ?_ _ | with_reducible refine B_drew ?_ | with_reducible refine B_drewN ?_ _ | with_reducible refine B_set ?_ (by simp; omega) _)))).mono ?_; intro e wq hpq; obtain ⟨rfl, zq, rfl⟩ := hpq.bad HQ.out; clear hpq; unfold Site.v zeroSite)
    go_ret2
    exact .inl ⟨HN.out, ListPost.none (by repeat (first | exact B_refl | exact Below.refl _ _ | assumption | with_reducible refine B_alloc ?_ _ | with_reducible refine B_ext ?_ _ | with_reducible refine B_drew ?_ | with_reducible refine B_drewN ?_ _ | with_reducible refine B_set ?_ (by simp; omega) _))⟩
  have HQ := Lib.hid hq
  have hp0 := wsErr_zero hq
  obtain ⟨s, hf⟩ := wsErr_some hq
  have HF := Lib.hid hf
  have hfw := HFW.out hp0
  clear HFW hp0
  cases hd : inR day 0 200000
  · have hX : gaErr p ss nm day = 2 := by unfold gaErr; rw [hq, hd]; rfl
    unfold GaPost
    rw [hX]
    clear hX hq hf
    go_enter Tryz.func26, Tryz.ntmps26
    go_wp2_with (first | (go_at_call 37; refine (HW _ (hy.keep (by repeat (first | exact B_refl | exact Below.refl _ _ | assumption | with_reducible refine B_alloc ?_ _ | with_reducible refine B_ext ?_ _ | with_reducible refine B_drew ?_ | with_reducible refine B_drewN ?_ _ | with_reducible refine B_set ?_ (by simp; omega) _))) (hev.keep (by repeat (first | exact B_refl | exact Below.refl _ _ | assumption | with_reducible refine B_alloc ?_ _ | with_reducible refine B_ext ?_ _ | with_reducible refine B_drew ?_ | with_reducible refine B_drewN ?_ _ | with_reducible refine B_set ?_ (by simp; omega) _)))).mono ?_; intro e wq hpq; obtain ⟨base, bb, rfl, hbs, henv, zq, rfl⟩ := hpq.ok HQ.out HF.out; clear hpq; unfold Site.v) | (go_at_call 38; refine (isDay_any _ _).mono ?_; rintro e wq ⟨rfl, rfl⟩; rw [hd]))
    go_ret2
    exact .inl ⟨by decide, ListPost.none (by repeat (first | exact B_refl | exact Below.refl _ _ | assumption | with_reducible refine B_alloc ?_ _ | with_reducible refine B_ext ?_ _ | with_reducible refine B_drew ?_ | with_reducible refine B_drewN ?_ _ | with_reducible refine B_set ?_ (by simp; omega) _))⟩
  by_cases hday : day < p.1.day
  · have hX : gaErr p ss nm day = 9 := by unfold gaErr; rw [hq, hd]; simp [hday]
    unfold GaPost
    rw [hX]
    clear hX hq hf
    go_enter Tryz.func26, Tryz.ntmps26
    go_wp2_with (first | (go_at_call 37; refine (HW _ (hy.keep (by repeat (first | exact B_refl | exact Below.refl _ _ | assumption | with_reducible refine B_alloc ?_ _ | with_reducible refine B_ext ?_ _ | with_reducible refine B_drew ?_ | with_reducible refine B_drewN ?_ _ | with_reducible refine B_set ?_ (by simp; omega) _))) (hev.keep (by repeat (first | exact B_refl | exact Below.refl _ _ | assumption | with_reducible refine B_alloc ?_ _ | with_reducible refine B_ext ?_ _ | with_reducible refine B_drew ?_ | with_reducible refine B_drewN ?_ _ | with_reducible refine B_set ?_ (by simp; omega) _)))).mono ?_; intro e wq hpq; obtain ⟨base, bb, rfl, hbs, henv, zq, rfl⟩ := hpq.ok HQ.out HF.out; clear hpq; unfold Site.v
                          obtain ⟨vv, bm, hblk, hown, hm, hbb, hbm⟩ := henv.bk
                          have g7 := cell_of (i := 7) (v := .int .i64 p.1.day) hblk rfl
                          have hlt := blk_lt hblk
                          have hlt2 : bb < w.heap.size + 1 + zq.os.size := by simpa [ext_size] using hlt
                          have hlt3 : bb < w.heap.size + 1 + zq.os.size + 1 := by omega
                          clear hblk hown hm hbb hbm) | (go_at_call 38; refine (isDay_any _ _).mono ?_; rintro e wq ⟨rfl, rfl⟩; rw [hd]))
    go_ret2
    exact .inl ⟨by decide, ListPost.none (by repeat (first | exact B_refl | exact Below.refl _ _ | assumption | with_reducible refine B_alloc ?_ _ | with_reducible refine B_ext ?_ _ | with_reducible refine B_drew ?_ | with_reducible refine B_drewN ?_ _ | with_reducible refine B_set ?_ (by simp; omega) _))⟩
  have hX : gaErr p ss nm day = 0 := by unfold gaErr; rw [hq, hd]; simp [hday]
  have HX := Lib.hid hX
  clear hX hq hf
  go_enter Tryz.func26, Tryz.ntmps26
  go_wp2_with (first
    | (go_at_call 37; refine (HW _ (hy.keep (by repeat (first | exact B_refl | exact Below.refl _ _ | assumption | with_reducible refine B_alloc ?_ _ | with_reducible refine B_ext ?_ _ | with_reducible refine B_drew ?_ | with_reducible refine B_drewN ?_ _ | with_reducible refine B_set ?_ (by simp; omega) _))) (hev.keep (by repeat (first | exact B_refl | exact Below.refl _ _ | assumption | with_reducible refine B_alloc ?_ _ | with_reducible refine B_ext ?_ _ | with_reducible refine B_drew ?_ | with_reducible refine B_drewN ?_ _ | with_reducible refine B_set ?_ (by simp; omega) _)))).mono ?_; intro e wq hpq; obtain ⟨base, bb, rfl, hbs, henv, zq, rfl⟩ := hpq.ok HQ.out HF.out; clear hpq; unfold Site.v
       obtain ⟨vv, bm, hblk, hown, hm, hbb, hbm⟩ := henv.bk
       have g7 := cell_of (i := 7) (v := .int .i64 p.1.day) hblk rfl
       have hlt := blk_lt hblk
       have hlt2 : bb < w.heap.size + 1 + zq.os.size := by simpa [ext_size] using hlt
       have hlt3 : bb < w.heap.size + 1 + zq.os.size + 1 := by omega
       clear hblk hown hm hbb hbm)
    | (go_at_call 38; refine (isDay_any _ _).mono ?_; rintro e wq ⟨rfl, rfl⟩; rw [hd])
    | (go_at_call 48; refine (lying_any base bb p.1 nm _ ((henv.keep (by repeat (first | exact B_refl | exact Below.refl _ _ | assumption | with_reducible refine B_alloc ?_ _ | with_reducible refine B_ext ?_ _ | with_reducible refine B_drew ?_ | with_reducible refine B_drewN ?_ _ | with_reducible refine B_set ?_ (by simp; omega) _))).bk) (by have := henv.l3; omega) hfw).mono ?_; rintro e wq ⟨v, L2, rfl, hp, hu, hH, z2, rfl⟩))
  obtain ⟨A3, c3, hv, hS⟩ := hH.sl
  subst hv
  have hxl := ly_len (nm := nm) hp
  have hxm := ly_mem (nm := nm) hp
  obtain ⟨X, hXd⟩ : ∃ X, X = (lvlSorted (hereL nm L2)).filter lies := ⟨_, rfl⟩
  rw [← hXd] at hxl hxm hH hS ⊢
  have HGA : Hid (∀ (e : Ending) (w' : World), EvsPost w (gaOf ss rs day X) e w' → GaPost w ss rs p nm day e w') := fun e w' h => .inr ⟨HX.out, L2, hp, hu, by rw [← hXd]; exact h⟩
  have hfs : ∀ l ∈ X, ∃ s, findSite l.site ss = some s := fun l hl => by
    have h2 := ((hxm l).1 hl).2.1
    unfold hereP at h2
    simp only [Bool.and_eq_true, beq_iff_eq] at h2
    rw [bytes_ext h2.2]
    exact ⟨s, HF.out⟩
  have hxl2 : X.length ≤ 100000 := by omega
  clear hXd hp hu hxm g7 hlt hlt2 hlt3
  replace hH := hH.base (m := w.heap.size) (by simp [ext_size]; omega)
  generalize hW1 : World.ext (World.alloc (World.ext (w.alloc (.cells #[.slice A n c, .slice R rn rc, .int .i64 c0, .int .i64 c1, .int .i64 c2] 26)) zq) (.cells #[.string s.name, .int .i64 s.kind, .int .i64 s.soil, .int .i64 s.depth, .int .i64 s.step, .int .i64 s.room] 78)) z2 = W1 at *
  have hB1 : Below w.heap.size w W1 := by rw [← hW1]; repeat (first | exact B_refl | exact Below.refl _ _ | assumption | with_reducible refine B_alloc ?_ _ | with_reducible refine B_ext ?_ _ | with_reducible refine B_drew ?_ | with_reducible refine B_drewN ?_ _ | with_reducible refine B_set ?_ (by simp; omega) _)
  have hre : Env W1 base bb p.1 ss rs := henv.keep (n := (World.ext (w.alloc (.cells #[.slice A n c, .slice R rn rc, .int .i64 c0, .int .i64 c1, .int .i64 c2] 26)) zq).heap.size) (by rw [← hW1]; repeat (first | exact B_refl | exact Below.refl _ _ | assumption | with_reducible refine B_alloc ?_ _ | with_reducible refine B_ext ?_ _ | with_reducible refine B_drew ?_ | with_reducible refine B_drewN ?_ _ | with_reducible refine B_set ?_ (by simp; omega) _))
  have hwB : w.heap.size ≤ w.heap.size := Nat.le_refl _
  clear hW1 henv hbs hev hy HW
  have HRST := fun W h1 h2 => resting_any base bb p.1 ss rs day X A3 c3 W h1 hxl2 h2 hfs
  have HG2 : Hid (gaOf ss rs day X = if X.any (restsOn ss rs day) then ([], 17) else (X.reverse.map (gatherEv day), 0)) := rfl
  generalize X.any (restsOn ss rs day) = rst at *
  cases rst
  · have HG3 : Hid (gaOf ss rs day X = (X.reverse.map (gatherEv day), 0)) := HG2.out
    clear HG2
    generalize gaOf ss rs day X = out at *
    go_wp2_with (go_at_call 49; refine (HRST _ (hS.keep (by repeat (first | exact B_refl | exact Below.refl _ _ | assumption | with_reducible refine B_alloc ?_ _ | with_reducible refine B_ext ?_ _ | with_reducible refine B_drew ?_ | with_reducible refine B_drewN ?_ _ | with_reducible refine B_set ?_ (by simp; omega) _))) (hre.keep (n := W1.heap.size) (by repeat (first | exact B_refl | exact Below.refl _ _ | assumption | with_reducible refine B_alloc ?_ _ | with_reducible refine B_ext ?_ _ | with_reducible refine B_drew ?_ | with_reducible refine B_drewN ?_ _ | with_reducible refine B_set ?_ (by simp; omega) _)))).mono ?_; rintro e wq ⟨rfl, z3, rfl⟩)
    refine (rev_any _ X w.heap.size _ (hH.keep (n := W1.heap.size) (by repeat (first | exact B_refl | exact Below.refl _ _ | assumption | with_reducible refine B_alloc ?_ _ | with_reducible refine B_ext ?_ _ | with_reducible refine B_drew ?_ | with_reducible refine B_drewN ?_ _ | with_reducible refine B_set ?_ (by simp; omega) _))) hxl2).mono ?_; rintro e wq ⟨rfl, hH3, hB3⟩
    have hBw := hB3 w (B_ext hB1 _) hwB
    obtain ⟨A4, c4, hv4, hS4⟩ := hH3.sl
    simp only [Value.slice.injEq] at hv4
    obtain ⟨rfl, _, rfl⟩ := hv4
    have hYl : X.reverse.length = X.length := List.length_reverse
    obtain ⟨Y, hY⟩ : ∃ Y, Y = X.reverse := ⟨_, rfl⟩
    rw [← hY] at hS4 HG3 hYl
    rw [← hYl]
    have hyl2 : Y.length ≤ 100000 := by omega
    clear hH3 hB3 hH hS hre HRST hY hYl hxl hxl2 hfs
    obtain ⟨W3, hW3⟩ : ∃ W3 : World, W3 = wq := ⟨_, rfl⟩
    rw [← hW3] at hBw hS4 ⊢
    clear hW3
    obtain ⟨N, hN⟩ : ∃ N, N = W3.heap.size := ⟨_, rfl⟩
    go_wp2_with fail
    go_loopw [14, 51] (fun v i wr => ∃ j : Nat, j ≤ Y.length ∧ i = .int .i64 j ∧ wr.ownsRow N 76 7 v ((Y.take j).map (gatherEv day)).length (((Y.take j).map (gatherEv day)).flatMap Event.cells) ∧ Below N W3 wr) (fun _ i _ => Y.length - (intOf i).toNat)
    case atStart => exact ⟨0, Nat.zero_le _, rfl, World.ownsRow_nil _ _ _ _, Below.refl _ _⟩
    case round =>
      obtain ⟨j, hj, rfl, hown, hBr⟩ := hrel
      have hwN : N ≤ wr.heap.size := by have := hBr.size; omega
      by_cases hjl : j < Y.length
      · obtain ⟨b, off, rfl, hb, hc0⟩ := hS4.at hjl
        have hc : ∀ i u, (Y[j].cells)[i]? = some u → wr.cell? ⟨b, off + j * 6 + i, none⟩ = some u := fun i u hu => (hBr.cell (p := ⟨b, off + j * 6 + i, none⟩) (by rw [hN]; exact hb)).trans (hc0 i u hu)
        have x0 : wr.cell? ⟨b, off + j * 6, none⟩ = some (.string Y[j].remain) := hc 0 _ rfl
        have x1 : wr.cell? ⟨b, off + j * 6 + 1, none⟩ = some (.int .i64 Y[j].state) := hc 1 _ rfl
        have x2 : wr.cell? ⟨b, off + j * 6 + 2, none⟩ = some (.string Y[j].site) := hc 2 _ rfl
        have x3 : wr.cell? ⟨b, off + j * 6 + 3, none⟩ = some (.int .i64 Y[j].level) := hc 3 _ rfl
        have x4 : wr.cell? ⟨b, off + j * 6 + 4, none⟩ = some (.int .i64 Y[j].container) := hc 4 _ rfl
        have x5 : wr.cell? ⟨b, off + j * 6 + 5, none⟩ = some (.int .i64 Y[j].since) := hc 5 _ rfl
        have ht : (Y.take (j + 1)).map (gatherEv day) = (Y.take j).map (gatherEv day) ++ [gatherEv day Y[j]] := by rw [List.take_succ_eq_append_getElem hjl, List.map_append]; rfl
        have HT := Lib.hid ht
        have hlt2 : (j : Int) < (Y.length : Int) := by omega
        have hdl : ((Y.take j).map (gatherEv day)).length ≤ 100000 := by rw [List.length_map, List.length_take]; omega
        clear hc hc0 ht
        generalize Y[j] = l at *
        generalize (Y.take j).map (gatherEv day) = dn at *
        obtain ⟨a0, a1, a2, a3, a4, a5⟩ := l
        dsimp only at x0 x1 x2 x3 x4 x5
        go_wp2_with (at_builtin; refine wpList_append_sl rfl _ _ rfl elEvent event_len event_one (base := N) (n := dn.length) (m := 1) (v := u14) rfl ((hown.alloc _).alloc _) rfl (ys := [⟨day, 4, ⟨#[]⟩, 0, a0, 0, false⟩]) rfl (sl_event (t := 76) (fr := (0, 0)) (G_new _ _ _ (by first | rfl | (simp [ext_size]; done)))) (by simp [maxLen]; omega) (by omega) (by simp; omega) ?_; intro v' w1 h1 h2 h3)
        have hown2 : w1.ownsRow N 76 7 v' (dn ++ [(⟨day, 4, ⟨#[]⟩, 0, a0, 0, false⟩ : Event)]).length ((dn ++ [(⟨day, 4, ⟨#[]⟩, 0, a0, 0, false⟩ : Event)]).flatMap Event.cells) := by simpa using h1
        have hB2 : Below N W3 w1 := below_own (B_alloc (B_alloc hBr _) _) ((hown.alloc _).alloc _) h2
        clear h1 h2 h3
        go_wp2_with fail
        go_roundw
        case rel => exact ⟨j + 1, by omega, by go_num, by rw [HT.out]; exact hown2, hB2⟩
        case measure => simp [intOf]; omega
      · have hje : j = Y.length := by omega
        subst hje
        rw [List.take_length] at hown
        go_wp2_with fail
        go_ret2
        refine HGA.out _ _ ?_
        rw [HG3.out]
        exact ⟨_, rfl, own_mono' hown (by have := hBw.size; omega), ext_below (hBw.trans (hBr.mono (by have := hBw.size; omega)))⟩
  · have HG3 : Hid (gaOf ss rs day X = ([], 17)) := HG2.out
    clear HG2
    generalize gaOf ss rs day X = out at *
    go_wp2_with (go_at_call 49; refine (HRST _ (hS.keep (by repeat (first | exact B_refl | exact Below.refl _ _ | assumption | with_reducible refine B_alloc ?_ _ | with_reducible refine B_ext ?_ _ | with_reducible refine B_drew ?_ | with_reducible refine B_drewN ?_ _ | with_reducible refine B_set ?_ (by simp; omega) _))) (hre.keep (n := W1.heap.size) (by repeat (first | exact B_refl | exact Below.refl _ _ | assumption | with_reducible refine B_alloc ?_ _ | with_reducible refine B_ext ?_ _ | with_reducible refine B_drew ?_ | with_reducible refine B_drewN ?_ _ | with_reducible refine B_set ?_ (by simp; omega) _)))).mono ?_; rintro e wq ⟨rfl, z3, rfl⟩)
    go_ret2
    refine HGA.out _ _ ?_
    rw [HG3.out]
    exact ListPost.none (by repeat (first | exact B_refl | exact Below.refl _ _ | assumption | with_reducible refine B_alloc ?_ _ | with_reducible refine B_ext ?_ _ | with_reducible refine B_drew ?_ | with_reducible refine B_drewN ?_ _ | with_reducible refine B_set ?_ (by simp; omega) _))
end Go.Proofs.YtpohkolapgofdaaGreat
namespace Go.Proofs.YtpohkolapgofdaaGreat
open Go.RowKit
attribute [local go_sem] World.cell?_alloc_mark ext_size ext_cell ext_frozen lt_add_r lt_add_r2 lt_add_r3 lt_add_r4 lt_add_r5 lt_add_r6 lt_add_r7 lt_add_r8

section
variable {c0 c1 c2 : Int} {ss : List Site} {rs : List Rest} {es : List Event}
theorem full_placed (h : rCheckP c0 c1 c2 ss rs es = 0) : ∀ l ∈ (rReplayP c0 c1 c2 ss rs es).1, PlacedS ss l := by
  intro l hl
  obtain ⟨h1, _, h3, _⟩ := (read_check ss rs none none 0 0 0 0 c0 c1 c2 es).2 h
  have hm := (h1.mem (l := l)).2 hl
  rw [h3] at hm
  unfold lotsNow at hm
  obtain ⟨s, hs, rfl⟩ := List.mem_map.1 hm
  have hs2 : s ∈ (addsP ss rs (bk0 none 0 0 none 0 0 c0 c1 c2) (es.take es.length)).1.st := by
    rw [List.take_length]
    exact (List.mem_filter.1 hs).1
  exact st_placed h none none 0 0 0 0 _ (Nat.le_refl _) s hs2
theorem full_apart (h : rCheckP c0 c1 c2 ss rs es = 0) : Apart (rReplayP c0 c1 c2 ss rs es).1 ∧ (rReplayP c0 c1 c2 ss rs es).1.length ≤ es.length := by
  obtain ⟨h1, _, h3, h4, h5, _⟩ := (read_check ss rs none none 0 0 0 0 c0 c1 c2 es).2 h
  obtain ⟨ls', r1, r2⟩ := one_adds (yard_rooms h5) es [] _ [] (rel0 none 0 0 none 0 0 c0 c1 c2 ss) (inv0 _ _ _ _ _ _ _ _ _ _) one0 h4
  rw [h3] at h1
  have : ls' = (rReplayP c0 c1 c2 ss rs es).1 := asc_mem r1.asc h1.asc fun x => by rw [← r1.mem, ← h1.mem]
  rw [← this]
  exact ⟨r2.apart, by simpa using r2.len⟩
end
theorem lies_of {nm : ByteArray} {l : Lot} (h : liesAt nm l = true) : l.state = 1 ∧ l.site = nm := by
  unfold liesAt at h
  simp only [Bool.and_eq_true, beq_iff_eq] at h
  exact ⟨h.1, bytes_ext h.2⟩
/-- At most one lies at a level. -/
theorem lvAt_one {ls : List Lot} (ha : Asc ls) (hp : Apart ls) (nm : ByteArray) (n : Int) : (lvAt nm n ls).reverse = lvAt nm n ls := by
  have hasc : (lvAt nm n ls).Pairwise fun a b => lessS a.remain b.remain = true := List.Pairwise.filter _ ha
  have hall : ∀ a ∈ lvAt nm n ls, ∀ b ∈ lvAt nm n ls, a = b := fun a ha' b hb' => by
    obtain ⟨a1, a2⟩ := List.mem_filter.1 ha'
    obtain ⟨b1, b2⟩ := List.mem_filter.1 hb'
    unfold liesLv at a2 b2
    simp only [Bool.and_eq_true, beq_iff_eq] at a2 b2
    obtain ⟨p1, p2⟩ := lies_of a2.1
    obtain ⟨q1, q2⟩ := lies_of b2.1
    exact hp a a1 b b1 p1 q1 (by rw [p2, q2]) (by rw [a2.2, b2.2])
  generalize lvAt nm n ls = X at *
  match X, hasc, hall with
  | [], _, _ => rfl
  | [a], _, _ => rfl
  | a :: b :: r, hasc, hall =>
    exfalso
    have h1 := (List.pairwise_cons.1 hasc).1 b (by simp)
    rw [hall a (by simp) b (by simp), lessS_irr] at h1
    cases h1
theorem ly_levels {ls : List Lot} {nm : ByteArray} {ss : List Site} {s : Site} (ha : Asc ls) (hP : ∀ l ∈ ls, PlacedS ss l) (hs : findSite nm ss = some s) (hr : s.room ≤ 12) :
    (lvlSorted (hereL nm ls)).filter lies = (List.range 12).flatMap fun (k : Nat) => lvAt nm (k : Int) ls := by
  unfold lvlSorted
  rw [sort_levels (L := hereL nm ls) (n := 12) (List.Pairwise.filter _ ha) fun l hl => by
    obtain ⟨h1, h2⟩ := List.mem_filter.1 hl
    obtain ⟨_, h3, h4⟩ := here_true (hP l h1) hs h2
    exact ⟨h3, by omega⟩]
  unfold byLevels
  rw [List.filter_flatMap]
  congr 1
  funext k
  unfold lvAt hereL
  rw [List.filter_filter, List.filter_filter]
  refine List.filter_congr fun l _ => ?_
  unfold liesLv
  rw [← lyAt_liesAt]
  unfold lyAt
  cases lies l <;> cases hereP l nm <;> simp
theorem ly_down {ls : List Lot} {nm : ByteArray} {ss : List Site} {s : Site} (ha : Asc ls) (hp : Apart ls) (hP : ∀ l ∈ ls, PlacedS ss l) (hs : findSite nm ss = some s) (hr : s.room ≤ 12) :
    ((lvlSorted (hereL nm ls)).filter lies).reverse = downP nm ls 12 := by
  rw [ly_levels ha hP hs hr]
  have h12 : List.range 12 = [0, 1, 2, 3, 4, 5, 6, 7, 8, 9, 10, 11] := rfl
  unfold downP
  rw [h12]
  simp only [List.flatMap_cons, List.flatMap_nil, List.reverse_append, lvAt_one ha hp, List.reverse_nil, List.append_nil, List.nil_append, List.append_assoc]
  rfl
theorem adds_last {ss : List Site} {rs : List Rest} : ∀ (es : List Event) (k : Bk), (addsP ss rs k es).2 = 0 → (addsP ss rs k es).1.day = ((es.getLast?).map (·.day)).getD k.day
  | [], _, _ => rfl
  | e :: l, k, h => by
    unfold addsP at h ⊢
    cases hq : ((errorP k ss rs e).2 != 0)
    · rw [hq, if_neg Bool.false_ne_true] at h
      rw [if_neg Bool.false_ne_true, adds_last l _ h]
      cases l with
      | nil => rfl
      | cons x r => rw [List.getLast?_cons_cons]; cases hx : (x :: r).getLast? with
        | none => simp at hx
        | some y => rfl
    · rw [hq, if_pos rfl] at h
      dsimp only at h
      simp [h] at hq
def gatherW (c0 c1 c2 : Int) (ss : List Site) (rs : List Rest) (es : List Event) (nm : ByteArray) (day : Int) : List Event × Int :=
  if rCheckP c0 c1 c2 ss rs es != 0 then ([], rCheckP c0 c1 c2 ss rs es) else if (findSite nm ss).isNone then ([], 6) else if !inR day 0 200000 then ([], 2) else rGatherW ss rs es (rReplayP c0 c1 c2 ss rs es).1 nm day
theorem still_rests {ss : List Site} {rs : List Rest} {day : Int} {l : Lot} (h : ∃ s, findSite l.site ss = some s) : restsOn ss rs day l = stillP ss rs day l := by
  rw [rests_over h]
  unfold stillP
  by_cases hd : day < rOverL ss rs l
  · have : ¬ rOverL ss rs l ≤ day := by omega
    simp [hd, this]
  · have : rOverL ss rs l ≤ day := by omega
    simp [hd, this]
theorem gather_of {c0 c1 c2 : Int} {ss : List Site} {rs : List Rest} {es : List Event} {nm : ByteArray} {day : Int} {k : Bk} {s : Site} {L : List Lot} (hR : Rel k (rReplayP c0 c1 c2 ss rs es).1 ss) (h : rCheckP c0 c1 c2 ss rs es = 0) (hs : findSite nm ss = some s)
    (hp : L.Perm (lotsNow k.st)) (hu : Up L) : gaOf ss rs day ((lvlSorted (hereL nm L)).filter lies) = rGatherP ss rs (rReplayP c0 c1 c2 ss rs es).1 nm day := by
  have hL := rel_all hR hp hu
  subst hL
  obtain ⟨_, _, _, _, h5, _⟩ := (read_check ss rs none none 0 0 0 0 c0 c1 c2 es).2 h
  have hroom := yard_rooms h5 s (findSite_mem hs)
  have hd := ly_down (hR.asc) (full_apart h).1 (full_placed h) hs hroom
  have hlies := hR.lies
  generalize (rReplayP c0 c1 c2 ss rs es).1 = ls at *
  have hX : ((lvlSorted (hereL nm ls)).filter lies).any (restsOn ss rs day) = (downP nm ls 12).any (stillP ss rs day) := by
    rw [← hd, List.any_reverse]
    rw [Bool.eq_iff_iff, List.any_eq_true, List.any_eq_true]
    have hfs : ∀ l ∈ (lvlSorted (hereL nm ls)).filter lies, ∃ s, findSite l.site ss = some s := fun l hl => by
      obtain ⟨h1, h2⟩ := List.mem_filter.1 hl
      have h3 := (List.mem_filter.1 ((lvlSorted_perm _).mem_iff.1 h1)).1
      have h4 : l.state = 1 := by unfold lies notLies at h2; simpa using h2
      obtain ⟨s', h5, _⟩ := hlies l h3 h4
      exact ⟨s', h5⟩
    constructor
    · rintro ⟨l, h1, h2⟩; exact ⟨l, h1, by rw [← still_rests (hfs l h1)]; exact h2⟩
    · rintro ⟨l, h1, h2⟩; exact ⟨l, h1, by rw [still_rests (hfs l h1)]; exact h2⟩
  unfold gaOf rGatherP
  rw [hX, hd]
theorem read_few {c0 c1 c2 : Int} {ss : List Site} {rs : List Rest} {es : List Event} (A R : Option Addr) (n c rn rc : Nat) (hf : es.length ≤ 16 ∨ 300 < es.length) (h : (readP ss rs (bk0 A n c R rn rc c0 c1 c2) es).2 = 0) : (lotsNow (readP ss rs (bk0 A n c R rn rc c0 c1 c2) es).1.st).length < 20 := by
  have h2 : rCheckP c0 c1 c2 ss rs es = 0 := by rw [← (read_check ss rs A R n c rn rc c0 c1 c2 es).1]; exact h
  obtain ⟨_, _, h3, _, _, h6⟩ := (read_check ss rs A R n c rn rc c0 c1 c2 es).2 h2
  rw [h3]
  have h4 := adds_len' (ss := ss) (rs := rs) es (bk0 A n c R rn rc c0 c1 c2)
  have h5 : (bk0 A n c R rn rc c0 c1 c2).st.length = 0 := rfl
  unfold lotsNow
  rw [List.length_map]
  have h7 := List.length_filter_le (fun s : Stay => decide (s.till < 0)) (addsP ss rs (bk0 A n c R rn rc c0 c1 c2) es).1.st
  omega
theorem gGatherAll_w (ss : List Site) (rs : List Rest) (A R : Option Addr) (n c rn rc : Nat) (c0 c1 c2 : Int) (es : List Event) (L : Option Addr) (ln lc : Nat) (nm : ByteArray) (day : Int) (w : World) (hy : YardIn w ss rs A n c R rn rc) (hev : EventsIn w es L ln) (hf : es.length ≤ 16 ∨ 300 < es.length) :
    Calls Tryz.prog 26 #[.agg #[.slice A n c, .slice R rn rc, .int .i64 c0, .int .i64 c1, .int .i64 c2], .slice L ln lc, .string nm, .int .i64 day] w (EvsPost w (gatherW c0 c1 c2 ss rs es nm day)) := by
  refine (gGatherAll_any ss rs A R n c rn rc c0 c1 c2 es L ln lc nm day w hy hev (read_few A R n c rn rc hf)).mono ?_
  intro e w' hpost
  have hrc := (read_check ss rs A R n c rn rc c0 c1 c2 es).1
  unfold gatherW
  unfold GaPost gaErr wsErr at hpost
  rw [hrc] at hpost
  cases hc : (rCheckP c0 c1 c2 ss rs es != 0)
  · have hc0 : rCheckP c0 c1 c2 ss rs es = 0 := by simpa using hc
    obtain ⟨hR, _, h3, h4, _⟩ := (read_check ss rs A R n c rn rc c0 c1 c2 es).2 hc0
    have hday := adds_last (ss := ss) (rs := rs) es (bk0 A n c R rn rc c0 c1 c2) h4
    rw [← h3] at hday
    rw [hc] at hpost
    cases hs : findSite nm ss with
    | none =>
      rw [hs] at hpost
      simp only [Bool.false_eq_true, if_false, Option.isSome_none, Option.isNone_none, if_true] at hpost ⊢
      rcases hpost with ⟨_, h⟩ | ⟨h, _⟩
      · exact h
      · simp at h
    | some s =>
      rw [hs] at hpost
      cases hd : inR day 0 200000
      · rw [hd] at hpost
        simp only [Bool.false_eq_true, if_false, Option.isSome_some, Option.isNone_some, if_true, Bool.not_false, bne_self_eq_false] at hpost ⊢
        rcases hpost with ⟨_, h⟩ | ⟨h, _⟩
        · exact h
        · simp at h
      · rw [hd] at hpost
        have hlate : decide (day < (readP ss rs (bk0 A n c R rn rc c0 c1 c2) es).1.day) = lateP es day := by
          rw [hday]
          unfold lateP
          cases hg : es.getLast? with
          | none =>
            have h0 : 0 ≤ day := by unfold inR at hd; simp only [Bool.and_eq_true, decide_eq_true_eq] at hd; exact hd.1
            have hb : (bk0 A n c R rn rc c0 c1 c2).day = 0 := rfl
            simp only [Option.map_none, Option.getD_none, hb]
            simp; omega
          | some x => rfl
        simp only [Bool.false_eq_true, if_false, Option.isSome_some, Option.isNone_some, if_true, Bool.not_true, bne_self_eq_false] at hpost ⊢
        unfold rGatherW
        rw [hlate] at hpost
        cases hl : lateP es day
        · rw [hl] at hpost
          simp only [Bool.false_eq_true, if_false] at hpost ⊢
          rcases hpost with ⟨h, _⟩ | ⟨_, L0, hp, hu, h⟩
          · exact absurd rfl h
          · rw [gather_of hR hc0 hs hp hu] at h
            exact h
        · rw [hl] at hpost
          simp only [if_true] at hpost ⊢
          rcases hpost with ⟨_, h⟩ | ⟨h, _⟩
          · exact h
          · simp at h
  · rw [hc] at hpost
    simp only [if_true, hc] at hpost ⊢
    rcases hpost with ⟨_, h⟩ | ⟨h, _⟩
    · exact h
    · simp [h] at hc
end Go.Proofs.YtpohkolapgofdaaGreat
namespace Go.Proofs.YtpohkolapgofdaaGreat
open Go.RowKit

theorem name_small {s : ByteArray} (h : isNameP s = true) : s.size ≤ 100000 := by
  unfold isNameP at h
  simp only [Bool.and_eq_true, decide_eq_true_eq] at h
  omega
def lastD : Int → List Event → Int
  | d, [] => d
  | _, e :: l => lastD e.day l
theorem lastD_snoc (e : Event) : ∀ (l : List Event) (d : Int), lastD d (l ++ [e]) = e.day
  | [], _ => rfl
  | x :: l, d => by
    rw [List.cons_append, lastD]
    exact lastD_snoc e l _
section
variable {c0 c1 c2 : Int} {ss : List Site} {rs : List Rest}
theorem go_append (gs : List Event) : ∀ (es : List Event) (ls : List Lot) (last : Int) (i : Nat), (rGoP c0 c1 c2 ss rs ls last i es).2.2 = 0 →
    rGoP c0 c1 c2 ss rs ls last i (es ++ gs) = rGoP c0 c1 c2 ss rs (rGoP c0 c1 c2 ss rs ls last i es).1 (lastD last es) (i + es.length) gs
  | [], ls, last, i, _ => rfl
  | e :: l, ls, last, i, h => by
    rw [List.cons_append, rGoP]
    rw [rGoP] at h ⊢
    cases hq : ((rNextP c0 c1 c2 ss rs ls last e).2 != 0)
    · rw [hq, if_neg Bool.false_ne_true] at h
      rw [if_neg Bool.false_ne_true, if_neg Bool.false_ne_true, go_append gs l _ _ _ h, lastD]
      congr 1
      simp only [List.length_cons]
      omega
    · rw [hq, if_pos rfl] at h
      dsimp only at h
      rw [h] at hq
      simp at hq
theorem go_names : ∀ (es : List Event) (ls : List Lot) (last : Int) (i : Nat), (∀ l ∈ ls, isNameP l.remain = true) → ∀ l ∈ (rGoP c0 c1 c2 ss rs ls last i es).1, isNameP l.remain = true
  | [], ls, _, _, h => h
  | e :: l, ls, last, i, h => by
    rw [rGoP]
    cases hq : ((rNextP c0 c1 c2 ss rs ls last e).2 != 0)
    · rw [if_neg Bool.false_ne_true]
      have h0 : (rNextP c0 c1 c2 ss rs ls last e).2 = 0 := by simpa using hq
      obtain ⟨h1, _, h3, _⟩ := next_ok h0
      refine go_names l _ _ _ fun x hx => ?_
      rw [h1] at hx
      rcases mem_with hx with rfl | hx
      · rw [lotP_remain]
        unfold checkEventP at h3
        cases hn : isNameP e.remain
        · rw [hn] at h3
          dsimp only at h3
          split at h3
          · simp at h3
          · split at h3
            · simp at h3
            · simp at h3
        · rfl
      · exact h x hx
    · rw [if_pos rfl]
      exact h
theorem occ_some {si : ByteArray} {n : Int} : ∀ {ls : List Lot}, rOccP si n ls = true → ∃ l ∈ ls, l.state = 1 ∧ l.site = si ∧ l.level = n
  | [], h => by cases h
  | x :: r, h => by
    unfold rOccP at h
    split at h
    · rename_i hx
      simp only [Bool.and_eq_true, beq_iff_eq] at hx
      exact ⟨x, by simp, hx.1.1, bytes_ext hx.1.2, hx.2⟩
    · obtain ⟨l, h1, h2⟩ := occ_some h
      exact ⟨l, by simp [h1], h2⟩
theorem cov_some {kd : Int} {nm : ByteArray} {ls : List Lot} : ∀ (f : Nat) (n : Int), rCovGo kd nm ls f n = true → ∃ m, n ≤ m ∧ rOccP nm m ls = true
  | 0, _, h => by cases h
  | f + 1, n, h => by
    unfold rCovGo at h
    split at h
    · rename_i hx
      simp only [Bool.and_eq_true] at hx
      exact ⟨n, Int.le_refl _, hx.2⟩
    · obtain ⟨m, h1, h2⟩ := cov_some f (n + 1) h
      exact ⟨m, by omega, h2⟩
/-- What still has to be gathered, from above down. -/
structure ToGo (nm : ByteArray) (day : Int) (ss : List Site) (rs : List Rest) (D ls : List Lot) : Prop where
  asc : Asc ls
  mem : ∀ l ∈ D, l ∈ ls
  here : ∀ l ∈ D, liesAt nm l = true
  all : ∀ l ∈ ls, liesAt nm l = true → l ∈ D
  down : D.Pairwise fun a b => b.level < a.level
  over : ∀ l ∈ D, stillP ss rs day l = false
  name : ∀ l ∈ D, isNameP l.remain = true
theorem gather_next {nm : ByteArray} {day : Int} {l : Lot} {D ls : List Lot} {s : Site} {last : Int} (h : ToGo nm day ss rs (l :: D) ls) (hs : findSite nm ss = some s) (hd : inR day 0 200000 = true) (hl : last ≤ day) :
    rNextP c0 c1 c2 ss rs ls last (gatherEv day l) = (rWithP ⟨l.remain, 2, ⟨#[]⟩, 0, 0, day⟩ ls, 0) ∧ ToGo nm day ss rs D (rWithP ⟨l.remain, 2, ⟨#[]⟩, 0, 0, day⟩ ls) := by
  have hlm := h.mem l (by simp)
  obtain ⟨hst, hsi⟩ := lies_of (h.here l (by simp))
  have hfl := findLot_of_mem h.asc hlm
  have hce : checkEventP (gatherEv day l) = 0 := by
    unfold checkEventP gatherEv
    dsimp only
    have e0 : (⟨#[]⟩ : ByteArray).toList.isEmpty = true := by decide +kernel
    rw [hd, h.name l (by simp)]
    simp [inR, e0]
  have hcov : rCovP s.kind s.name s.room l.level ls = false := by
    cases hq : rCovP s.kind s.name s.room l.level ls
    · rfl
    · exfalso
      obtain ⟨m, h1, h2⟩ := cov_some _ _ hq
      obtain ⟨x, hx, g1, g2, g3⟩ := occ_some h2
      have hxn : liesAt nm x = true := by
        unfold liesAt
        rw [g2, findSite_name hs]
        simp [g1]
      rcases List.mem_cons.1 (h.all x hx hxn) with rfl | hxD
      · omega
      · have := (List.pairwise_cons.1 h.down).1 x hxD
        omega
  have hov : ¬ day < wrap64 (l.since + restP s.soil l.container rs) := by
    have := h.over l (by simp)
    unfold stillP at this
    rw [rOverL_some (s := s) (by rw [hsi]; exact hs)] at this
    unfold restOverP at this
    exact of_decide_eq_false this
  have herr : rErrP c0 c1 c2 ss rs ls (gatherEv day l) = 0 := by
    unfold rErrP gatherEv
    dsimp only
    rw [if_neg (by decide)]
    unfold rTakeP
    rw [hfl]
    dsimp only
    rw [if_neg (by simp [hst]), hsi, hs]
    dsimp only
    unfold rLiesP
    rw [if_neg (by simp), if_neg (by simp), if_neg (by simp), hcov, if_neg Bool.false_ne_true, if_neg (by simpa using hov)]
  have hlot : rLotP ss ls (gatherEv day l) = ⟨l.remain, 2, ⟨#[]⟩, 0, 0, day⟩ := by
    unfold rLotP gatherEv
    rfl
  generalize hg : (⟨l.remain, 2, ⟨#[]⟩, 0, 0, day⟩ : Lot) = g at *
  have hgr : g.remain = l.remain := by rw [← hg]
  have hgs : g.state = 2 := by rw [← hg]
  refine ⟨?_, ?_⟩
  · unfold rNextP
    rw [hce, if_neg (by simp), if_neg (by simp only [decide_eq_true_eq]; show ¬ day < last; omega), herr, if_neg (by simp), hlot]
  have hne : ∀ x ∈ D, x.remain ≠ l.remain := fun x hx he => by
    have h1 := findLot_of_mem h.asc (h.mem x (by simp [hx]))
    rw [he, hfl] at h1
    have : l = x := Option.some.inj h1
    have h2 := (List.pairwise_cons.1 h.down).1 x hx
    rw [this] at h2
    omega
  have hasc := asc_with (l := g) h.asc
  refine ⟨hasc, fun x hx => ?_, fun x hx => h.here x (by simp [hx]), fun y hy hyl => ?_, (List.pairwise_cons.1 h.down).2, fun x hx => h.over x (by simp [hx]), fun x hx => h.name x (by simp [hx])⟩
  · have h1 := findLot_of_mem h.asc (h.mem x (by simp [hx]))
    have h2 := findLot_with (l := g) (nm := x.remain) h.asc
    rw [hgr, if_neg (by rw [beq_iff_eq]; exact fun e => hne x hx (bytes_ext e).symm), h1] at h2
    exact findLot_mem h2
  · obtain ⟨y1, y2⟩ := lies_of hyl
    rcases mem_with hy with rfl | hy2
    · rw [hgs] at y1; cases y1
    · rcases List.mem_cons.1 (h.all y hy2 hyl) with rfl | h3
      · exfalso
        have h1 := findLot_of_mem hasc hy
        have h2 := findLot_with (l := g) (nm := y.remain) h.asc
        rw [hgr, if_pos (by simp), h1] at h2
        have : y = g := Option.some.inj h2
        rw [this, hgs] at y1
        cases y1
      · exact h3
theorem gather_go {nm : ByteArray} {day : Int} {s : Site} (hs : findSite nm ss = some s) (hd : inR day 0 200000 = true) : ∀ (D ls : List Lot) (last : Int) (i : Nat), ToGo nm day ss rs D ls → last ≤ day →
    ∃ ls', rGoP c0 c1 c2 ss rs ls last i (D.map (gatherEv day)) = (ls', i + D.length, 0) ∧ (∀ l ∈ ls', liesAt nm l = false) ∧ ls'.length ≤ ls.length + D.length
  | [], ls, last, i, h, _ => ⟨ls, rfl, fun l hl => by
      cases hq : liesAt nm l
      · rfl
      · have := h.all l hl hq
        simp at this, by simp⟩
  | l :: D, ls, last, i, h, hl => by
    obtain ⟨h1, h2⟩ := gather_next (c0 := c0) (c1 := c1) (c2 := c2) h hs hd hl
    obtain ⟨ls', g1, g2, g3⟩ := gather_go hs hd D _ day (i + 1) h2 (Int.le_refl _)
    refine ⟨ls', ?_, g2, ?_⟩
    · rw [List.map_cons, rGoP, h1]
      rw [if_neg (by simp)]
      show rGoP c0 c1 c2 ss rs _ day (i + 1) _ = _
      rw [g1]
      simp only [List.length_cons]
      congr 2
      omega
    · have := len_with ⟨l.remain, 2, ⟨#[]⟩, 0, 0, day⟩ ls
      simp only [List.length_cons]
      omega
theorem toGo_of {es : List Event} {nm : ByteArray} {day : Int} {s : Site} (h : rCheckP c0 c1 c2 ss rs es = 0) (hs : findSite nm ss = some s) (hq : (downP nm (rReplayP c0 c1 c2 ss rs es).1 12).any (stillP ss rs day) = false) :
    ToGo nm day ss rs (downP nm (rReplayP c0 c1 c2 ss rs es).1 12) (rReplayP c0 c1 c2 ss rs es).1 := by
  obtain ⟨hR, _, _, _, h5, h6⟩ := (read_check ss rs none none 0 0 0 0 c0 c1 c2 es).2 h
  have hnames : ∀ l ∈ (rReplayP c0 c1 c2 ss rs es).1, isNameP l.remain = true := by
    unfold rReplayP
    rw [if_neg (by simp; omega)]
    exact go_names es [] 0 0 fun _ h => by cases h
  have hroom := yard_rooms h5 s (findSite_mem hs)
  have hlies := hR.lies
  have hasc := hR.asc
  have hap := (full_apart h).1
  generalize (rReplayP c0 c1 c2 ss rs es).1 = ls at *
  have hmem : ∀ l ∈ downP nm ls 12, l ∈ ls ∧ liesAt nm l = true := fun l hl => by
    obtain ⟨k, _, h2⟩ := List.mem_flatMap.1 hl
    obtain ⟨h3, h4⟩ := List.mem_filter.1 h2
    unfold liesLv at h4
    simp only [Bool.and_eq_true] at h4
    exact ⟨h3, h4.1⟩
  refine ⟨hasc, fun l hl => (hmem l hl).1, fun l hl => (hmem l hl).2, fun l hl hll => ?_, ?_, fun l hl => ?_, fun l hl => hnames l (hmem l hl).1⟩
  · obtain ⟨h1, h2⟩ := lies_of hll
    obtain ⟨s', h3, h4, h7⟩ := hlies l hl h1
    rw [h2, hs] at h3
    cases h3
    obtain ⟨q, hq2⟩ : ∃ q : Nat, l.level = (q : Int) := ⟨l.level.toNat, by omega⟩
    refine downP_mem (m := 11 - q) (by omega) hl ?_
    unfold liesLv
    rw [hll, hq2]
    simp
    omega
  · unfold downP
    refine List.pairwise_flatMap.2 ⟨fun k _ => ?_, ?_⟩
    · have hone := lvAt_one hasc hap nm (11 - (k : Int))
      have hasc2 : (lvAt nm (11 - (k : Int)) ls).Pairwise fun a b => lessS a.remain b.remain = true := List.Pairwise.filter _ hasc
      have hrev := List.pairwise_reverse.2 hasc2
      rw [hone] at hrev
      refine (hasc2.and hrev).imp fun {a b} hab => ?_
      have := lessS_trans hab.1 hab.2
      rw [lessS_irr] at this
      cases this
    · refine List.pairwise_lt_range.imp fun {a b} hab x hx y hy => ?_
      obtain ⟨_, h2⟩ := List.mem_filter.1 hx
      obtain ⟨_, h3⟩ := List.mem_filter.1 hy
      unfold liesLv at h2 h3
      simp only [Bool.and_eq_true, beq_iff_eq] at h2 h3
      rw [h2.2, h3.2]
      omega
  · have := List.any_eq_false.1 hq l hl
    simpa using this
theorem late_last {es : List Event} {day : Int} (hd : inR day 0 200000 = true) (h : lateP es day = false) : lastD 0 es ≤ day := by
  rcases List.eq_nil_or_concat es with rfl | ⟨l, x, rfl⟩
  · unfold inR at hd
    simp only [Bool.and_eq_true, decide_eq_true_eq] at hd
    exact hd.1
  · rw [List.concat_eq_append] at h ⊢
    rw [lastD_snoc]
    unfold lateP at h
    simpa using h
/-- The gatherings are accepted behind the events; nothing lies there then. -/
theorem gathers_law {es gs : List Event} {nm : ByteArray} {day : Int} {s : Site} (h : rCheckP c0 c1 c2 ss rs es = 0) (hf : es.length ≤ 16 ∨ 300 < es.length) (hs : findSite nm ss = some s) (hd : inR day 0 200000 = true)
    (hg : rGatherW ss rs es (rReplayP c0 c1 c2 ss rs es).1 nm day = (gs, 0)) :
    ∃ ls', replayW c0 c1 c2 ss rs (es ++ gs) = (ls', (es ++ gs).length, 0) ∧ (∀ l ∈ ls', liesAt nm l = false) ∧ ls'.length ≤ 1000 ∧ gs.length ≤ 200 ∧ ∀ e ∈ gs, e.site.size ≤ 100000 ∧ e.remain.size ≤ 100000 := by
  obtain ⟨hR, _, _, _, h5, h6⟩ := (read_check ss rs none none 0 0 0 0 c0 c1 c2 es).2 h
  unfold rGatherW at hg
  cases hl : lateP es day
  rotate_left
  · rw [hl, if_pos rfl] at hg; simp at hg
  rw [hl, if_neg Bool.false_ne_true] at hg
  unfold rGatherP at hg
  cases hq : (downP nm (rReplayP c0 c1 c2 ss rs es).1 12).any (stillP ss rs day)
  rotate_left
  · rw [hq, if_pos rfl] at hg; simp at hg
  rw [hq, if_neg Bool.false_ne_true] at hg
  have hgs : gs = (downP nm (rReplayP c0 c1 c2 ss rs es).1 12).map (gatherEv day) := (Prod.mk.inj hg).1.symm
  have hT := toGo_of h hs hq
  have hlen := (full_apart h).2
  have hdl := downP_le nm (rReplayP c0 c1 c2 ss rs es).1 12
  have hrep : rReplayP c0 c1 c2 ss rs es = rGoP c0 c1 c2 ss rs [] 0 0 es := by
    unfold rReplayP
    rw [if_neg (by simp; omega)]
  have h0 : (rGoP c0 c1 c2 ss rs [] 0 0 es).2.2 = 0 := by
    rw [← hrep]
    unfold rCheckP at h
    rw [h5] at h
    simpa using h
  generalize hD : downP nm (rReplayP c0 c1 c2 ss rs es).1 12 = D at *
  have hgl : gs.length = D.length := by rw [hgs, List.length_map]
  obtain ⟨ls', g1, g2, g3⟩ := gather_go (c0 := c0) (c1 := c1) (c2 := c2) hs hd D (rReplayP c0 c1 c2 ss rs es).1 (lastD 0 es) es.length hT (late_last hd hl)
  refine ⟨ls', ?_, g2, by omega, by omega, fun e he => ?_⟩
  rotate_left
  · rw [hgs] at he
    obtain ⟨l, hl, rfl⟩ := List.mem_map.1 he
    have := name_small (hT.name l hl)
    exact ⟨by show (⟨#[]⟩ : ByteArray).size ≤ 100000; decide, this⟩
  have hbig : ¬ 300 < ((es ++ gs).length : Int) := by rw [List.length_append]; omega
  unfold replayW
  rw [h5, if_neg (by simp)]
  have e1 : rReplayP c0 c1 c2 ss rs (es ++ gs) = rGoP c0 c1 c2 ss rs [] 0 0 (es ++ gs) := by
    unfold rReplayP
    rw [if_neg (by simpa using hbig)]
  rw [e1, go_append gs es [] 0 0 h0, ← hrep, Nat.zero_add, hgs, g1]
  simp
end
end Go.Proofs.YtpohkolapgofdaaGreat
