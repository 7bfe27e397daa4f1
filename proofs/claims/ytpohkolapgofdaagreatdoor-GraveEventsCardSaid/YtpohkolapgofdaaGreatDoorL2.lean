/- Walk: the site with a name in a checked yard. -/
/- Walks: a rest, a depth, what a level takes. -/
/- Walks of the reference: the number of a site, a rest, a depth, what a level takes. -/
import Derived.Test.YtpohkolapgofdaaGreatDoorW2
namespace Go.Proofs.YtpohkolapgofdaaGreatDoor
open Go.RowKit
attribute [local go_sem] World.cell?_alloc_mark ext_size ext_cell ext_frozen lt_add_r lt_add_r2 lt_add_r3 lt_add_r4 lt_add_r5 lt_add_r6 lt_add_r7 lt_add_r8
attribute [local go_sem] ext_setCell alloc_setCell_lt

def zeroSite : Site := ⟨⟨#[]⟩, 0, 0, 0, 0, 0⟩
def findR (ss : List Site) (rs : List Rest) (c0 c1 c2 : Int) (nm : ByteArray) : Site × Int :=
  if checkYardP ss rs c0 c1 c2 != 0 then (zeroSite, checkYardP ss rs c0 c1 c2) else
  match findSite nm ss with
  | none => (zeroSite, 6)
  | some s => (s, 0)
theorem findSite_mem {nm : ByteArray} {s : Site} : ∀ {ss : List Site}, findSite nm ss = some s → s ∈ ss
  | [], h => by cases h
  | x :: l, h => by
    unfold findSite at h
    split at h
    · simp only [Option.some.injEq] at h
      subst h
      simp
    · exact List.mem_cons_of_mem _ (findSite_mem h)
theorem sitesP_good {T : Int} : ∀ {l d : List Site}, sitesP T d l = 0 → ∀ s ∈ l, checkSiteP s.name s.kind s.soil s.depth s.step s.room = 0
  | [], _, _, _, h => by cases h
  | x :: l, d, h, s, hs => by
    unfold sitesP at h
    split at h
    · rename_i hx
      rw [h] at hx
      simp at hx
    rename_i hx
    split at h
    · simp at h
    · rcases List.mem_cons.1 hs with rfl | hs
      · simpa using hx
      · exact sitesP_good h s hs
theorem checkSite_room {nm : ByteArray} {k so d st r : Int} (h : checkSiteP nm k so d st r = 0) : 1 ≤ r ∧ r ≤ 12 ∧ 0 ≤ k ∧ k ≤ 3 ∧ 0 ≤ d ∧ d ≤ 1000 ∧ 0 ≤ st ∧ st ≤ 300 := by
  unfold checkSiteP at h
  split at h
  · simp at h
  split at h
  · simp at h
  rename_i h1
  split at h
  · simp at h
  rename_i h2
  simp [inR] at h1 h2
  omega
theorem yard_room {ss : List Site} {rs : List Rest} {c0 c1 c2 : Int} (h : checkYardP ss rs c0 c1 c2 = 0) : ∀ s ∈ ss, checkSiteP s.name s.kind s.soil s.depth s.step s.room = 0 := by
  unfold checkYardP at h
  split at h
  · simp at h
  · exact sitesP_good h
theorem findR_room {ss : List Site} {rs : List Rest} {c0 c1 c2 : Int} {nm : ByteArray} {s : Site} (h : findR ss rs c0 c1 c2 nm = (s, 0)) : 1 ≤ s.room ∧ s.room ≤ 12 := by
  unfold findR at h
  split at h
  · rename_i hx
    simp only [Prod.mk.injEq] at h
    rw [h.2] at hx
    simp at hx
  rename_i hx
  split at h
  · simp at h
  · rename_i s' hs
    simp only [Prod.mk.injEq] at h
    rw [← h.1]
    have := checkSite_room (yard_room (by simpa using hx) s' (findSite_mem hs))
    omega

theorem results_site {fn : Func} {p u : Tmp} (h : fn.results = #[.cell p 81, .tmp u]) (tmps : Array Value) (w : World) (B : Nat) (a : ByteArray) (k so d st r : Int) (x : Value) (hp : tmps.getD p undef = .pointer (some ⟨B, 0, none⟩)) (hx : tmps.getD u undef = x)
    (h0 : w.cell? ⟨B, 0, none⟩ = some (.string a)) (h1 : w.cell? ⟨B, 1, none⟩ = some (.int .i64 k)) (h2 : w.cell? ⟨B, 2, none⟩ = some (.int .i64 so)) (h3 : w.cell? ⟨B, 3, none⟩ = some (.int .i64 d))
    (h4 : w.cell? ⟨B, 4, none⟩ = some (.int .i64 st)) (h5 : w.cell? ⟨B, 5, none⟩ = some (.int .i64 r)) : (results fn tmps).run Tryz.prog w = .ok (.tuple #[.agg #[.string a, .int .i64 k, .int .i64 so, .int .i64 d, .int .i64 st, .int .i64 r], x]) w := by
  rw [results_cell_tmp h, hp, hx]
  go_simp

end Go.Proofs.YtpohkolapgofdaaGreatDoor
namespace Go.Proofs.YtpohkolapgofdaaGreatDoor
open Go.RowKit
attribute [local go_sem] World.cell?_alloc_mark ext_size ext_cell ext_frozen lt_add_r lt_add_r2 lt_add_r3 lt_add_r4 lt_add_r5 lt_add_r6 lt_add_r7 lt_add_r8
attribute [local go_sem] ext_setCell alloc_setCell_lt

def restOfR (p : Site × Int) (rs : List Rest) (co : Int) : Int × Int := if p.2 != 0 then (0, p.2) else if !inR co 0 2 then (0, 2) else (restP p.1.soil co rs, 0)
def depthOfR (p : Site × Int) (l : Int) : Int × Int := if p.2 != 0 then (0, p.2) else if !inR l 0 (p.1.room - 1) then (0, 2) else (depthP p.1.kind p.1.depth p.1.step l, 0)
def takesR (c0 c1 c2 : Int) (p : Site × Int) (l co : Int) : Bool × Int := if (depthOfR p l).2 != 0 then (false, (depthOfR p l).2) else if !inR co 0 2 then (false, 2) else (takesP c0 c1 c2 p.1.kind p.1.depth p.1.step l co, 0)

theorem depthOfR_zero {p : Site × Int} {l : Int} (h : ((depthOfR p l).2 != 0) = false) : p.2 = 0 := by
  unfold depthOfR at h
  split at h
  · simp_all
  · simp_all
theorem findR_zero {ss : List Site} {rs : List Rest} {c0 c1 c2 : Int} {nm : ByteArray} {s : Site} (h : findR ss rs c0 c1 c2 nm = (s, 0)) : findSite nm ss = some s := by
  unfold findR at h
  split at h
  · rename_i hx
    simp only [Prod.mk.injEq] at h
    rw [h.2] at hx
    simp at hx
  split at h
  · simp at h
  · rename_i s' hs
    simp only [Prod.mk.injEq] at h
    rw [← h.1]
    exact hs
def ret2b (p : Bool × Int) : Value := .tuple #[.bool p.1, .int .i64 p.2]

end Go.Proofs.YtpohkolapgofdaaGreatDoor
namespace Go.Proofs.YtpohkolapgofdaaGreatDoor
open Go.RowKit
attribute [local go_sem] World.cell?_alloc_mark ext_size ext_cell ext_frozen lt_add_r lt_add_r2 lt_add_r3 lt_add_r4 lt_add_r5 lt_add_r6 lt_add_r7 lt_add_r8

def rSiteR (nm : ByteArray) (ss : List Site) : Int := match siteIdx nm ss 0 with | none => -1 | some k => (k : Int)
set_option maxRecDepth 100000 in
set_option maxHeartbeats 2000000 in
theorem rSite_any (ss : List Site) (rs : List Rest) (A R : Option Addr) (n c rn rc : Nat) (c0 c1 c2 : Int) (nm : ByteArray) (w : World) (hy : YardIn w ss rs A n c R rn rc) :
    Calls Tryz.prog 120 #[.agg #[.slice A n c, .slice R rn rc, .int .i64 c0, .int .i64 c1, .int .i64 c2], .string nm] w (Ret w (.int .i64 (rSiteR nm ss))) := by
  have hln := hy.hn
  have hl1 := hy.l1
  subst hln
  unfold rSiteR
  generalize hT : siteIdx nm ss 0 = T
  have HT := Lib.hid hT
  clear hT
  generalize hV : (match T with | none => (-1 : Int) | some k => (k : Int)) = V
  have HV := Lib.hid hV
  clear hV
  go_enter Tryz.func120, Tryz.ntmps120
  go_wp2_with fail
  go_loop [5] (fun i => ∃ k : Nat, k ≤ ss.length ∧ i = .int .i64 k ∧ T = siteIdx nm (ss.drop k) k) (fun i => ss.length - (intOf i).toNat)
  case atStart => exact ⟨0, Nat.zero_le _, rfl, HT.out.symm⟩
  case round =>
    obtain ⟨k, hk, rfl, hf⟩ := hrel
    by_cases hlt : k < ss.length
    · rw [List.drop_eq_getElem_cons hlt, siteIdx] at hf
      obtain ⟨b, off, rfl, hb, hc⟩ := hy.sl.at hlt
      have h0 : w.cell? ⟨b, off + k * 6, none⟩ = some (.string ss[k].name) := hc 0 _ rfl
      have HF := Lib.hid hf
      have hlt2 : (k : Int) < (ss.length : Int) := by omega
      clear hc hf
      go_wp2_with fail
      · go_ret
        refine Ret.of (int_eq ?_) (by repeat (first | exact B_refl | exact Below.refl _ _ | assumption | with_reducible refine B_alloc ?_ _ | with_reducible refine B_ext ?_ _ | with_reducible refine B_drew ?_ | with_reducible refine B_drewN ?_ _ | with_reducible refine B_set ?_ (by simp; omega) _))
        rw [← HV.out, HF.out, if_pos (by assumption)]
      · go_round
        case rel => exact ⟨k + 1, by omega, by go_num, by rw [HF.out, if_neg (by simp_all)]⟩
        case measure => simp [intOf]; omega
    · rw [List.drop_eq_nil_of_le (by omega), siteIdx] at hf
      have HF := Lib.hid hf
      clear hf
      go_wp2_with fail
      go_ret
      refine Ret.of (int_eq ?_) (by repeat (first | exact B_refl | exact Below.refl _ _ | assumption | with_reducible refine B_alloc ?_ _ | with_reducible refine B_ext ?_ _ | with_reducible refine B_drew ?_ | with_reducible refine B_drewN ?_ _ | with_reducible refine B_set ?_ (by simp; omega) _))
      rw [← HV.out, HF.out]

set_option maxRecDepth 100000 in
set_option maxHeartbeats 2000000 in
theorem rRest_any (ss : List Site) (rs : List Rest) (A R : Option Addr) (n c rn rc : Nat) (c0 c1 c2 : Int) (nm : ByteArray) (k so d st r co : Int) (w : World) (hy : YardIn w ss rs A n c R rn rc) :
    Calls Tryz.prog 123 #[.agg #[.slice A n c, .slice R rn rc, .int .i64 c0, .int .i64 c1, .int .i64 c2], .agg #[.string nm, .int .i64 k, .int .i64 so, .int .i64 d, .int .i64 st, .int .i64 r], .int .i64 co] w (Ret w (.int .i64 (restP so co rs))) := by
  have hln := hy.hrn
  have hl1 := hy.l2
  subst hln
  generalize hT : restP so co rs = T
  have HT := Lib.hid hT
  clear hT
  go_enter Tryz.func123, Tryz.ntmps123
  go_wp2_with fail
  obtain ⟨W0, hW0⟩ : ∃ W0, W0 = (w.alloc (.cells #[.slice A n c, .slice R rs.length rc, .int .i64 c0, .int .i64 c1, .int .i64 c2] 40)).alloc (.cells #[.string nm, .int .i64 k, .int .i64 so, .int .i64 d, .int .i64 st, .int .i64 r] 81) := ⟨_, rfl⟩
  rw [← hW0]
  have hB : Below w.heap.size w W0 := by rw [hW0]; repeat (first | exact B_refl | exact Below.refl _ _ | assumption | with_reducible refine B_alloc ?_ _ | with_reducible refine B_ext ?_ _ | with_reducible refine B_drew ?_ | with_reducible refine B_drewN ?_ _ | with_reducible refine B_set ?_ (by simp; omega) _)
  have g1 : W0.cell? ⟨w.heap.size + 1, 2, none⟩ = some (.int .i64 so) := by rw [hW0]; simp [go_sem]
  have g2 : W0.cell? ⟨w.heap.size, 1, none⟩ = some (.slice R rs.length rc) := by rw [hW0]; simp [go_sem]
  have hz : w.heap.size + 1 < W0.heap.size := by rw [hW0]; simp
  have hz0 : w.heap.size < W0.heap.size := by omega
  clear hW0
  go_loopw [7] (fun i wr => ∃ k : Nat, k ≤ rs.length ∧ i = .int .i64 k ∧ T = restP so co (rs.drop k) ∧ ∃ z, wr = W0.ext z) (fun i _ => rs.length - (intOf i).toNat)
  case atStart => exact ⟨0, Nat.zero_le _, rfl, HT.out.symm, ext_below (Below.refl _ _)⟩
  case round =>
    obtain ⟨k, hk, rfl, hf, z, rfl⟩ := hrel
    by_cases hlt : k < rs.length
    · rw [List.drop_eq_getElem_cons hlt, restP] at hf
      obtain ⟨b, off, rfl, hb, hc⟩ := (hy.sr.keep (n := w.heap.size) hB).at hlt
      have h0 : W0.cell? ⟨b, off + k * 3, none⟩ = some (.int .i64 rs[k].soil) := hc 0 _ rfl
      have h1 : W0.cell? ⟨b, off + k * 3 + 1, none⟩ = some (.int .i64 rs[k].container) := hc 1 _ rfl
      have h2 : W0.cell? ⟨b, off + k * 3 + 2, none⟩ = some (.int .i64 rs[k].days) := hc 2 _ rfl
      have HF := Lib.hid hf
      have hlt2 : (k : Int) < (rs.length : Int) := by omega
      clear hc hf
      generalize rs[k] = s at *
      obtain ⟨s1, s2, s3⟩ := s
      dsimp only at h0 h1 h2 HF
      cases hs : (s1 == so)
      · go_wp2_with fail
        (refine wp_region_ext_lit (by kernel_rfl) (by kernel_rfl) ?_
         repeat (first | go_big_quiet_skip | (go_big_quiet_want; go_big_quiet_op; first | go_big_quiet_on | (apply Exists.intro; refine ⟨fun _ => ?_, ?_⟩; (fail); go_big_quiet_on)))
         refine wpQuiet_nil ?_
         rintro _ ⟨zq, rfl⟩)
        go_wp2_with fail
        go_roundw
        case rel => exact ⟨k + 1, by omega, by go_num, by rw [HF.out, if_neg (by simp [hs])], ext_below (by repeat (first | exact B_refl | exact Below.refl _ _ | assumption | with_reducible refine B_alloc ?_ _ | with_reducible refine B_ext ?_ _ | with_reducible refine B_drew ?_ | with_reducible refine B_drewN ?_ _ | with_reducible refine B_set ?_ (by simp; omega) _))⟩
        case measure => simp [intOf]; omega
      · cases hs2 : (s2 == co)
        · go_wp2_with fail
          (refine wp_region_ext_lit (by kernel_rfl) (by kernel_rfl) ?_
           repeat (first | go_big_quiet_skip | (go_big_quiet_want; go_big_quiet_op; first | go_big_quiet_on | (apply Exists.intro; refine ⟨fun _ => ?_, ?_⟩; (fail); go_big_quiet_on)))
           refine wpQuiet_nil ?_
           rintro _ ⟨zq, rfl⟩)
          go_wp2_with fail
          go_roundw
          case rel => exact ⟨k + 1, by omega, by go_num, by rw [HF.out, if_neg (by simp [hs2])], ext_below (by repeat (first | exact B_refl | exact Below.refl _ _ | assumption | with_reducible refine B_alloc ?_ _ | with_reducible refine B_ext ?_ _ | with_reducible refine B_drew ?_ | with_reducible refine B_drewN ?_ _ | with_reducible refine B_set ?_ (by simp; omega) _))⟩
          case measure => simp [intOf]; omega
        · go_wp2_with fail
          (refine wp_region_ext_lit (by kernel_rfl) (by kernel_rfl) ?_
           repeat (first | go_big_quiet_skip | (go_big_quiet_want; go_big_quiet_op; first | go_big_quiet_on | (apply Exists.intro; refine ⟨fun _ => ?_, ?_⟩; (fail); go_big_quiet_on)))
           refine wpQuiet_nil ?_
           rintro _ ⟨zq, rfl⟩)
          go_wp2_with fail
          go_ret
          exact Ret.of (int_eq (by rw [HF.out, if_pos (by simp [hs, hs2])])) (by repeat (first | exact B_refl | exact Below.refl _ _ | assumption | with_reducible refine B_alloc ?_ _ | with_reducible refine B_ext ?_ _ | with_reducible refine B_drew ?_ | with_reducible refine B_drewN ?_ _ | with_reducible refine B_set ?_ (by simp; omega) _))
    · rw [List.drop_eq_nil_of_le (by omega), restP] at hf
      have HF := Lib.hid hf
      clear hf
      go_wp2_with fail
      go_ret
      exact Ret.of (int_eq (by rw [HF.out])) (by repeat (first | exact B_refl | exact Below.refl _ _ | assumption | with_reducible refine B_alloc ?_ _ | with_reducible refine B_ext ?_ _ | with_reducible refine B_drew ?_ | with_reducible refine B_drewN ?_ _ | with_reducible refine B_set ?_ (by simp; omega) _))

set_option maxRecDepth 100000 in
set_option maxHeartbeats 2000000 in
theorem rDepth_any (nm : ByteArray) (k so d st r l : Int) (w : World) :
    Calls Tryz.prog 149 #[.agg #[.string nm, .int .i64 k, .int .i64 so, .int .i64 d, .int .i64 st, .int .i64 r], .int .i64 l] w (Ret w (.int .i64 (wrap64 (d - wrap64 (st * l))))) := by
  go_enter Tryz.func149, Tryz.ntmps149
  go_wp2_with fail
  go_ret
  exact Ret.of rfl (by repeat (first | exact B_refl | exact Below.refl _ _ | assumption | with_reducible refine B_alloc ?_ _ | with_reducible refine B_ext ?_ _ | with_reducible refine B_drew ?_ | with_reducible refine B_drewN ?_ _ | with_reducible refine B_set ?_ (by simp; omega) _))

set_option maxRecDepth 100000 in
set_option maxHeartbeats 2000000 in
theorem rTakes_any (A R : Option Addr) (n c rn rc : Nat) (c0 c1 c2 : Int) (nm : ByteArray) (k so d st r l co : Int) (w : World) (hco : 0 ≤ co) (hco2 : co ≤ 2) :
    Calls Tryz.prog 139 #[.agg #[.slice A n c, .slice R rn rc, .int .i64 c0, .int .i64 c1, .int .i64 c2], .agg #[.string nm, .int .i64 k, .int .i64 so, .int .i64 d, .int .i64 st, .int .i64 r], .int .i64 l, .int .i64 co] w (Ret w (.bool (takesP c0 c1 c2 k d st l co))) := by
  go_enter Tryz.func139, Tryz.ntmps139
  by_cases hk : k = 0
  · subst hk
    by_cases h2 : co = 2
    · subst h2
      have hd : ((2 : Int) != 2) = false := rfl
      go_wp2_with fail
      go_quiet (fail)
      go_wp2_with fail
      go_ret
      exact Ret.of rfl (by repeat (first | exact B_refl | exact Below.refl _ _ | assumption | with_reducible refine B_alloc ?_ _ | with_reducible refine B_ext ?_ _ | with_reducible refine B_drew ?_ | with_reducible refine B_drewN ?_ _ | with_reducible refine B_set ?_ (by simp; omega) _))
    · have h01 : co = 0 ∨ co = 1 := by omega
      rcases h01 with rfl | rfl
      all_goals
       go_wp2_with fail
       (refine wp_region_ext_lit (by kernel_rfl) (by kernel_rfl) ?_
        repeat (first | go_big_quiet_skip | (go_big_quiet_want; go_big_quiet_op; first | go_big_quiet_on | (apply Exists.intro; refine ⟨fun _ => ?_, ?_⟩; (go_at_call 149; exact quietx (rDepth_any _ _ _ _ _ _ _ _)); go_big_quiet_on)))
        refine wpQuiet_nil ?_
        rintro _ ⟨zq, rfl⟩)
       go_wp2_with fail
       go_ret
       exact Ret.of (bool_eq (by simp [takesP, coverOf, depthP])) (by repeat (first | exact B_refl | exact Below.refl _ _ | assumption | with_reducible refine B_alloc ?_ _ | with_reducible refine B_ext ?_ _ | with_reducible refine B_drew ?_ | with_reducible refine B_drewN ?_ _ | with_reducible refine B_set ?_ (by simp; omega) _))
  · go_wp2_with fail
    all_goals go_ret
    all_goals refine Ret.of (bool_eq ?_) (by repeat (first | exact B_refl | exact Below.refl _ _ | assumption | with_reducible refine B_alloc ?_ _ | with_reducible refine B_ext ?_ _ | with_reducible refine B_drew ?_ | with_reducible refine B_drewN ?_ _ | with_reducible refine B_set ?_ (by simp; omega) _))
    all_goals go_tidy
    all_goals simp_all [takesP]
end Go.Proofs.YtpohkolapgofdaaGreatDoor
