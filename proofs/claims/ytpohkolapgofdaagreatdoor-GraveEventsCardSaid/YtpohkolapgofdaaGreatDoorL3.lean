/- Walk: the law GraveLevels. -/
import Derived.Test.YtpohkolapgofdaaGreatDoorL2
namespace Go.Proofs.YtpohkolapgofdaaGreatDoor
open Go.RowKit
attribute [local go_sem] World.cell?_alloc_mark ext_size ext_cell ext_frozen lt_add_r lt_add_r2 lt_add_r3 lt_add_r4 lt_add_r5 lt_add_r6 lt_add_r7 lt_add_r8

theorem depth_same {nm : ByteArray} {k so d st r : Int} (h : checkSiteP nm k so d st r = 0) (l : Int) : wrap64 (d - wrap64 (st * l)) = depthP k d st l := by
  unfold depthP
  split
  · rename_i hk
    unfold checkSiteP at h
    split at h
    · simp at h
    split at h
    · simp at h
    split at h
    · simp at h
    split at h
    · simp at h
    split at h
    · simp at h
    rename_i h5
    have hd : d = 0 := by simp_all
    have hs : st = 0 := by simp_all
    subst hd hs
    simp [wrap64]
  · rfl
theorem siteIdx_some {nm : ByteArray} {ss : List Site} {s : Site} (h : findSite nm ss = some s) : ∃ k : Nat, siteIdx nm ss 0 = some k ∧ ss[k]? = some s := by
  have := siteIdx_find nm ss 0
  split at this
  · rw [h] at this; cases this
  · rename_i j hj
    obtain ⟨i, s', rfl, hi, hf⟩ := this
    rw [h] at hf
    cases hf
    exact ⟨_, hj, by simpa using hi⟩
theorem siteIdx_none {nm : ByteArray} {ss : List Site} (h : findSite nm ss = none) : siteIdx nm ss 0 = none := by
  have := siteIdx_find nm ss 0
  split at this
  · assumption
  · obtain ⟨i, s', _, _, hf⟩ := this
    rw [h] at hf
    cases hf
theorem rDepth_any' (nm : ByteArray) (k so d st r l : Int) (w : World) (h : checkSiteP nm k so d st r = 0) :
    Calls Tryz.prog 149 #[.agg #[.string nm, .int .i64 k, .int .i64 so, .int .i64 d, .int .i64 st, .int .i64 r], .int .i64 l] w (Ret w (.int .i64 (depthP k d st l))) := by
  rw [← depth_same h l]
  exact rDepth_any nm k so d st r l w
theorem cell_kept {w W : World} {b o : Nat} {v : Value} (h : b < w.heap.size) (g : w.cell? ⟨b, o, none⟩ = some v) (hb : Below w.heap.size w W) : W.cell? ⟨b, o, none⟩ = some v := (hb.cell (p := ⟨b, o, none⟩) h).trans g


end Go.Proofs.YtpohkolapgofdaaGreatDoor
