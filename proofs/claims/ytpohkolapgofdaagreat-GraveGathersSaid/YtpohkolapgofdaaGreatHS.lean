/- Plain law: an insertion sort by levels of lots in the order of their remains' names keeps that order within a level. -/
/- Walk: lots sorted by their levels (the library's stable sort at fewer than 20 elements: one insertion sort). -/
import Derived.Test.YtpohkolapgofdaaGreatH4
import Derived.Sort.LotA
namespace Go.Proofs.YtpohkolapgofdaaGreat
open Go.RowKit Go.Sort

section
variable {α : Type} [Inhabited α] (lt tie : α → α → Bool)
/-- Less, and at a tie the second order. -/
def tied (x y : α) : Bool := lt x y || (!lt y x && tie x y)
theorem insInner_tied {a : Nat} : ∀ (j : Nat) (d : Array α), j < d.size → (∀ q, q < j → tie d[j]! d[q]! = false) → insInner lt a j d = insInner (tied lt tie) a j d
  | 0, _, _, _ => rfl
  | j + 1, d, hj, h => by
    unfold insInner
    have e : tied lt tie d[j + 1]! d[j]! = lt d[j + 1]! d[j]! := by
      unfold tied
      rw [h j (by omega)]
      simp
    rw [e]
    split
    · refine insInner_tied j (swp d (j + 1) j) (by rw [swp_size]; omega) fun q hq => ?_
      have g := swp_get d hj (show j < d.size by omega)
      rw [g, g, if_pos rfl, if_neg (by omega), if_neg (by omega)]
      exact h q (by omega)
    · rfl
theorem insInner_perm {a b i : Nat} (hib : i < b) : ∀ (j : Nat) (d : Array α), a ≤ j → j ≤ i → b ≤ d.size → PermIn a b d (insInner lt a j d)
  | 0, d, _, _, _ => by unfold insInner; exact permIn_refl _ _ _
  | j + 1, d, haj, hji, hb => by
    unfold insInner
    split
    · rename_i hc
      simp only [Bool.and_eq_true, decide_eq_true_eq] at hc
      exact permIn_trans _ _ _ a b (swp_permIn d a b (j + 1) j haj (by omega) (by omega) (by omega) hb) (insInner_perm hib j _ (by omega) (by omega) (by rw [swp_size]; exact hb))
    · exact permIn_refl _ _ _
theorem insOuter_tied {b : Nat} : ∀ (n i : Nat) (d : Array α), b - i = n → i ≤ b → b ≤ d.size → (∀ p q, q < p → i ≤ p → p < b → tie d[p]! d[q]! = false) → insOuter lt 0 b i d = insOuter (tied lt tie) 0 b i d
  | 0, i, d, hn, hib, _, _ => by rw [insOuter, if_neg (by omega), insOuter, if_neg (by omega)]
  | n + 1, i, d, hn, hib, hb, h => by
    rw [insOuter, if_pos (by omega)]
    conv => rhs; rw [insOuter, if_pos (show i < b by omega)]
    rw [← insInner_tied lt tie i d (by omega) fun q hq => h i q hq (Nat.le_refl _) (by omega)]
    have hp := insInner_perm (a := 0) (b := i + 1) (i := i) lt (by omega) i d (Nat.zero_le _) (Nat.le_refl _) (by omega)
    refine insOuter_tied n (i + 1) _ (by omega) (by omega) (by rw [hp.1]; exact hb) fun p q hqp hip hpb => ?_
    rw [hp.2.1 p (.inr hip)]
    by_cases hq : q < i + 1
    · exact permIn_all d _ 0 (i + 1) (fun x => tie d[p]! x = false) (by omega) hp (fun k _ hk => h p k (by omega) (by omega) hpb) q (Nat.zero_le _) hq
    · rw [hp.2.1 q (.inr (by omega))]
      exact h p q hqp (by omega) hpb
theorem insertion_tied {d : Array α} {b : Nat} (hb : b ≤ d.size) (h : ∀ p q, q < p → p < b → tie d[p]! d[q]! = false) : insertionSort lt d 0 b = insertionSort (tied lt tie) d 0 b := by
  unfold insertionSort
  by_cases h0 : b = 0
  · subst h0
    rw [insOuter, if_neg (by omega), insOuter, if_neg (by omega)]
  · exact insOuter_tied lt tie (b - 1) 1 d (by omega) (by omega) hb fun p q hqp _ hpb => h p q hqp hpb
end

def lvl (x y : Lot) : Bool := decide (x.level < y.level)
theorem lvl_swo : SWO lvl where
  irrefl x := by simp [lvl]
  trans x y z h1 h2 := by
    simp only [lvl, decide_eq_true_eq] at *
    omega
  ntrans x y z h1 h2 := by
    simp only [lvl, decide_eq_false_iff_not] at *
    omega
theorem lvl_size (d : Array Lot) (b : Nat) (hb : b ≤ d.size) : (insertionSort lvl d 0 b).size = d.size := (insertionSort_holds (lt := lvl) lvl_swo d 0 b (Nat.zero_le _) hb).1.1
def lvlName (x y : Lot) : Bool := tied lvl (fun x y => lessS x.remain y.remain) x y
theorem lvlName_iff {x y : Lot} : lvlName x y = true ↔ x.level < y.level ∨ (x.level = y.level ∧ lessS x.remain y.remain = true) := by
  unfold lvlName tied lvl
  simp only [Bool.or_eq_true, Bool.and_eq_true, decide_eq_true_eq, Bool.not_eq_true', decide_eq_false_iff_not]
  constructor
  · rintro (h | ⟨h1, h2⟩)
    · exact .inl h
    · by_cases h3 : x.level < y.level
      · exact .inl h3
      · exact .inr ⟨by omega, h2⟩
  · rintro (h | ⟨h1, h2⟩)
    · exact .inl h
    · exact .inr ⟨by omega, h2⟩
theorem lvlName_swo : SWO lvlName where
  irrefl x := by
    cases h : lvlName x x
    · rfl
    · rcases lvlName_iff.1 h with h1 | ⟨_, h1⟩
      · omega
      · rw [lessS_irr] at h1; cases h1
  trans x y z h1 h2 := by
    rw [lvlName_iff] at *
    rcases h1 with h1 | ⟨h1, g1⟩ <;> rcases h2 with h2 | ⟨h2, g2⟩
    · exact .inl (by omega)
    · exact .inl (by omega)
    · exact .inl (by omega)
    · exact .inr ⟨by omega, lessS_trans g1 g2⟩
  ntrans x y z h1 h2 := by
    cases h : lvlName x z
    · rfl
    · exfalso
      have h1' : ¬ lvlName x y = true := by simp [h1]
      have h2' : ¬ lvlName y z = true := by simp [h2]
      rw [lvlName_iff] at h h1' h2'
      rcases h with h | ⟨h, g⟩
      · by_cases hxy : x.level < y.level
        · exact h1' (.inl hxy)
        · exact h2' (.inl (by omega))
      · have hxy : x.level = y.level := by
          by_cases hxy : x.level < y.level
          · exact absurd (Or.inl hxy) h1'
          · by_cases hyz : y.level < z.level
            · exact absurd (Or.inl hyz) h2'
            · omega
        rcases lessS_tri y.remain z.remain with h3 | h3 | h3
        · exact h2' (.inr ⟨by omega, h3⟩)
        · exact h1' (.inr ⟨hxy, by rw [h3]; exact g⟩)
        · exact h1' (.inr ⟨hxy, lessS_trans g h3⟩)
/-- The lots of each level, one level behind the other. -/
def byLevels (n : Nat) (L : List Lot) : List Lot := (List.range n).flatMap fun (k : Nat) => L.filter fun l => l.level == (k : Int)
theorem byLevels_mem {n : Nat} {L : List Lot} (h : ∀ l ∈ L, 0 ≤ l.level ∧ l.level < n) (l : Lot) : l ∈ byLevels n L ↔ l ∈ L := by
  unfold byLevels
  simp only [List.mem_flatMap, List.mem_range, List.mem_filter, beq_iff_eq]
  constructor
  · rintro ⟨_, _, h1, _⟩
    exact h1
  · intro hl
    have := h l hl
    exact ⟨l.level.toNat, by omega, hl, by omega⟩
theorem byLevels_sorted {L : List Lot} (ha : Asc L) : ∀ n, (byLevels n L).Pairwise fun a b => lvlName a b = true
  | 0 => by simp [byLevels]
  | n + 1 => by
    have ih := byLevels_sorted ha n
    unfold byLevels at ih ⊢
    rw [List.range_succ, List.flatMap_append, List.pairwise_append]
    refine ⟨ih, ?_, ?_⟩
    · rw [List.flatMap_cons, List.flatMap_nil, List.append_nil]
      refine List.Pairwise.imp_of_mem ?_ (List.Pairwise.filter _ ha)
      intro a b h1 h2 h3
      have e1 := (List.mem_filter.1 h1).2
      have e2 := (List.mem_filter.1 h2).2
      exact lvlName_iff.2 (.inr ⟨by simp at e1 e2; omega, h3⟩)
    · intro a h1 b h2
      simp only [List.mem_flatMap, List.mem_range, List.mem_filter, beq_iff_eq, List.flatMap_cons, List.flatMap_nil, List.append_nil] at h1 h2
      obtain ⟨k, hk, _, e1⟩ := h1
      exact lvlName_iff.2 (.inl (by omega))
/-- The sort by levels, of lots in the order of their remains' names. -/
theorem sort_levels {L : List Lot} {n : Nat} (ha : Asc L) (hl : ∀ l ∈ L, 0 ≤ l.level ∧ l.level < n) : (insertionSort lvl L.toArray 0 L.length).toList = byLevels n L := by
  have hsz : L.length = L.toArray.size := by simp
  have hget : ∀ p, (hp : p < L.length) → L.toArray[p]! = L[p] := fun p hp => by rw [getElem!_pos L.toArray p (by simpa using hp)]; simp
  rw [insertion_tied lvl (fun x y => lessS x.remain y.remain) (by simp) fun p q hqp hp => by
    rw [hget p hp, hget q (by omega)]
    have := List.pairwise_iff_getElem.1 ha q p (by omega) hp hqp
    cases hx : lessS L[p].remain L[q].remain
    · rfl
    · have := lessS_trans this hx
      rw [lessS_irr] at this
      cases this]
  obtain ⟨⟨hs, _, hperm⟩, hsort⟩ := insertionSort_holds (lt := lvlName) lvlName_swo L.toArray 0 L.length (Nat.zero_le _) (by simp)
  show (insertionSort lvlName L.toArray 0 L.length).toList = _
  generalize insertionSort lvlName L.toArray 0 L.length = d at *
  have e1 : d.extract 0 L.length = d := by rw [hsz, ← hs]; exact Array.extract_size
  have e2 : L.toArray.extract 0 L.length = L.toArray := by rw [hsz]; exact Array.extract_size
  rw [e1, e2] at hperm
  have hnd : L.Nodup := by
    refine List.Pairwise.imp ?_ ha
    intro a b hab e
    subst e
    rw [lessS_irr] at hab
    cases hab
  have hbs := byLevels_sorted ha n
  have hnd2 : (byLevels n L).Nodup := by
    refine List.Pairwise.imp ?_ hbs
    intro a b hab e
    subst e
    rw [lvlName_swo.irrefl] at hab
    cases hab
  have hp2 : (byLevels n L).Perm L := (List.perm_ext_iff_of_nodup hnd2 hnd).2 fun l => byLevels_mem hl l
  have hds : d.toList.Pairwise fun a b => lvlName b a = false := List.pairwise_iff_getElem.2 fun i j hi hj hij => by
    have hi' : i < d.size := by simpa using hi
    have hj' : j < d.size := by simpa using hj
    have := hsort i j (Nat.zero_le _) hij (by rw [hsz, ← hs]; exact hj')
    rw [getElem!_pos d j hj', getElem!_pos d i hi'] at this
    simpa using this
  refine List.Perm.eq_of_pairwise (le := fun x y : Lot => lvlName y x = false) ?_ hds (hbs.imp fun {a b} hab => lvlName_swo.asymmA hab) (hperm.trans (by simpa using hp2.symm))
  intro a b ha' hb h1 h2
  have haL : a ∈ byLevels n L := hp2.symm.mem_iff.1 (by have := hperm.mem_iff (a := a); simpa using this.1 ha')
  obtain ⟨i, hi, rfl⟩ := List.getElem_of_mem haL
  obtain ⟨j, hj, rfl⟩ := List.getElem_of_mem hb
  rcases Nat.lt_trichotomy i j with hij | hij | hij
  · have := List.pairwise_iff_getElem.1 hbs i j hi hj hij
    rw [this] at h2; cases h2
  · subst hij; rfl
  · have := List.pairwise_iff_getElem.1 hbs j i hj hi hij
    rw [this] at h1; cases h1
end Go.Proofs.YtpohkolapgofdaaGreat
namespace Go.Proofs.YtpohkolapgofdaaGreat
open Go.RowKit Go.Shelf Go.Sort
attribute [local go_sem] World.cell?_alloc_mark ext_size ext_cell ext_frozen lt_add_r lt_add_r2 lt_add_r3 lt_add_r4 lt_add_r5 lt_add_r6 lt_add_r7 lt_add_r8

theorem lotSort20 : Go.Proofs.SlLaysF0.n20 Tryz.prog lotSort_ren := { lotSort with }
def cmpI (a b : Int) : Int := if a < b then -1 else if b < a then 1 else 0
def lvlCmp (x y : Lot) : Int := cmpI x.level y.level
theorem ltOf_lvl : ltOf lvlCmp = lvl := by
  funext x y
  unfold ltOf lvlCmp cmpI lvl
  by_cases h : x.level < y.level
  · simp [h]
  · by_cases h2 : y.level < x.level
    · simp [h, h2]
    · simp [h, h2]
set_option maxRecDepth 100000 in
set_option maxHeartbeats 2000000 in
theorem nan_any (n : Int) (w : World) : Calls Tryz.prog 87 #[.int .i64 n] w (Ret0 w (.bool false)) := by
  go_enter Tryz.func87, Tryz.ntmps87
  go_wp2
  go_ret
  exact ⟨by simp, rfl⟩
set_option maxRecDepth 100000 in
set_option maxHeartbeats 2000000 in
theorem cmpInt_any (a b : Int) (w : World) : Calls Tryz.prog 68 #[.int .i64 a, .int .i64 b] w (Ret0 w (.int .i64 (cmpI a b))) := by
  have hX : a < b ∧ cmpI a b = -1 ∨ ¬ a < b ∧ b < a ∧ cmpI a b = 1 ∨ ¬ a < b ∧ ¬ b < a ∧ cmpI a b = 0 := by
    unfold cmpI
    by_cases h : a < b
    · exact .inl ⟨h, by simp [h]⟩
    · by_cases h2 : b < a
      · exact .inr (.inl ⟨h, h2, by simp [h, h2]⟩)
      · exact .inr (.inr ⟨h, h2, by simp [h, h2]⟩)
  rcases hX with ⟨h1, hr⟩ | ⟨h1, h2, hr⟩ | ⟨h1, h2, hr⟩ <;> rw [hr] <;> clear hr <;>
  (go_enter Tryz.func68, Tryz.ntmps68
   go_wp2_with (go_at_call 87; refine (nan_any _ _).mono ?_; rintro e wq ⟨rfl, rfl⟩)
   go_ret
   exact ⟨rfl, rfl⟩)
set_option maxRecDepth 100000 in
set_option maxHeartbeats 2000000 in
theorem atCmp_any (x y : Lot) (W : World) : Calls Tryz.prog 67 #[.agg x.cells.toArray, .agg y.cells.toArray] W fun e w' => e = .returned (.int .i64 (lvlCmp x y)) ∧ ∃ q os', w' = Sort.grow (W.drewN q) os' := by
  obtain ⟨a0, a1, a2, a3, a4, a5⟩ := x
  obtain ⟨b0, b1, b2, b3, b4, b5⟩ := y
  have hc := fun W' => cmpInt_any a3 b3 W'
  have hl : lvlCmp ⟨a0, a1, a2, a3, a4, a5⟩ ⟨b0, b1, b2, b3, b4, b5⟩ = cmpI a3 b3 := rfl
  rw [hl]
  generalize cmpI a3 b3 = r at hc ⊢
  simp only [Lot.cells]
  go_enter Tryz.func67, Tryz.ntmps67
  go_wp2_with (go_at_call 68; refine (hc _).mono ?_; rintro e wq ⟨rfl, rfl⟩)
  go_ret
  exact ⟨rfl, 0, _, by rw [Sort.alloc_eq_grow, Sort.alloc_eq_grow, Sort.grow_grow]; rfl⟩
set_option maxRecDepth 100000 in
set_option maxHeartbeats 2000000 in
theorem ins_any (g off cap : Nat) (d : Array Lot) (w : World) (hH : HoldsK Lot.cells 6 w g off d) (hg : g < w.heap.size) (hsz : d.size < 20) :
    Calls Tryz.prog 102 #[.slice (some ⟨g, off, none⟩) d.size cap, .int .i64 0, .int .i64 d.size, .func (.func 67) #[] #[]] w fun e w' =>
      e = .returned (.tuple #[]) ∧ ∃ n os, w' = sortWorldK Lot.cells 6 w g off n (insertionSort lvl d 0 d.size) os := by
  have eg : ∀ args w, (callFunc 67 args).run Tryz.prog w = .ok (.enter 67 args) w := enters_of Tryz.func67 (by kernel_rfl) rfl
  have hcon := AnyQ.insertionSortCmpFunc lotSort20 6 Tryz.isAgg40 Tryz.sizeOf40 Lot.cells lot_len lot_one lvlCmp 67 #[] g off cap 0 d.size d w eg (fun _ _ _ _ x y => by simpa using atCmp_any x y _) hH hg (Nat.zero_le _) (Nat.le_refl _) (by omega)
  rw [ltOf_lvl] at hcon
  change Calls Tryz.prog 102 _ _ _ at hcon
  exact hcon
set_option maxRecDepth 100000 in
set_option maxHeartbeats 2000000 in
theorem stable_of (A : Option Addr) (m cap : Nat) (fv : Fn) (cb x : Array Value) (w : World) (R : World → Prop) (hm : (m : Int) < 20)
    (HO : Calls Tryz.prog 102 #[.slice A m cap, .int .i64 0, .int .i64 m, .func fv cb x] w fun e w' => e = .returned (.tuple #[]) ∧ R w') :
    Calls Tryz.prog 86 #[.slice A m cap, .int .i64 m, .func fv cb x] w fun e w' => e = .returned (.tuple #[]) ∧ R w' := by
  have hm2 : ¬ (20 : Int) ≤ (m : Int) := by omega
  have hm3 : ¬ (20 : Int) < (m : Int) := by omega
  go_enter Tryz.func86, Tryz.ntmps86
  go_wp2_with fail
  go_loop [7, 8] (fun a b => a = .int .i64 0 ∧ b = .int .i64 20) (fun _ _ => 0)
  case atStart => exact ⟨rfl, rfl⟩
  case round =>
    obtain ⟨rfl, rfl⟩ := hrel
    go_wp2_with (go_at_call 102; refine HO.mono ?_; rintro e wq ⟨rfl, hR⟩)
    go_loop [6, 7, 8] (fun a b c => a = .int .i64 20 ∧ b = .int .i64 0 ∧ c = .int .i64 20) (fun _ _ _ => 0)
    case atStart => exact ⟨rfl, rfl, rfl⟩
    case round =>
      obtain ⟨rfl, rfl, rfl⟩ := hrel
      go_wp2_with fail
      go_end0
      exact ⟨rfl, hR⟩
set_option maxRecDepth 100000 in
set_option maxHeartbeats 2000000 in
theorem stableF_of (A : Option Addr) (m cap : Nat) (fv : Fn) (cb x : Array Value) (w : World) (R : World → Prop) (hm : (m : Int) < 20)
    (HO : Calls Tryz.prog 102 #[.slice A m cap, .int .i64 0, .int .i64 m, .func fv cb x] w fun e w' => e = .returned (.tuple #[]) ∧ R w') :
    Calls Tryz.prog 66 #[.slice A m cap, .func fv cb x] w fun e w' => e = .returned (.tuple #[]) ∧ R w' := by
  have HS := stable_of A m cap fv cb x w R hm HO
  clear HO
  go_enter Tryz.func66, Tryz.ntmps66
  go_wp2_with (go_at_call 86; refine HS.mono ?_; rintro e wq ⟨rfl, hR⟩)
  go_end0
  exact ⟨rfl, hR⟩
theorem insNone_any (fv : Value) (w : World) : Calls Tryz.prog 102 #[.slice none 0 0, .int .i64 0, .int .i64 0, fv] w fun e w' => e = .returned (.tuple #[]) ∧ w' = w := by
  have hcon := AnyF.insertionSortCmpFunc_none lotSort20 none 0 fv w
  change Calls Tryz.prog 102 _ _ _ at hcon
  exact hcon
/-- A slice of lots that is nobody else's. -/
def Held (w : World) (base : Nat) (v : Value) (xs : List Lot) : Prop := (v = .slice none 0 0 ∧ xs = []) ∨ ∃ g cap, v = .slice (some ⟨g, 0, none⟩) xs.length cap ∧ base ≤ g ∧ g < w.heap.size ∧ HoldsK Lot.cells 6 w g 0 xs.toArray ∧ xs.length ≤ cap
theorem own_held {w : World} {base : Nat} {v : Value} {xs : List Lot} (h : w.ownsRow base 40 6 v xs.length (xs.flatMap Lot.cells)) : Held w base v xs := by
  rcases own_holds h with h1 | ⟨g, cap, rfl, hb, hg, hH⟩
  · exact .inl h1
  · rcases h.2 with ⟨h0, _⟩ | ⟨g', cap', cur, he, _, _, hnc, _⟩
    · cases h0
    · cases he
      exact .inr ⟨g, cap, rfl, hb, hg, hH, hnc⟩
theorem Held.sl {w : World} {base : Nat} {v : Value} {xs : List Lot} (h : Held w base v xs) : ∃ A c, v = .slice A xs.length c ∧ Sl w 6 Lot.cells A xs := by
  rcases h with ⟨rfl, rfl⟩ | ⟨g, cap, rfl, _, hg, hH, _⟩
  · exact ⟨none, 0, rfl, sl_nil _ _ _⟩
  · exact ⟨_, cap, rfl, holds_sl hH hg⟩
def lvlSorted (ls : List Lot) : List Lot := (insertionSort lvl ls.toArray 0 ls.length).toList
/-- The stable sort of lots by their levels. -/
theorem lvlSort_v (v : Value) (ls : List Lot) (base : Nat) (w : World) (hown : Held w base v ls) (hl : ls.length < 20) :
    Calls Tryz.prog 66 #[v, .func (.func 67) #[] #[]] w fun e w' => e = .returned (.tuple #[]) ∧ Held w' base v (lvlSorted ls) ∧ ∀ w0 : World, Below w0.heap.size w0 w → w0.heap.size ≤ base → Below w0.heap.size w0 w' := by
  obtain ⟨rfl, rfl⟩ | ⟨g, cap, rfl, hb, hg, hH, hcap⟩ := hown
  · refine (stableF_of none 0 0 _ _ _ w (fun w' => w' = w) (by decide) (insNone_any _ _)).mono ?_
    rintro e wq ⟨rfl, rfl⟩
    refine ⟨rfl, .inl ⟨rfl, ?_⟩, fun w0 h _ => h⟩
    unfold lvlSorted insertionSort
    rw [insOuter, if_neg (by simp)]
  · have h := ins_any g 0 cap ls.toArray w hH hg (by simpa using hl)
    have e : ls.toArray.size = ls.length := by simp
    rw [e] at h
    refine (stableF_of (some ⟨g, 0, none⟩) ls.length cap _ _ _ w _ (by omega) h).mono ?_
    rintro e wq ⟨rfl, n, os, rfl⟩
    have hsz : (insertionSort lvl ls.toArray 0 ls.length).size = ls.toArray.size := lvl_size _ _ (by simp)
    have hlen : (lvlSorted ls).length = ls.length := by
      show (insertionSort lvl ls.toArray 0 ls.length).toList.length = _
      rw [Array.length_toList, hsz, e]
    refine ⟨rfl, .inr ⟨g, cap, by rw [hlen], hb, lt_sortWorldK Lot.cells 6 w g 0 n _ os hg, ?_⟩, fun w0 h hb0 => below_sort (by omega) h⟩
    · refine ⟨?_, by rw [hlen]; exact hcap⟩
      have := holdsK_sortWorldK Lot.cells 6 w g 0 n ls.toArray _ os hg hH hsz
      unfold lvlSorted
      simpa using this
end Go.Proofs.YtpohkolapgofdaaGreat
