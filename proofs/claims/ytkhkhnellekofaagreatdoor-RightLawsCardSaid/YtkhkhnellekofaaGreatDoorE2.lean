/- Walk of chapter 5's some: the records with some numbers. -/
import Derived.Test.YtkhkhnellekofaaGreatDoorJO
import Derived.Test.YtkhkhnellekofaaGreatDoorNE
import Derived.Test.YtkhkhnellekofaaGreatDoorJT
import Derived.Test.YtkhkhnellekofaaGreatDoorJQ
import Derived.Test.YtkhkhnellekofaaGreatDoorN9
import Derived.Test.YtkhkhnellekofaaGreatDoorJK
set_option linter.unusedSimpArgs false
set_option linter.unusedVariables false
namespace Go.Proofs.YtkhkhnellekofaaGreatDoor
open Go.RowKit Go.Shelf

section
variable {base k : Nat} {W W' : World} {B : List Nat} {es : Array MapEntry} {ec : Nat}
theorem TombAt.keptM {T : Nat} {g : Grave} (h : TombAt W base B T g) (hg : W.grownBy W' (some k)) (hx : W.heap[k]? = some (.map es ec)) : TombAt W' base B T g := by
 obtain ⟨H, hc, D, dc, fr', t1, t2, t3, t4, t5, t6, t7⟩ := h
 exact ⟨H, hc, D, dc, fr', (hg.block T (blk_lt t1) (fun e => by simp only [Option.some.injEq] at e; subst e; unfold TombC at t1; rw [t1] at hx; simp at hx)).trans t1, t2, t3, t4, t5.keptM hg hx, t6.keptM hg hx, t7⟩
theorem TombsAt.keptM {ps : List Nat} {tv : Value} {gs : List Grave} (h : TombsAt base W B tv ps gs) (hg : W.grownBy W' (some k)) (hx : W.heap[k]? = some (.map es ec)) : TombsAt base W' B tv ps gs :=
 ⟨h.own.keptM hg hx, h.len, h.nd, fun i T g e1 e2 => (h.all i T g e1 e2).keptM hg hx⟩
theorem WldC.keptM {b d c p wl r : Nat} {mv tv : Value} {la co : Int} (h : WldC W b d c p wl r mv tv la co) (hg : W.grownBy W' (some k)) (hx : W.heap[k]? = some (.map es ec)) : WldC W' b d c p wl r mv tv la co :=
 (hg.block b (blk_lt h) (fun e => by simp only [Option.some.injEq] at e; subst e; unfold WldC at h; rw [h] at hx; simp at hx)).trans h
theorem RowIs.keptM {m : List (ByteArray × Value)} {n : ByteArray} {xs : List ByteArray} (h : RowIs W base m n xs) (hg : W.grownBy W' (some k)) (hx : W.heap[k]? = some (.map es ec)) : RowIs W' base m n xs := by
 rcases h with h | ⟨v, h1, h2⟩
 · exact .inl h
 · exact .inr ⟨v, h1, h2.keptM hg hx⟩
theorem WillIs.keptM {m : List (ByteArray × Value)} {n : ByteArray} {xs : Parts} (h : WillIs W m n xs) (hg : W.grownBy W' (some k)) (hx : W.heap[k]? = some (.map es ec)) : WillIs W' m n xs := by
 rcases h with h | ⟨A, c, h1, h2⟩
 · exact .inl h
 · exact .inr ⟨A, c, h1, h2.keptM hg hx⟩
theorem RowIs.kept {m : List (ByteArray × Value)} {n : ByteArray} {xs : List ByteArray} {cs : Array Value} {t : TypeId} {fr : Nat × Nat} (h : RowIs W base m n xs) (hg : W.grownBy W' (some k)) (hx : W.heap[k]? = some (.cells cs t fr)) (ht : t ≠ 9) : RowIs W' base m n xs := by
 rcases h with h | ⟨v, h1, h2⟩
 · exact .inl h
 · exact .inr ⟨v, h1, h2.kept hg hx ht⟩
theorem WillIs.kept {m : List (ByteArray × Value)} {n : ByteArray} {xs : Parts} {cs : Array Value} {t : TypeId} {fr : Nat × Nat} (h : WillIs W m n xs) (hg : W.grownBy W' (some k)) (hx : W.heap[k]? = some (.cells cs t fr)) (ht : t ≠ 63) : WillIs W' m n xs := by
 rcases h with h | ⟨A, c, h1, h2⟩
 · exact .inl h
 · exact .inr ⟨A, c, h1, h2.kept hg hx ht⟩
theorem mapS_block {b : Nat} {K V : Type} {ek : K → Value} {ev : V → Value} {m : List (K × V)} (h : MapS W b ek ev m) : ∃ es c, W.heap[b]? = some (.map es c) := by
 obtain ⟨es, c, h1, _⟩ := h
 exact ⟨es, c, h1⟩
variable {d c p wl r : Nat} {mv tv : Value} {s : St}
theorem ppl_will (h : PplAt base W B d c p wl r mv s) (hg : W.grownBy W' (some wl)) {ws : List (ByteArray × Parts)} {m' : List (ByteArray × Value)} (h1 : MapS W' wl ekS (fun v : Value => v) m') (h2 : ∀ n, WillIs W' m' n (willOf { s with wills := ws } n)) : PplAt base W' B d c p wl r mv { s with wills := ws } := by
 obtain ⟨mc, mp, k1, k2, k3, k4, k5, k6⟩ := h.rows
 obtain ⟨m, k7, k8⟩ := h.wills
 obtain ⟨es, ec, hx⟩ := mapS_block k7
 have hnd := h.nd
 simp only [List.nodup_cons, List.mem_cons, List.not_mem_nil, or_false, not_or] at hnd
 obtain ⟨⟨n1, n2, n3, n4⟩, ⟨n5, n6, n7⟩, ⟨n8, n9⟩, n10, _⟩ := hnd
 refine ⟨h.nd, h.ge, h.dead.grown hg (by simpa using n3), ⟨mc, mp, k1.grown hg (by simpa using n6), k2.grown hg (by simpa using n8), fun n => (k3 n).keptM hg hx, fun n => (k4 n).keptM hg hx, k5, k6⟩, h.marr.keptM hg hx, ⟨m', h1, h2⟩, h.ren.grown hg (by simpa using fun e => n10 e.symm)⟩
theorem ppl_ren (h : PplAt base W B d c p wl r mv s) (hg : W.grownBy W' (some r)) {rs : List (ByteArray × ByteArray)} (h1 : MapS W' r ekP evB (rs.map fun x => (x, true))) : PplAt base W' B d c p wl r mv { s with renounce := rs } := by
 obtain ⟨mc, mp, k1, k2, k3, k4, k5, k6⟩ := h.rows
 obtain ⟨m, k7, k8⟩ := h.wills
 obtain ⟨es, ec, hx⟩ := mapS_block h.ren
 have hnd := h.nd
 simp only [List.nodup_cons, List.mem_cons, List.not_mem_nil, or_false, not_or] at hnd
 obtain ⟨⟨n1, n2, n3, n4⟩, ⟨n5, n6, n7⟩, ⟨n8, n9⟩, n10, _⟩ := hnd
 refine ⟨h.nd, h.ge, h.dead.grown hg (by simpa using n4), ⟨mc, mp, k1.grown hg (by simpa using n7), k2.grown hg (by simpa using n9), fun n => (k3 n).keptM hg hx, fun n => (k4 n).keptM hg hx, k5, k6⟩, h.marr.keptM hg hx, ⟨m, k7.grown hg (by simpa using n10), fun n => (k8 n).keptM hg hx⟩, h1⟩
theorem ppl_dead (h : PplAt base W B d c p wl r mv s) (hg : W.grownBy W' (some d)) {ds : List ByteArray} {gs : List Grave} (h1 : MapS W' d ekS evB (ds.map fun n => (n, true))) : PplAt base W' B d c p wl r mv { s with dead := ds, graves := gs } := by
 obtain ⟨mc, mp, k1, k2, k3, k4, k5, k6⟩ := h.rows
 obtain ⟨m, k7, k8⟩ := h.wills
 obtain ⟨es, ec, hx⟩ := mapS_block h.dead
 have hnd := h.nd
 simp only [List.nodup_cons, List.mem_cons, List.not_mem_nil, or_false, not_or] at hnd
 obtain ⟨⟨n1, n2, n3, n4⟩, ⟨n5, n6, n7⟩, ⟨n8, n9⟩, n10, _⟩ := hnd
 refine ⟨h.nd, h.ge, h1, ⟨mc, mp, k1.grown hg (by simpa using fun e => n1 e.symm), k2.grown hg (by simpa using fun e => n2 e.symm), fun n => (k3 n).keptM hg hx, fun n => (k4 n).keptM hg hx, k5, k6⟩, h.marr.keptM hg hx, ⟨m, k7.grown hg (by simpa using fun e => n3 e.symm), fun n => (k8 n).keptM hg hx⟩, h.ren.grown hg (by simpa using fun e => n4 e.symm)⟩
end
theorem mput_new {K V : Type} {eq : K → K → Bool} {k : K} {v : V} : ∀ {m : List (K × V)}, mget eq k m = none → mput eq k v m = m ++ [(k, v)]
 | [], _ => rfl
 | x :: m, h => by
  rw [mget] at h
  rw [mput]
  cases hk : eq k x.1
  · rw [hk] at h
    simp only [Bool.false_eq_true, if_false] at h
    rw [if_neg (by simp), mput_new h]
    rfl
  · rw [hk] at h
    simp at h
theorem mget_true {K : Type} {eq : K → K → Bool} {k : K} : ∀ {l : List K}, (mget eq k (l.map fun x => (x, true))).getD false = false → mget eq k (l.map fun x => (x, true)) = none
 | [], _ => rfl
 | x :: l, h => by
  rw [List.map_cons, mget] at h ⊢
  cases hk : eq k x
  · rw [hk] at h
    simp only [Bool.false_eq_true, if_false] at h
    rw [if_neg (by simp)]
    exact mget_true h
  · rw [hk] at h
    simp at h
theorem rat_cells {l : List RPart} (h : ∀ p ∈ l, isShareP 16 p.num p.den = true) {W : World} {A : Option Addr} (hS : Sl W 3 RPart.cells A l) : Sl W 3 partCells A (ratParts l) := fun hl => by
 unfold ratParts at hl
 rw [List.length_map] at hl
 obtain ⟨b, off, hA, hb, hc⟩ := hS hl
 refine ⟨b, off, hA, hb, fun k x hk j u hu => ?_⟩
 unfold ratParts at hk
 rw [List.getElem?_map] at hk
 cases hp : l[k]? with
 | none => rw [hp] at hk; cases hk
 | some y =>
  rw [hp] at hk
  simp only [Option.map_some, Option.some.injEq] at hk
  subst hk
  have hy := rpart_rat (h y (List.mem_of_getElem? hp))
  refine hc k y hp j u ?_
  unfold partCells at hu
  rw [hy.1, hy.2] at hu
  exact hu
theorem wld_map {base b k : Nat} {W W' : World} {B ps : List Nat} {d c p wl r : Nat} {mv tv : Value} {s' : St} {gs : List Grave} {la co : Int} {es : Array MapEntry} {ec : Nat} (hb : base ≤ b) (hC : WldC W b d c p wl r mv tv la co) (hT : TombsAt base W B tv ps gs) (hg : W.grownBy W' (some k)) (hx : W.heap[k]? = some (.map es ec))
    (hgr : s'.graves = gs) (hP : PplAt base W' B d c p wl r mv s') : WldAt base W' b s' la co :=
 ⟨B, d, c, p, wl, r, mv, tv, ps, hb, hC.keptM hg hx, hP, by rw [hgr]; exact hT.keptM hg hx⟩
theorem wldC_set3 {W : World} {b d c p wl r : Nat} {mv tv : Value} {la co : Int} (h : WldC W b d c p wl r mv tv la co) (v' : Value) : WldC (W.setCell ⟨b, 3, none⟩ v') b d c p wl r v' tv la co := by
 unfold WldC at *
 have := Joins.block_setCell (i := 3) h v'
 simpa using this
theorem wld_marry {base b : Nat} {W w1 : World} {B ps : List Nat} {d c p wl r : Nat} {mv tv v' : Value} {s : St} {ms : List (ByteArray × ByteArray)} {la co : Int} (hb : base ≤ b) (hC : WldC W b d c p wl r mv tv la co) (hP : PplAt base W B d c p wl r mv s) (hT : TombsAt base W B tv ps s.graves)
    (h1 : OwnS w1 base 138 2 pairCells v' ms) (h2 : W.grownBy w1 (blkOf mv)) : WldAt base (w1.setCell ⟨b, 3, none⟩ v') b { s with marriages := ms } la co ∧ WldC w1 b d c p wl r mv tv la co := by
 have hbl := blk_lt hC
 have hown := hP.marr
 have hcs : ∀ k, blkOf mv = some k → ∃ cs fr, W.heap[k]? = some (.cells cs 138 fr) := fun k hk => by
  rcases hown with ⟨rfl, _⟩ | ⟨g', o, c', cur, rfl, _, hg', _⟩
  · cases hk
  · simp only [blkOf, Option.some.injEq] at hk
    subst hk
    exact ⟨cur, _, hg'⟩
 have hbt : blkOf mv ≠ some b := fun e => by
  obtain ⟨cs, fr, hx⟩ := hcs b e
  unfold WldC at hC
  rw [hC] at hx
  simp at hx
 have hC1 : WldC w1 b d c p wl r mv tv la co := (h2.block b hbl (fun e => hbt e.symm)).trans hC
 obtain ⟨mc, mp, k1, k2, k3, k4, k5, k6⟩ := hP.rows
 obtain ⟨m, k7, k8⟩ := hP.wills
 have hgs := grown_set w1 b 3 v'
 refine ⟨⟨B, d, c, p, wl, r, v', tv, ps, hb, wldC_set3 hC1 v', ?_, ?_⟩, hC1⟩
 · cases hk : blkOf mv with
   | none =>
    rw [hk] at h2
    have hBl : Below W.heap.size W w1 := ⟨h2.os, h2.tape, h2.output, h2.size, fun i hi => h2.block i hi (by simp)⟩
    exact ⟨hP.nd, hP.ge, (hP.dead.below hBl).keptC hgs hC1, ⟨mc, mp, (k1.below hBl).keptC hgs hC1, (k2.below hBl).keptC hgs hC1, fun n => ((k3 n).keep hBl).kept hgs hC1 (by decide), fun n => ((k4 n).keep hBl).kept hgs hC1 (by decide), k5, k6⟩, h1.kept hgs hC1 (by decide), ⟨m, (k7.below hBl).keptC hgs hC1, fun n => ((k8 n).keep hBl).kept hgs hC1 (by decide)⟩, (hP.ren.below hBl).keptC hgs hC1⟩
   | some k =>
    obtain ⟨cs, fr, hx⟩ := hcs k hk
    rw [hk] at h2
    exact ⟨hP.nd, hP.ge, (hP.dead.keptC h2 hx).keptC hgs hC1, ⟨mc, mp, (k1.keptC h2 hx).keptC hgs hC1, (k2.keptC h2 hx).keptC hgs hC1, fun n => ((k3 n).kept h2 hx (by decide)).kept hgs hC1 (by decide), fun n => ((k4 n).kept h2 hx (by decide)).kept hgs hC1 (by decide), k5, k6⟩, h1.kept hgs hC1 (by decide), ⟨m, (k7.keptC h2 hx).keptC hgs hC1, fun n => ((k8 n).kept h2 hx (by decide)).kept hgs hC1 (by decide)⟩, (hP.ren.keptC h2 hx).keptC hgs hC1⟩
 · cases hk : blkOf mv with
   | none =>
    rw [hk] at h2
    have hBl : Below W.heap.size W w1 := ⟨h2.os, h2.tape, h2.output, h2.size, fun i hi => h2.block i hi (by simp)⟩
    exact (hT.keep hBl).kept hgs hC1 (by decide) (by decide) (by decide) (by decide)
   | some k =>
    obtain ⟨cs, fr, hx⟩ := hcs k hk
    rw [hk] at h2
    exact (hT.kept h2 hx (by decide) (by decide) (by decide) (by decide)).kept hgs hC1 (by decide) (by decide) (by decide) (by decide)
end Go.Proofs.YtkhkhnellekofaaGreatDoor
namespace Go.Proofs.YtkhkhnellekofaaGreatDoor
open Go.RowKit

theorem sum_takeQ (l : Parts) (h : ∀ p ∈ l, 0 < p.2) (k : Nat) : sumQ (l.take k) ≤ sumQ l := by
 induction l generalizing k with
 | nil => simp
 | cons p l ih =>
  cases k with
  | zero =>
   have h1 : 0 ≤ sumQ l := by
    have := ih (fun q hq => h q (by simp [hq])) 0
    simpa [sumQ] using this
   have := h p (by simp)
   rw [List.take_zero, sumQ, sumQ]
   grind
  | succ k =>
   have := ih (fun q hq => h q (by simp [hq])) k
   rw [List.take_succ_cons, sumQ, sumQ]
   grind
structure WillInv (y : (Parts × Bool) × Rat) : Prop where
 flag : y.1.2 = false
 bd : Bd y.1.1 (1 - y.2)
 isN : IsN 720720 y.2
 nn : 0 ≤ y.2
 le : y.2 ≤ 1
 small : small5 y.2
theorem will_inv {s : St} {frm : ByteArray} {l : Parts} (hw : WillOk l) (k : Nat) : WillInv (willF s frm (l.take k) ([], false) 1) := by
 have hp : ∀ p ∈ l.take k, 0 < p.2 := fun p hp => hw.pos p (List.mem_of_mem_take hp)
 have hN : ∀ p ∈ l.take k, IsN 720720 p.2 := fun p hp => hw.isN p (List.mem_of_mem_take hp)
 have h1 := will_same (s := s) (frm := frm) (rest := 1) hp hN good_nil (by simp)
 obtain ⟨g1, g2, g3, g4, g5⟩ := will_go (s := s) (frm := frm) (out := []) (rest := 1) hp hN (Rat.le_trans (sum_takeQ l hw.pos k) hw.le) good_nil (by simp) (isN_one _)
 rw [h1]
 have gs : largeP (willGo s frm (l.take k) [] 1).1 = false := small_of (by decide) (by decide) g2
 have hn := sum_nonneg (fun p hp => by have := g1.pos p hp; grind) (l := (willGo s frm (l.take k) [] 1).1)
 have hs0 : sumQ ([] : Parts) = 0 := rfl
 rw [hs0] at g5
 have hle : (willGo s frm (l.take k) [] 1).2 ≤ 1 := by grind
 exact ⟨rfl, ⟨g1, gs, by grind⟩, g3, g4, hle, small_q g4 hle (isN_small (by decide) (by decide) g3)⟩
theorem filter_lt {α : Type} {p q : α → Bool} : ∀ {l : List α}, (∀ x ∈ l, p x = true → q x = true) → (∃ x ∈ l, q x = true ∧ p x = false) → (l.filter p).length < (l.filter q).length
 | [], _, h => by obtain ⟨x, hx, _⟩ := h; cases hx
 | y :: l, h1, h2 => by
  have hle : ∀ {l : List α}, (∀ x ∈ l, p x = true → q x = true) → (l.filter p).length ≤ (l.filter q).length := by
   intro l
   induction l with
   | nil => intro _; simp
   | cons z l ih =>
    intro h
    have := ih (fun x hx => h x (by simp [hx]))
    cases hp : p z
    · cases hq : q z <;> simp [hp, hq] <;> omega
    · have hq := h z (by simp) hp
      simp [hp, hq]
      omega
  have hl := hle (l := l) (fun x hx => h1 x (by simp [hx]))
  obtain ⟨x, hx, h3, h4⟩ := h2
  rcases List.mem_cons.1 hx with rfl | hx
  · simp [h3, h4]
    omega
  · have := filter_lt (l := l) (fun x hx => h1 x (by simp [hx])) ⟨x, hx, h3, h4⟩
    cases hp : p y
    · cases hq : q y <;> simp [hp, hq] <;> omega
    · have hq := h1 y (by simp) hp
      simp [hp, hq]
      omega
open Classical in
noncomputable def edgesN (s : St) (n : ByteArray) : Nat := (s.children.filter fun e => decide (e.1 = n ∨ Desc s n e.1)).length
theorem edges_child {s : St} (ha : ∀ a, ¬ Desc s a a) {n c : ByteArray} (hc : c ∈ childrenP s n) : edgesN s c < edgesN s n := by
 unfold edgesN
 have hd := desc_child hc
 refine filter_lt (fun e _ h => ?_) ⟨(n, c), mem_children.1 hc, by simp, ?_⟩
 · simp only [decide_eq_true_eq] at h ⊢
   rcases h with h | h
   · right; rw [h]; exact hd
   · right; exact desc_trans hd h
 · simp only [decide_eq_false_iff_not, not_or]
   refine ⟨fun e => ?_, fun h => ?_⟩
   · have hd' : Desc s n n := by
       have := hd
       rw [← show n = c from e] at this
       exact this
     exact ha n hd'
   · exact ha n (desc_trans hd h)
theorem deep_of {s : St} (ha : ∀ a, ¬ Desc s a a) : ∀ (f : Nat) (n : ByteArray), edgesN s n < f → Deep s f n
 | 0, _, h => by omega
 | f + 1, n, h => fun c hc => deep_of ha f c (by have := edges_child ha hc; omega)
theorem deep_all {s : St} (ha : ∀ a, ¬ Desc s a a) (n : ByteArray) : Deep s (generations s) n := deep_of ha _ n (by
 unfold generations edgesN
 exact Nat.lt_succ_of_le (List.length_filter_le _ _))
theorem part_big {q : Rat} (h0 : 0 < q) (hb : bigQ q = false) : 1 ≤ (1000000000 : Rat) * q := by
 unfold bigQ at hb
 have hd : (q.den : Int) ≤ 1000000000 := by simpa using hb
 have hz : ((q.den : Int) : Rat) ≠ 0 := ratI (by have := q.den_pos; omega)
 have h1 : q = q.num / ((q.den : Int) : Rat) := by rw [← Rat.divInt_eq_div, Rat.num_divInt_den]
 have h1' : q * ((q.den : Int) : Rat) = q.num := by
  have := Rat.div_mul_cancel (a := (q.num : Rat)) hz
  rw [← h1] at this
  exact this
 have hq : 0 < q.num := by have := (Rat.lt_iff 0 q).1 h0; simpa using this
 have h2 : ((1 : Int) : Rat) ≤ (q.num : Rat) := Rat.intCast_le_intCast.2 hq
 have h3 : ((q.den : Int) : Rat) ≤ ((1000000000 : Int) : Rat) := Rat.intCast_le_intCast.2 hd
 have h4 := Rat.mul_le_mul_of_nonneg_left h3 (show (0 : Rat) ≤ q by grind)
 rw [h1'] at h4
 have e1 : ((1 : Int) : Rat) = 1 := rfl
 have e2 : ((1000000000 : Int) : Rat) = 1000000000 := rfl
 rw [e1] at h2
 rw [e2] at h4
 grind
theorem parts_cnt : ∀ {l : Parts}, (∀ p ∈ l, 0 < p.2) → largeP l = false → (l.length : Rat) ≤ 1000000000 * sumQ l
 | [], _, _ => by
  have : ((([] : Parts).length : Nat) : Rat) = 0 := rfl
  rw [this, sumQ]
  grind
 | p :: l, h1, h2 => by
  unfold largeP at h2
  rw [List.any_cons, Bool.or_eq_false_iff] at h2
  have h3 := part_big (h1 p (by simp)) h2.1
  have h4 := parts_cnt (l := l) (fun q hq => h1 q (by simp [hq])) h2.2
  rw [List.length_cons, cast_succ, sumQ]
  grind
theorem Bd.len {out : Parts} {t : Rat} (h : Bd out t) (ht : t ≤ 1) : out.length ≤ 1000000000 := by
 have h1 := parts_cnt h.good.pos h.small
 have h2 := h.le
 have h3 : ((out.length : Int) : Rat) ≤ ((1000000000 : Int) : Rat) := by
  have e2 : ((1000000000 : Int) : Rat) = 1000000000 := rfl
  rw [e2, Rat.intCast_natCast]
  grind
 have := Rat.intCast_le_intCast.1 h3
 omega
end Go.Proofs.YtkhkhnellekofaaGreatDoor
namespace Go.Proofs.YtkhkhnellekofaaGreatDoor
open Go.RowKit Go.Shelf
attribute [local go_sem] World.cell?_alloc_mark ext_size ext_cell ext_frozen lt_add_r lt_add_r2 lt_add_r3 lt_add_r4 lt_add_r5 lt_add_r6 lt_add_r7 lt_add_r8
attribute [local go_sem] ext_setCell alloc_setCell_lt

def intC (n : Nat) : List Value := [.int .i64 (n : Int)]
theorem intC_len (n : Nat) : (intC n).length = 1 := rfl
theorem intC_one (n : Nat) : ∀ u ∈ intC n, u.oneCell' = true := by simp [intC, Value.oneCell']
theorem recC_len (x : Rec) : (Rec.cells x).length = 8 := rfl
theorem recC_one (x : Rec) : ∀ u ∈ Rec.cells x, u.oneCell' = true := by simp [Rec.cells, Value.oneCell']
theorem elRec : ElTy Tryz.prog 22 65 8 88 := elTy_of (z := .agg #[.int .i64 0, .string ⟨#[]⟩, .string ⟨#[]⟩, .string ⟨#[]⟩, .int .i64 0, .int .i64 0, .int .i64 0, .int .i64 0]) (by kernel_rfl) (by kernel_rfl) rfl (by decide)
theorem of_snoc {l : List Rec} {set : List Nat} {k : Nat} (hk : k < set.length) (hl : set[k] < l.length) : ofP l (set.take (k + 1)) = ofP l (set.take k) ++ [l[set[k]]] := by
 unfold ofP
 rw [List.take_succ_eq_append_getElem hk, List.filterMap_append]
 simp [List.getElem?_eq_getElem hl]
theorem of_len (l : List Rec) (set : List Nat) : (ofP l set).length ≤ set.length := List.length_filterMap_le _ _
theorem sl_rec {w : World} {b : Nat} {x : Rec} {t : TypeId} {fr : Nat × Nat} (h : w.heap[b]? = some (.cells (Rec.cells x).toArray t fr)) : Sl w 8 Rec.cells (some ⟨b, 0, none⟩) [x] := fun _ => ⟨b, 0, rfl, blk_lt h, fun k y hy j u hu => by
 have hk : k = 0 := by have := (List.getElem?_eq_some_iff.1 hy).1; simp at this; omega
 subst hk
 simp only [List.getElem?_cons_zero, Option.some.injEq] at hy
 subst hy
 simp only [World.cell?, h, Nat.zero_mul, Nat.zero_add, Nat.add_zero]
 simpa using hu⟩
set_option maxRecDepth 100000 in
set_option maxHeartbeats 2000000 in
theorem some_any (l : List Rec) (set : List Nat) (A : Option Addr) (c : Nat) (SA : Option Addr) (sc : Nat) (w : World) (hc : l.length ≤ c) (hsc : set.length ≤ sc) (hsl : set.length ≤ 1000) (hin : ∀ i ∈ set, i < l.length) (hS : Sl w 8 Rec.cells A l) (hT : Sl w 1 intC SA set) :
    Calls Tryz.prog 39 #[.slice A l.length c, .slice SA set.length sc] w (fun e w' => ∃ v, e = .returned v ∧ OwnS w' w.heap.size 65 8 Rec.cells v (ofP l set) ∧ Below w.heap.size w w') := by
 have HS := Lib.hid hS
 have HT := Lib.hid hT
 have HIN := Lib.hid hin
 clear hS hT hin
 go_enter Tryz.func39, Tryz.ntmps39
 go_wp2_with fail
 go_loopw [5, 10] (fun v i wr => ∃ k : Nat, k ≤ set.length ∧ i = .int .i64 k ∧ OwnS wr w.heap.size 65 8 Rec.cells v (ofP l (set.take k)) ∧ Below w.heap.size w wr) (fun _ i _ => set.length - (intOf i).toNat)
 case atStart => exact ⟨0, Nat.zero_le _, rfl, OwnS.nil, Below.refl _ _⟩
 case round =>
  obtain ⟨k, hk, rfl, hown, hB⟩ := hrel
  obtain ⟨VA, vc, rfl, _, hvc⟩ := hown.sl recC_len
  have HO := Lib.hid hown
  have HB := Lib.hid hB
  have hbs := hB.size
  by_cases hlt : k < set.length
  · obtain ⟨b, off, rfl, hb, hcc⟩ := (HT.out.keep hB).at hlt
    have hi := HIN.out set[k] (List.getElem_mem hlt)
    have hsn := of_snoc hlt hi
    have i0 : wr.cell? ⟨b, off + k, none⟩ = some (.int .i64 (set[k] : Int)) := by have := hcc 0 _ rfl; simpa using this
    have hol := of_len l (set.take k)
    rw [List.length_take] at hol
    have HSN := Lib.hid hsn
    clear hsn hcc
    generalize set[k] = m at *
    obtain ⟨rb, roff, rfl, hrb, hrc⟩ := (HS.out.keep hB).at hi
    have HLT := Lib.hid hlt
    generalize l[m] = x at *
    generalize ofP l (set.take k) = acc at *
    obtain ⟨kd, nm, ot, pl, dy, tl, nu, de⟩ := x
    have j0 : wr.cell? ⟨rb, roff + m * 8, none⟩ = some (.int .i64 kd) := hrc 0 _ rfl
    have j1 : wr.cell? ⟨rb, roff + m * 8 + 1, none⟩ = some (.string nm) := hrc 1 _ rfl
    have j2 : wr.cell? ⟨rb, roff + m * 8 + 2, none⟩ = some (.string ot) := hrc 2 _ rfl
    have j3 : wr.cell? ⟨rb, roff + m * 8 + 3, none⟩ = some (.string pl) := hrc 3 _ rfl
    have j4 : wr.cell? ⟨rb, roff + m * 8 + 4, none⟩ = some (.int .i64 dy) := hrc 4 _ rfl
    have j5 : wr.cell? ⟨rb, roff + m * 8 + 5, none⟩ = some (.int .i64 tl) := hrc 5 _ rfl
    have j6 : wr.cell? ⟨rb, roff + m * 8 + 6, none⟩ = some (.int .i64 nu) := hrc 6 _ rfl
    have j7 : wr.cell? ⟨rb, roff + m * 8 + 7, none⟩ = some (.int .i64 de) := hrc 7 _ rfl
    have hki : (k : Int) < (set.length : Int) := by omega
    have hk0 : (0 : Int) ≤ (k : Int) := by omega
    have hkc : (k : Int) ≤ (sc : Int) := by omega
    have hmi : (m : Int) < (l.length : Int) := by omega
    have hm0 : (0 : Int) ≤ (m : Int) := by omega
    have hmc : (m : Int) ≤ (c : Int) := by omega
    have hal : acc.length ≤ 1000 := by omega
    clear hrc hown hB hol
    go_wp2_with (at_builtin
                 go_loud (refine wpList_append_S (v := .slice VA acc.length vc) (n := acc.length) (m := 1) rfl _ _ rfl elRec recC_len recC_one rfl (xs := acc) (ys := [⟨kd, nm, ot, pl, dy, tl, nu, de⟩]) (HO.out.keep (n := wr.heap.size) Bw) rfl rfl rfl (sl_rec (J_new _ _ _ rfl)) (by simp [maxLen]; omega) (by omega) (by simp; omega) ?_)
                 intro v3 w3 h1 h2 h3
                 have hb3 := Below.grown (B := w.heap.size) (a := w) (HB.out.trans (Below.mono (B := wr.heap.size) (B_alloc (Below.refl _ _) _) hbs)) h2 (by simp; omega) (fun j hj => (HO.out.ge j hj).1)
                 have H1 := Lib.hid h1
                 have HB3 := Lib.hid hb3
                 clear h1 h2 h3 hb3)
    go_round
    case rel => exact ⟨k + 1, HLT.out, by go_num, by rw [HSN.out]; exact H1.out, HB3.out⟩
    case measure => have := HLT.out; simp only [intOf]; omega
  · have hki : ¬ (k : Int) < (set.length : Int) := by omega
    have hkt : set.take k = set := List.take_of_length_le (by omega)
    clear hown
    generalize hxs : ofP l (set.take k) = xs at *
    rw [hkt] at hxs
    subst hxs
    clear hkt
    go_wp2_with fail
    go_ret
    exact ⟨_, rfl, HO.out, HB.out⟩
end Go.Proofs.YtkhkhnellekofaaGreatDoor
