/- Plain law of records: fewer records never contradict each other more. -/
import Derived.Shelf.SlicesQ.IndexFunc
import Derived.Shelf.SlicesE.IndexFunc
import Derived.Test.YtkhkhnellekofaaGreatDoorJ1
import Derived.Test.YtkhkhnellekofaaGreatDoorN3
import Derived.Laws.Strings
import Derived.Test.YtkhkhnellekofaaGreatDoorM1
set_option linter.unusedSimpArgs false
set_option linter.unusedVariables false
namespace Go.Proofs.YtkhkhnellekofaaGreatDoor
open Go.RowKit Go.Shelf

def cfPart_ren : Go.Shelf.Ren := ⟨fun | 8 => 100 | 6 => 112 | n => n, fun | 22 => 53 | 23 => 63 | 25 => 135 | 4 => 4 | 3 => 3 | 0 => 0 | n => n, fun | n => n⟩
theorem cfPart : Go.Proofs.SlLaysH0.n8 Tryz.prog cfPart_ren := {
 mixed := by kernel_rfl
 f6 := ⟨Tryz.f112.name, by decide, Tryz.func112.trans (congrArg some (by kernel_rfl))⟩
 f8 := ⟨Tryz.f100.name, by decide, Tryz.func100.trans (congrArg some (by kernel_rfl))⟩
 t0 := Tryz.underlying0
 a0 := Tryz.isAgg0
 z0 := Tryz.sizeOf0
 v0 := Tryz.zeroValue0
 t3 := Tryz.underlying3
 a3 := Tryz.isAgg3
 z3 := Tryz.sizeOf3
 v3 := Tryz.zeroValue3
 t4 := Tryz.underlying4
 a4 := Tryz.isAgg4
 z4 := Tryz.sizeOf4
 v4 := Tryz.zeroValue4
 t22 := Tryz.underlying53
 a22 := Tryz.isAgg53
 z22 := Tryz.sizeOf53
 v22 := Tryz.zeroValue53
 t25 := Tryz.underlying135
 a25 := Tryz.isAgg135
 z25 := Tryz.sizeOf135
 v25 := Tryz.zeroValue135 }
def cfRec_ren : Go.Shelf.Ren := ⟨fun | 8 => 67 | 6 => 97 | n => n, fun | 22 => 22 | 23 => 65 | 25 => 68 | 4 => 4 | 3 => 3 | 0 => 0 | n => n, fun | n => n⟩
theorem cfRec : Go.Proofs.SlLaysH0.n8 Tryz.prog cfRec_ren := {
 mixed := by kernel_rfl
 f6 := ⟨Tryz.f97.name, by decide, Tryz.func97.trans (congrArg some (by kernel_rfl))⟩
 f8 := ⟨Tryz.f67.name, by decide, Tryz.func67.trans (congrArg some (by kernel_rfl))⟩
 t0 := Tryz.underlying0
 a0 := Tryz.isAgg0
 z0 := Tryz.sizeOf0
 v0 := Tryz.zeroValue0
 t3 := Tryz.underlying3
 a3 := Tryz.isAgg3
 z3 := Tryz.sizeOf3
 v3 := Tryz.zeroValue3
 t4 := Tryz.underlying4
 a4 := Tryz.isAgg4
 z4 := Tryz.sizeOf4
 v4 := Tryz.zeroValue4
 t22 := Tryz.underlying22
 a22 := Tryz.isAgg22
 z22 := Tryz.sizeOf22
 v22 := Tryz.zeroValue22
 t25 := Tryz.underlying68
 a25 := Tryz.isAgg68
 z25 := Tryz.sizeOf68
 v25 := Tryz.zeroValue68 }
end Go.Proofs.YtkhkhnellekofaaGreatDoor
namespace Go.Proofs.YtkhkhnellekofaaGreatDoor
open Go.RowKit

theorem same_iff {a b : ByteArray} : sameB a b = true ↔ a = b := by
 unfold sameB
 rw [beq_iff_eq, ByteArray.toList_eq, ByteArray.toList_eq]
 constructor
 · intro h
   exact ByteArray.ext (Array.ext' h)
 · intro h
   rw [h]
theorem same_refl (a : ByteArray) : sameB a a = true := same_iff.2 rfl
theorem same_ne {a b : ByteArray} : sameB a b = false ↔ a ≠ b := by rw [← Bool.not_eq_true, same_iff]
theorem any_same {l : List ByteArray} {n : ByteArray} : l.any (sameB n) = true ↔ n ∈ l := by
 rw [List.any_eq_true]
 constructor
 · rintro ⟨x, hx, h⟩
   rw [same_iff.1 h]
   exact hx
 · intro h
   exact ⟨n, h, same_refl n⟩
theorem mem_children {s : St} {n c : ByteArray} : c ∈ childrenP s n ↔ (n, c) ∈ s.children := by
 unfold childrenP
 rw [List.mem_map]
 constructor
 · rintro ⟨p, hp, rfl⟩
   rw [List.mem_filter, same_iff] at hp
   rw [← hp.2]
   exact hp.1
 · intro h
   exact ⟨(n, c), List.mem_filter.2 ⟨h, same_refl n⟩, rfl⟩
theorem desc_closed {s : St} {n : ByteArray} {out : ByteArray → Prop} (h0 : ∀ c ∈ childrenP s n, out c) (h1 : ∀ x, out x → ∀ c ∈ childrenP s x, out c) {x : ByteArray} (h : Desc s n x) : out x := by
 unfold Desc at h
 induction h with
 | single h => exact h0 _ h
 | tail _ h ih => exact h1 _ ih _ h
theorem desc_step {s : St} {n x c : ByteArray} (h : Desc s n x) (hc : c ∈ childrenP s x) : Desc s n c := Relation.TransGen.tail h hc
theorem desc_child {s : St} {n c : ByteArray} (hc : c ∈ childrenP s n) : Desc s n c := Relation.TransGen.single hc
theorem desc_trans {s : St} {a b c : ByteArray} (h : Desc s a b) (k : Desc s b c) : Desc s a c := by
 unfold Desc at *
 induction k with
 | single h' => exact Relation.TransGen.tail h h'
 | tail _ h' ih => exact Relation.TransGen.tail ih h'
theorem desc_none {s : St} {n x : ByteArray} (h0 : childrenP s n = []) : ¬ Desc s n x := fun h => desc_closed (out := fun _ => False) (by rw [h0]; simp) (fun _ h => h.elim) h
end Go.Proofs.YtkhkhnellekofaaGreatDoor
namespace Go.Proofs.YtkhkhnellekofaaGreatDoor

section
variable {P : Program} {t kt et : TypeId} {K : Type} {ek : K → Value} {z : Value} {eq : K → K → Bool} {w : World} {b : Nat} {m : List (K × Value)}
def StampAt (w : World) (b : Nat) {K : Type} (ek : K → Value) (m : List (K × Value)) (j st : Nat) : Prop :=
 ∃ es c, w.heap[b]? = some (.map es c) ∧ es.toList.map (fun e => (e.key, e.val)) = m.map (fun p => (ek p.1, p.2)) ∧ (∀ e ∈ es.toList, e.born < c) ∧ (es.toList.map (·.born)).Nodup ∧ (es[j]?).map (·.born) = some st
theorem set_heap (w : World) (b : Nat) (o : Obj) : w.grownBy { w with heap := w.heap.setIfInBounds b o } (some b) :=
 ⟨rfl, rfl, rfl, by simp, fun i hi hne => by
  have : b ≠ i := fun e => hne (by rw [e])
  simp [Array.getElem?_setIfInBounds, this]⟩
theorem run_setObj {w : World} {b : Nat} {es es' : Array MapEntry} {c c' : Nat} (h : w.heap[b]? = some (.map es c)) : ((setObj b (.map es' c')).run P w) = .ok () { w with heap := w.heap.setIfInBounds b (.map es' c') } := by
 simp [setObj, Sem.run, h]
theorem run_mapEntryS (T : MapTy P t kt et ek (fun v : Value => v) z eq) (h : MapS w b ek (fun v : Value => v) m) (k : K) :
    ∃ w' x st m' j, (Instr.mapEntry t (.map (some b)) (ek k)).run P w = .ok (.tuple #[x, .int .i64 (st : Nat)]) w' ∧ StampAt w' b ek m' j st ∧ (∀ v, m'.set j (k, v) = mput eq k v m) ∧ (m'[j]?).map (·.1) = some k ∧ w.grownBy w' (some b) ∧ w'.heap.size = w.heap.size := by
 obtain ⟨es, c, hh, hm, hb, hn⟩ := h
 have h1 := T.hfind k es.toList m hm w
 have hlt := (Array.getElem?_eq_some_iff.1 hh).1
 cases hl : locate eq k m 0 with
 | none =>
  refine ⟨_, z, c, m ++ [(k, z)], m.length, ?_, ?_, ?_, by simp, set_heap w b (.map (es.push { key := ek k, val := z, born := c }) (c + 1)), by simp⟩
  · simp [Instr.mapEntry, run_underlying T.ht, run_getObj_map hh, T.hck, h1, hl, T.hz, run_setObj hh, Result.andThen]
    rfl
  · refine ⟨es.push { key := ek k, val := z, born := c }, c + 1, by simp [Array.getElem?_setIfInBounds, hlt], ?_, ?_, ?_, ?_⟩
    · simp [hm]
    · intro e he
      rw [Array.toList_push] at he
      rcases List.mem_append.1 he with he | he
      · have := hb e he; omega
      · rw [List.mem_singleton.1 he]; exact Nat.lt_succ_self c
    · rw [Array.toList_push, List.map_append, List.nodup_append]
      refine ⟨hn, by simp, ?_⟩
      intro x hx y hy
      obtain ⟨e, he, rfl⟩ := List.mem_map.1 hx
      simp only [List.map_cons, List.map_nil, List.mem_singleton] at hy
      have := hb e he
      omega
    · have hlen : es.size = m.length := by simpa using congrArg List.length hm
      rw [← hlen]
      simp
  · intro v
    rw [locate_none hl, List.set_append_right _ _ (Nat.le_refl _)]
    simp
 | some p =>
  obtain ⟨j, u⟩ := p
  obtain ⟨_, q, hq, he, hput⟩ := locate_some hl
  simp only [Nat.sub_zero] at hq hput
  have hj : j < m.length := (List.getElem?_eq_some_iff.1 hq).1
  have hlen : es.size = m.length := by simpa using congrArg List.length hm
  have hje : j < es.size := by omega
  have hkey : (es[j]).key = ek q.1 := by
   have := congrArg (fun l => l[j]?) hm
   simp [List.getElem?_map, hq, hje] at this
   exact this.1
  have hval : (es[j]).val = q.2 := by
   have := congrArg (fun l => l[j]?) hm
   simp [List.getElem?_map, hq, hje] at this
   exact this.2
  have hborn : (es.modify j fun e => { e with key := ek k }).toList.map (·.born) = es.toList.map (·.born) := by
   apply List.ext_getElem?
   intro i
   simp only [List.getElem?_map, Array.getElem?_toList, Array.getElem?_modify]
   by_cases hij : j = i
   · subst hij
     simp [hje, Array.getElem?_eq_getElem hje]
   · simp [hij]
  refine ⟨_, u, (es[j]).born, m.set j (k, q.2), j, ?_, ?_, ?_, by simp [hj], set_heap w b (.map (es.modify j fun e => { e with key := ek k }) c), by simp⟩
  · simp [Instr.mapEntry, run_underlying T.ht, run_getObj_map hh, T.hck, h1, hl, Instr.keyThatStays, Array.getElem?_eq_getElem hje, hkey, T.hsame _ _ he, run_setObj hh, Result.andThen]
    rfl
  · refine ⟨es.modify j fun e => { e with key := ek k }, c, by simp [Array.getElem?_setIfInBounds, hlt], ?_, ?_, by rw [hborn]; exact hn, ?_⟩
    · apply List.ext_getElem?
      intro i
      have hmi := congrArg (fun l => l[i]?) hm
      simp only [List.getElem?_map, Array.getElem?_toList] at hmi
      simp only [List.getElem?_map, Array.getElem?_toList, Array.getElem?_modify, List.getElem?_set]
      by_cases hij : j = i
      · subst hij
        simp [hje, hj, Array.getElem?_eq_getElem hje, hval]
      · simp [hij, hmi]
    · intro e he
      have h2 : e.born ∈ (es.modify j fun e => { e with key := ek k }).toList.map (·.born) := List.mem_map.2 ⟨e, he, rfl⟩
      rw [hborn] at h2
      obtain ⟨e', he', hbb⟩ := List.mem_map.1 h2
      rw [← hbb]
      exact hb e' he'
    · simp [Array.getElem?_modify, Array.getElem?_eq_getElem hje]
  · intro v
    rw [hput, List.set_set]
theorem run_entryStoreS {j st : Nat} {k : K} (h : StampAt w b ek m j st) (hk : (m[j]?).map (·.1) = some k) (t : TypeId) (v : Value) :
    ∃ w', (Instr.entryStore t (.map (some b)) (.int .i64 (st : Nat)) v).run P w = .ok () w' ∧ MapS w' b ek (fun v : Value => v) (m.set j (k, v)) ∧ w.grownBy w' (some b) ∧ w'.heap.size = w.heap.size := by
 obtain ⟨es, c, hh, hm, hb, hn, hst⟩ := h
 have hlt := (Array.getElem?_eq_some_iff.1 hh).1
 have hlen : es.size = m.length := by simpa using congrArg List.length hm
 have hje : j < es.size := by
  by_cases h : j < es.size
  · exact h
  · rw [Array.getElem?_eq_none (by omega)] at hst; cases hst
 have hj : j < m.length := by omega
 rw [Array.getElem?_eq_getElem hje] at hst
 simp only [Option.map_some, Option.some.injEq] at hst
 have hfi : es.findIdx? (fun e => (e.born : Int) == (st : Int)) = some j := by
  rw [Array.findIdx?_eq_some_iff_getElem]
  refine ⟨hje, by simp [hst], fun i hi h => ?_⟩
  have hie : i < es.size := by omega
  have h3 : es[i].born = es[j].born := by
   rw [hst]
   simp only [beq_iff_eq] at h
   exact Int.ofNat_inj.1 h
  have h4 := (List.nodup_iff_pairwise_ne.1 hn)
  rw [List.pairwise_iff_getElem] at h4
  have := h4 i j (by simpa using hie) (by simpa using hje) hi
  simp at this
  exact this h3
 have hborn : (es.modify j fun e => { e with val := v }).toList.map (·.born) = es.toList.map (·.born) := by
  apply List.ext_getElem?
  intro i
  simp only [List.getElem?_map, Array.getElem?_toList, Array.getElem?_modify]
  by_cases hij : j = i
  · subst hij
    simp [hje, Array.getElem?_eq_getElem hje]
  · simp [hij]
 refine ⟨_, ?_, ?_, set_heap w b (.map (es.modify j fun e => { e with val := v }) c), by simp⟩
 · simp [Instr.entryStore, run_getObj_map hh, asInt, asIntOf, hfi, run_setObj hh, Result.andThen]
 · refine ⟨es.modify j fun e => { e with val := v }, c, by simp [Array.getElem?_setIfInBounds, hlt], ?_, ?_, by rw [hborn]; exact hn⟩
   · apply List.ext_getElem?
     intro i
     have hmi := congrArg (fun l => l[i]?) hm
     simp only [List.getElem?_map, Array.getElem?_toList] at hmi
     simp only [List.getElem?_map, Array.getElem?_toList, Array.getElem?_modify, List.getElem?_set]
     by_cases hij : j = i
     · subst hij
       rw [List.getElem?_eq_getElem hj] at hk hmi
       simp only [Option.map_some, Option.some.injEq] at hk
       simp [hje, hj, Array.getElem?_eq_getElem hje, hk] at hmi ⊢
       exact hmi.1
     · simp [hij, hmi]
   · intro e he
     have h2 : e.born ∈ (es.modify j fun e => { e with val := v }).toList.map (·.born) := List.mem_map.2 ⟨e, he, rfl⟩
     rw [hborn] at h2
     obtain ⟨e', he', hbb⟩ := List.mem_map.1 h2
     rw [← hbb]
     exact hb e' he'
end
end Go.Proofs.YtkhkhnellekofaaGreatDoor
namespace Go.Proofs.YtkhkhnellekofaaGreatDoor
open Go.RowKit

theorem counted_iff {p : ByteArray} {d : Int} {x : Rec} {seen : List ByteArray} : (x.kind == 3 && sameB x.place p && x.day == d && !seen.any (sameB x.name)) = true ↔ x.kind = 3 ∧ x.place = p ∧ x.day = d ∧ x.name ∉ seen := by
 simp only [Bool.and_eq_true, beq_iff_eq, same_iff, Bool.not_eq_true', ← Bool.not_eq_true, any_same]
 constructor
 · rintro ⟨⟨⟨h1, h2⟩, h3⟩, h4⟩; exact ⟨h1, h2, h3, h4⟩
 · rintro ⟨h1, h2, h3, h4⟩; exact ⟨⟨⟨h1, h2⟩, h3⟩, h4⟩
def Nonneg (l : List Rec) : Prop := ∀ x ∈ l, x.kind = 3 → 0 ≤ Rat.divInt x.num x.den
end Go.Proofs.YtkhkhnellekofaaGreatDoor
