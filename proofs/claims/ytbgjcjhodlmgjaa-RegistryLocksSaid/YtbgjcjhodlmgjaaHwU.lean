/-
  Hw, part U: the library's sort of a slice of ints that the call owns, out of the shelf's contract.
-/
import Derived.Test.YtbgjcjhodlmgjaaHwT
import Derived.Sort.Grow
set_option linter.unusedVariables false
namespace Go.Hw
open Go

def sortI (xs : List Int) : List Int := xs.mergeSort fun x y => decide (x ≤ y)
theorem sortI_len (xs : List Int) : (sortI xs).length = xs.length := List.length_mergeSort xs

theorem flatMap_encI : ∀ (xs : List Int), xs.flatMap encI = xs.map fun i => Value.int .i64 i
  | [] => rfl
  | x :: r => by rw [List.flatMap_cons, flatMap_encI r]; rfl

theorem sortFn {P : Program} {f : FuncId} (hC : ∀ (blk off cap : Nat) (zs : List Int) (w : World), Sort.Holds (Value.int .i64) w blk off zs.toArray → blk < w.heap.size → zs.length < 4611686018427387904 →
      Calls P f #[.slice (some ⟨blk, off, none⟩) zs.length cap] w fun e w' => e = .returned (.tuple #[]) ∧ ∃ n os, w' = Sort.grow (Sort.putRow (Value.int .i64) (Sort.ahead w n) blk off (zs.mergeSort fun x y => decide (x ≤ y)).toArray) os)
    (hN : ∀ (p : Option Addr) (cap : Nat) (w : World), Calls P f #[.slice p 0 cap] w fun e w' => e = .returned (.tuple #[]) ∧ w' = w)
    (e : TypeId) (v : Value) (xs : List Int) (n : Nat) (h : Ro) (hn : n ≤ 1000000000) (hx : xs.length = n) :
    Fn P f #[v] [OwnS e 1 v n (xs.flatMap encI)] h fun u Es _ => u = .tuple #[] ∧ Es = [OwnS e 1 v n ((sortI xs).flatMap encI)] := by
  subst hx
  intro w X0 hl ⟨Ds, ho, hnd, hb⟩
  have H0 : Hp w X0 h [OwnS e 1 v xs.length (xs.flatMap encI)] h w := ⟨rfl, rfl, rfl, Nat.le_refl _, fun _ _ _ => rfl, hl, Le.refl _, fun i o e => .inl e, Ds, ho, hnd, fun b h1 => ⟨(hb b h1).1, .inr (hb b h1).2.1, (hb b h1).2.2⟩⟩
  obtain ⟨D, hA⟩ := H0.get (List.Mem.head _)
  have hA0 := hA
  obtain ⟨hlen, hr⟩ := hA
  rcases hr with ⟨rfl, h0, hD⟩ | ⟨g, cap, cur, rfl, hD, hm, hcap, hmax, hcs, htk⟩
  · have hx : xs = [] := List.eq_nil_of_length_eq_zero h0
    subst hx
    refine (hN none 0 w).mono ?_
    rintro e' w' ⟨rfl, rfl⟩
    have e0 : sortI [] = [] := by simp [sortI]
    exact ⟨_, rfl, _, h, ⟨rfl, by rw [e0]⟩, H0⟩
  · have hm' : w.heap[g]? = some (.cells cur e (0, 0)) := hm
    rw [Nat.mul_one] at hcs htk
    rw [flatMap_encI] at htk
    have hcell : ∀ j, j < xs.length → cur[j]? = some (.int .i64 (xs.getD j 0)) := by
      intro j hj
      have h1 : (cur.toList.take xs.length)[j]? = (xs.map fun i => Value.int .i64 i)[j]? := by rw [htk]
      rw [List.getElem?_take, if_pos hj, List.getElem?_map, List.getElem?_eq_getElem hj] at h1
      rw [← Array.getElem?_toList, h1]; simp [List.getD, List.getElem?_eq_getElem hj]
    refine (hC g 0 cap xs w ?_ ?_ (by omega)).mono ?_
    · intro j hj
      have hj' : j < xs.length := by simpa using hj
      refine ⟨?_, ?_⟩
      · simp only [World.cell?, hm', Nat.zero_add]
        simp [hcell j hj', List.getD, getElem!_pos xs.toArray j (by simpa using hj'), List.getElem?_eq_getElem hj']
      · simp [World.frozen?, hm']
    · exact (Array.getElem?_eq_some_iff.1 hm').1
    rintro e' w' ⟨rfl, k, os, rfl⟩
    refine ⟨_, rfl, _, h, ⟨rfl, rfl⟩, ?_⟩
    have hsl := sortI_len xs
    have hglt : g < w.heap.size := (Array.getElem?_eq_some_iff.1 hm').1
    refine H0.repl .here rfl rfl rfl (by simp [Sort.grow]) fun D1 hA1 hDn hDb => ?_
    have hD1 : D1 = [g] := by
      rcases hA1.2 with ⟨e1, _⟩ | ⟨g', c', cur', e1, e2, _⟩
      · cases e1
      · injection e1 with e1 _; injection e1 with e1; injection e1 with e1; rw [e2, e1]
    subst hD1
    have hold : ∀ i, i < w.heap.size → (Sort.grow (Sort.putRow (Value.int .i64) (Sort.ahead w k) g 0 (xs.mergeSort fun x y => decide (x ≤ y)).toArray) os).heap[i]? = (w.heap.modify g (Sort.onCells (Sort.putCells (Value.int .i64) 0 (sortI xs).toArray)))[i]? := by
      intro i hi
      show (w.heap.modify g _ ++ os)[i]? = _
      rw [Array.getElem?_append_left (by simpa using hi)]; rfl
    refine ⟨[g], ⟨by rw [flatMap_encI]; simp [hsl], .inr ⟨g, cap, Sort.putCells (Value.int .i64) 0 (sortI xs).toArray cur, rfl, rfl, ?_, hcap, hmax, by simp [Sort.putCells, hcs], ?_⟩⟩, by simp, ?_, ?_⟩
    · show (Sort.grow _ os).heap[g]? = _
      rw [hold g hglt, Array.getElem?_modify, if_pos rfl, hm']
      rfl
    · rw [Nat.mul_one, flatMap_encI]
      apply List.ext_getElem?
      intro j
      rw [List.getElem?_take, List.getElem?_map]
      by_cases hj : j < xs.length
      · rw [if_pos hj, Array.getElem?_toList]
        have hjs : j < (sortI xs).length := by omega
        have hcj : j < cur.size := by omega
        simp only [Sort.putCells, Array.getElem?_mapIdx, Array.getElem?_eq_getElem hcj, Option.map_some, Nat.zero_le, true_and, Nat.zero_add, List.size_toArray, hjs, if_true, Nat.sub_zero, List.getElem?_eq_getElem hjs]
        rw [getElem!_pos _ j (by simpa using hjs)]
        simp
      · rw [if_neg hj, List.getElem?_eq_none (by omega)]; rfl
    · intro i hi
      simp only [List.mem_singleton] at hi
      subst hi
      exact ⟨.inl (by simp), by simp [Sort.grow]; omega⟩
    · intro i hi hni
      have hne : g ≠ i := fun e => hni (by simp [e])
      rw [hold i hi, Array.getElem?_modify, if_neg hne]
end Go.Hw
