/- slices.Reverse over []Array: a row of one's own, turned round in place; it has no condition of its own. -/
import Derived.Test.YtcnbajdnlkcjjaaWApart
import Derived.Test.YtcnbajdnlkcjjaaWKept
import Derived.Test.YtcnbajdnlkcjjaaWMore
import Derived.Shelf.SlicesQ.Reverse
import Derived.Test.YtcnbajdnlkcjjaaProg
namespace Go.Proofs.YtcnbajdnlkcjjaaW.PrintWords
open Go.RowKit
namespace Kd
theorem rev_at {α : Type} {xs : List α} {j : Nat} {p : α} (h : xs.reverse[j]? = some p) : j < xs.length ∧ xs[xs.length - 1 - j]? = some p := by
  have hj : j < xs.length := by have := (List.getElem?_eq_some_iff.1 h).1; simpa using this
  refine ⟨hj, ?_⟩
  rw [List.getElem?_reverse hj] at h
  exact h
/-- The row turned round: its cells are those of the old one, element by element. -/
theorem S_rev {α : Type} {d : Kd α} {e : Nat} {w w1 : World} {base : Nat} {ok : Nat → Prop} {g n cap : Nat} {xs : List α}
    (h : S d e w base ok (.slice (some ⟨g, 0, none⟩) n cap) xs)
    (hg : w.grownBy w1 (some g))
    (hrow : ∀ cur, w.heap[g]? = some (.cells cur e (0, 0)) → ∃ cur', w1.heap[g]? = some (.cells cur' e (0, 0)) ∧ cur'.size = cur.size ∧
      ∀ j, j < xs.length → ((cur'.toList.take (xs.length * d.sz)).drop (j * d.sz)).take d.sz = ((cur.toList.take (xs.length * d.sz)).drop ((xs.length - 1 - j) * d.sz)).take d.sz) :
    S d e w1 base ok (.slice (some ⟨g, 0, none⟩) n cap) xs.reverse := by
  obtain ⟨f, h0, inner, ho, hr⟩ := S_bound h
  have hlen : xs.zipIdx.length = xs.length := List.length_zipIdx
  rw [hlen] at ho
  obtain ⟨hin, ho⟩ := ho
  rcases ho with ⟨hv, _⟩ | ⟨g', cap', cur, hv, hb, hh, hle, hml, hsz, htk⟩
  · cases hv
  · injection hv with ha hn hc
    injection ha with ha
    injection ha with ha _ _
    subst ha hn hc
    obtain ⟨cur', hh', hsz', hel⟩ := hrow cur hh
    have hsz2 : (tag f d).sz = d.sz := rfl
    rw [hsz2] at hin hsz htk
    have hcl : cur'.toList.length = cap * d.sz := by rw [show cur'.toList.length = cur'.size from Array.length_toList, hsz', hsz]
    refine ⟨fun k => xs.length - 1 - f k, fun k hk => (h0 k hk).1, cur'.toList.take (xs.length * d.sz), ?_, ?_⟩
    · rw [List.length_zipIdx, List.length_reverse]
      refine ⟨?_, .inr ⟨g, cap, cur', rfl, hb, hh', hle, hml, (by show cur'.size = cap * d.sz; rw [hsz', hsz]), rfl⟩⟩
      show (cur'.toList.take (xs.length * d.sz)).length = xs.length * d.sz
      rw [List.length_take, hcl]
      exact Nat.min_eq_left (Nat.mul_le_mul_right _ hle)
    · refine ⟨?_, fun j q hq => ?_⟩
      · show (cur'.toList.take (xs.length * d.sz)).length = xs.reverse.zipIdx.length * d.sz
        rw [List.length_zipIdx, List.length_reverse, List.length_take, hcl]
        exact Nat.min_eq_left (Nat.mul_le_mul_right _ hle)
      · rw [List.getElem?_zipIdx] at hq
        obtain ⟨p, hp, rfl⟩ := Option.map_eq_some_iff.1 hq
        obtain ⟨hj, hp'⟩ := rev_at hp
        have hM := hr.2 (xs.length - 1 - j) (p, xs.length - 1 - j) (zip_at hp')
        have hM : (tag f d).M w base _ (p, xs.length - 1 - j) ((inner.drop ((xs.length - 1 - j) * d.sz)).take d.sz) := hM
        rw [← htk, ← hel j hj] at hM
        show d.M w1 base _ p (((cur'.toList.take (xs.length * d.sz)).drop (j * d.sz)).take d.sz)
        refine d.M_mono (fun k hk => ⟨⟨hk.1.1.1, hk.1.2⟩, ?_⟩) (d.M_move (w1 := w1) (fun k hk => hg.block k ?_ ?_) hM)
        · have := hk.2
          simp only [Nat.zero_add] at this ⊢
          omega
        · exact hk.1.1.2.2.1
        · intro e_
          exact hk.1.2 (by rw [e_]; rfl)
end Kd
end Go.Proofs.YtcnbajdnlkcjjaaW.PrintWords
namespace Go.Proofs.YtcnbajdnlkcjjaaW.PrintWords
open Go.Shelf Go.Lib
def reverse_ren : Go.Shelf.Ren := ⟨fun x => match x with
  | 35 => 77
  | n => n, fun x => match x with
  | 22 => 38
  | 23 => 26
  | 3 => 3
  | 4 => 4
  | 0 => 0
  | n => n, fun n => n⟩
theorem reverseArr : Go.Proofs.SlLaysE0.n35 Try.prog reverse_ren where
  mixed := by kernel_rfl
  f35 := ⟨Try.f77.name, by kernel_rfl, Try.func77.trans (congrArg some (by kernel_rfl))⟩
  t0 := Try.underlying0
  a0 := Try.isAgg0
  z0 := Try.sizeOf0
  v0 := Try.zeroValue0
  t3 := Try.underlying3
  a3 := Try.isAgg3
  z3 := Try.sizeOf3
  v3 := Try.zeroValue3
  t4 := Try.underlying4
  a4 := Try.isAgg4
  z4 := Try.sizeOf4
  v4 := Try.zeroValue4
  t22 := Try.underlying38
  a22 := Try.isAgg38
  z22 := Try.sizeOf38
  v22 := Try.zeroValue38
end Go.Proofs.YtcnbajdnlkcjjaaW.PrintWords
namespace Go.Proofs.YtcnbajdnlkcjjaaW.PrintWords
open Go.RowKit Go.Sort Go.Shelf Go.Lib
structure Cell2 where
  val : List Value
  property : val.length = 2 ∧ ∀ u ∈ val, u.oneCell' = true
instance : Inhabited Cell2 := ⟨[.slice none 0 0, .slice none 0 0], rfl, by simp [Value.oneCell']⟩
theorem two_at (L : List Value) (j c : Nat) (hc : c < 2) : ((L.drop (j * 2)).take 2)[c]? = L[j * 2 + c]? := by
  rw [List.getElem?_take, if_pos hc, List.getElem?_drop]
theorem cellsOf {n : Nat} (L : List Value) (hL : L.length = n * 2) (h1 : ∀ u ∈ L, u.oneCell' = true) :
    ∃ d : Array Cell2, d.size = n ∧ ∀ j, j < n → ∀ c, c < 2 → (d[j]!).val[c]? = L[j * 2 + c]? := by
  refine ⟨Array.ofFn (n := n) fun j => ⟨(L.drop (j.val * 2)).take 2, by rw [List.length_take, List.length_drop]; have := j.isLt; omega, fun u hu => h1 u (List.mem_of_mem_drop (List.mem_of_mem_take hu))⟩, Array.size_ofFn, fun j hj c hc => ?_⟩
  rw [getElem!_pos _ j (by rw [Array.size_ofFn]; exact hj), Array.getElem_ofFn]
  exact two_at L j c hc
theorem flat_at (d : Array Cell2) (t : Nat) (ht : t < d.size * 2) : (flatK Cell2.val 2 d)[t]? = (d[t / 2]!).val[t % 2]? := by
  have h2 : t % 2 < (d[t / 2]!).val.length := by rw [(d[t / 2]!).property.1]; omega
  rw [Array.getElem?_eq_getElem (by rw [size_flatK]; exact ht), List.getElem?_eq_getElem h2]
  have := get_flatK (Cell2.val : Cell2 → List Value) 2 d t ht
  rw [getElem!_pos (flatK Cell2.val 2 d) t (by rw [size_flatK]; exact ht), getElem!_pos (d[t / 2]!).val (t % 2) h2] at this
  rw [this]
theorem flat_get (d : Array Cell2) (j c : Nat) (hj : j < d.size) (hc : c < 2) : (flatK Cell2.val 2 d)[j * 2 + c]? = (d[j]!).val[c]? := by
  rw [flat_at d _ (by omega), show (j * 2 + c) / 2 = j by omega, show (j * 2 + c) % 2 = c by omega]
theorem put_at {c : Array Value} (F : Array Value) (t : Nat) (ht : t < F.size) (hc : F.size ≤ c.size) : (putCells id 0 F c)[t]? = F[t]? := by
  unfold putCells
  rw [Array.getElem?_mapIdx, Array.getElem?_eq_getElem (show t < c.size by omega), Option.map_some, if_pos ⟨by omega, by omega⟩, Nat.sub_zero, getElem!_pos F t ht, Array.getElem?_eq_getElem ht]
  rfl
theorem slices_Reverse.calls {w : World} {g n cap e : Nat} {cur : Array Value} (hh : w.heap[g]? = some (.cells cur e (0, 0))) (hle : n * 2 ≤ cur.size) (h1 : ∀ u ∈ cur.toList.take (n * 2), u.oneCell' = true) (hn : n ≤ 9223372036854775807) :
    Calls Try.prog 77 #[.slice (some ⟨g, 0, none⟩) n cap] w fun e_ w1 => e_ = .returned (.tuple #[]) ∧ w.grownBy w1 (some g) ∧
      ∃ cur', w1.heap[g]? = some (.cells cur' e (0, 0)) ∧ cur'.size = cur.size ∧ ∀ j, j < n → ((cur'.toList.take (n * 2)).drop (j * 2)).take 2 = ((cur.toList.take (n * 2)).drop ((n - 1 - j) * 2)).take 2 := by
  have hcl : (cur.toList.take (n * 2)).length = n * 2 := by rw [List.length_take, Array.length_toList]; omega
  obtain ⟨d, hd, hel⟩ := cellsOf (cur.toList.take (n * 2)) hcl h1
  subst hd
  have hH : HoldsK Cell2.val 2 w g 0 d := by
    intro t ht
    rw [size_flatK] at ht
    refine ⟨?_, by simp [World.frozen?, hh]⟩
    rw [Nat.zero_add, cell_of_row w g t cur e (0, 0) hh]
    have hf := flat_at d t ht
    rw [Array.getElem?_eq_getElem (show t < (flatK Cell2.val 2 d).size by rw [size_flatK]; exact ht)] at hf
    rw [hel (t / 2) (by omega) (t % 2) (by omega), List.getElem?_take, if_pos (by omega), Array.getElem?_toList, show t / 2 * 2 + t % 2 = t by omega] at hf
    rw [← hf, getElem!_pos _ t (by rw [size_flatK]; exact ht)]
    rfl
  refine (AnyQ.slices_Reverse reverseArr 2 Try.isAgg26 Try.sizeOf26 (Cell2.val : Cell2 → List Value) (fun x => x.property.1) (fun x => x.property.2) g 0 cap d w hH hn).mono ?_
  rintro e_ w1 ⟨rfl, m, rfl⟩
  refine ⟨rfl, ⟨rfl, rfl, rfl, ?_, ?_⟩, putCells id 0 (flatK Cell2.val 2 d.reverse) cur, ?_, ?_, ?_⟩
  · simp [putRowK, putRow, mapBlock]
  · intro k _ hk
    simp only [putRowK, putRow, mapBlock, Array.getElem?_modify]
    rw [if_neg (fun e_ => hk (by rw [e_]))]
    rfl
  · simp only [putRowK, putRow, mapBlock, Array.getElem?_modify, if_true]
    rw [show (Go.Sort.ahead w m).heap = w.heap from rfl, hh]
    rfl
  · simp [putCells]
  · intro j hj
    apply List.ext_getElem?
    intro c
    by_cases hc : c < 2
    · rw [two_at _ _ _ hc, two_at _ _ _ hc, List.getElem?_take, if_pos (by omega), Array.getElem?_toList, put_at _ _ (by rw [size_flatK, Array.size_reverse]; omega) (by rw [size_flatK, Array.size_reverse]; exact hle),
        flat_get _ _ _ (by rw [Array.size_reverse]; exact hj) hc, ← hel (d.size - 1 - j) (by omega) c hc]
      rw [getElem!_pos _ j (by rw [Array.size_reverse]; exact hj), Array.getElem_reverse, getElem!_pos d _ (by omega)]
    · rw [List.getElem?_eq_none (by rw [List.length_take]; omega), List.getElem?_eq_none (by rw [List.length_take]; omega)]
end Go.Proofs.YtcnbajdnlkcjjaaW.PrintWords

namespace Go.Proofs.YtcnbajdnlkcjjaaW.PrintWords
open Go.RowKit Go.Sort Go.Shelf Go.Lib
theorem Reps.ones {α : Type} {R : α → List Value → Prop} {ps : List α} {cs : List Value} (h : Reps R 2 ps cs) (h1 : ∀ p c, R p c → ∀ u ∈ c, u.oneCell' = true) : ∀ u ∈ cs, u.oneCell' = true := by
  intro u hu
  obtain ⟨i, hi, rfl⟩ := List.getElem_of_mem hu
  have hl := h.1
  have hj : i / 2 < ps.length := by omega
  refine h1 _ _ (h.2 (i / 2) _ (List.getElem?_eq_getElem hj)) _ (List.mem_of_getElem? (i := i % 2) ?_)
  rw [two_at _ _ _ (by omega), show i / 2 * 2 + i % 2 = i by omega, List.getElem?_eq_getElem hi]
theorem rev_S {α : Type} {d : Kd α} (h2 : d.sz = 2) {e : Nat} {w : World} {base : Nat} {ok : Nat → Prop} {v : Value} {xs : List α} (h : Kd.S d e w base ok v xs) :
    Calls Try.prog 77 #[v] w fun e_ w1 => e_ = .returned (.tuple #[]) ∧ w.grownBy w1 v.ownBlock ∧ Kd.S d e w1 base ok v xs.reverse := by
  obtain ⟨h0, inner, ho, hr⟩ := Kd.S_R h
  rw [h2] at ho hr
  have hone := Reps.ones hr (fun p c hp => d.K_one (d.K_of_M hp))
  obtain ⟨hin, ho⟩ := ho
  rcases ho with ⟨rfl, hn⟩ | ⟨g, cap, cur, rfl, hb, hh, hle, hml, hsz, htk⟩
  · have hx : xs = [] := List.eq_nil_of_length_eq_zero hn
    subst hx
    refine (AnyQ.slices_Reverse_empty reverseArr none 0 w).mono ?_
    rintro e_ w1 ⟨rfl, rfl⟩
    exact ⟨rfl, World.grownBy.refl _ _, h⟩
  · refine (slices_Reverse.calls hh (by rw [hsz]; exact Nat.mul_le_mul_right _ hle) (by rw [htk]; exact hone) (by simp only [maxLen] at hml; omega)).mono ?_
    rintro e_ w1 ⟨rfl, hg, cur', hh', hsz', hel⟩
    refine ⟨rfl, hg, Kd.S_rev h hg (fun c hc => ?_)⟩
    rw [hh] at hc
    injection hc with hc
    injection hc with hc _ _
    subst hc
    exact ⟨cur', hh', hsz', by rw [h2]; exact hel⟩
end Go.Proofs.YtcnbajdnlkcjjaaW.PrintWords
