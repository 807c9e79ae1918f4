/- Between two ways of telling a row of structs in memory: the print's and the sort's. Plain lemmas on worlds, no condition. -/
import Derived.Test.YtpndhkeoljoapaaGreatWMore
import Derived.Sort.Grow
import Derived.Shelf.GgSortFunc.InsertionK
import Derived.Laws.OwnMore
namespace Go.Proofs.YtpndhkeoljoapaaGreat.Bridge
open Go.RowKit Go.Sort Go.Proofs.YtpndhkeoljoapaaGreatW.PrintWords Go.Proofs.YtpndhkeoljoapaaGreatW.PrintLast Go.Proofs.YtpndhkeoljoapaaGreatW.PrintMore
set_option linter.unusedVariables false
set_option linter.unusedSimpArgs false

/-- Draws, and blocks behind: nothing else. -/
structure Grw (w w' : World) : Prop where mk :: (out : ∃ q os', w' = grow (w.drewN q) os')
theorem Grw.refl (w : World) : Grw w w := ⟨⟨0, #[], by simp [grow, World.drewN]⟩⟩
theorem Grw.drewN {w w' : World} (h : Grw w w') (n : Nat) : Grw w (w'.drewN n) := by
  obtain ⟨q, os, rfl⟩ := h
  exact ⟨⟨q + n, os, by simp [grow, World.drewN, Nat.add_assoc]⟩⟩
theorem Grw.drew {w w' : World} (h : Grw w w') : Grw w w'.drew := h.drewN 1
theorem Grw.alloc {w w' : World} (h : Grw w w') (o : Obj) : Grw w (w'.alloc o) := by
  obtain ⟨q, os, rfl⟩ := h
  exact ⟨⟨q, os.push o, by show { (grow (w.drewN q) os) with heap := (grow (w.drewN q) os).heap.push o } = _; simp [grow]⟩⟩
theorem Grw.below {w w' : World} (h : Grw w w') : Below w.heap.size w w' := by
  obtain ⟨q, os, rfl⟩ := h
  exact ⟨rfl, rfl, rfl, by simp [grow, World.drewN], fun k hk => by simp [grow, World.drewN, Array.getElem?_append, hk]⟩
theorem cell_old {W : World} {o : Obj} {a : Addr} {v : Value} (h : W.cell? a = some v) : (W.alloc o).cell? a = some v := by
  have hb := World.block_lt_of_cell? W a h
  exact ((below_alloc (Below.refl W.heap.size W) o).cell hb).trans h
section
variable {P : Program} {ops : Array Oper} {Q : Exit → Act → World → Prop} {o : Oper} {a : Act} {Kc : Act → World → Prop}
theorem lit_exact {W : World} {inner : List Value} {e : TypeId} {n : Nat} (hw : Region.wanted o (yielded ops a.tmps) = true)
    (hrun : (execOp a.eval o).run P W = .ok (.value (.slice (some ⟨W.heap.size, 0, none⟩) n n)) (W.alloc (.cells inner.toArray e)))
    (h : Kc (a.put o.dst (.slice (some ⟨W.heap.size, 0, none⟩) n n)) (W.alloc (.cells inner.toArray e))) : if Region.wanted o (yielded ops a.tmps) = true then Oper.wp P o a W Kc Q else Kc (a.put o.dst undef) W := event_step hw hrun h
end

theorem add_at (b off k : Nat) : (⟨b, off, none⟩ : Addr).add k = ⟨b, off + k, none⟩ := by unfold Addr.add; split <;> simp_all

/-- A function value that tells of each value whether it is picked; it turns nothing that was there. -/
def PredOn (P : Program) (g : Nat) (lb : Array Value) {α : Type} (enc : α → Value) (p : α → Bool) (w : World) : Prop :=
  ∀ (W : World) (x : α), Below w.heap.size w W → Calls P g (#[enc x] ++ lb) W fun e w' => e = .returned (.bool (p x)) ∧ Below W.heap.size W w'

/-- A kind whose values are their cells, and lead nowhere. -/
structure Flat {α : Type} (d : Kd α) (enc : α → List Value) : Prop where
  K : ∀ w x cs, d.K w x cs ↔ cs = enc x
  M : ∀ w base ok x cs, d.M w base ok x cs ↔ cs = enc x
  len : ∀ x, (enc x).length = d.sz
  pos : 0 < d.sz
  one : ∀ x, ∀ v ∈ enc x, v.oneCell' = true

section
variable {α : Type} [Inhabited α] {d : Kd α} {enc : α → List Value} {W w1 : World} {e base : Nat} {ok : Nat → Prop} {v : Value} {l : List α}

theorem reps_at (hF : Flat d enc) {cs : List Value} (h : Reps (fun p c => c = enc p) d.sz l cs) (t : Nat) (ht : t < l.length * d.sz) : cs[t]? = (enc (l.toArray[t / d.sz]!))[t % d.sz]? := by
  have hp := hF.pos
  have hj : t / d.sz < l.length := Nat.div_lt_of_lt_mul (by rw [Nat.mul_comm]; exact ht)
  have h2 := h.2 (t / d.sz) l[t / d.sz] (List.getElem?_eq_getElem hj)
  have e : l.toArray[t / d.sz]! = l[t / d.sz] := by rw [getElem!_pos _ _ (by simpa using hj)]; simp
  rw [e, ← h2, List.getElem?_take_of_lt (Nat.mod_lt _ hp), List.getElem?_drop]
  congr 1
  have := Nat.div_add_mod t d.sz
  rw [Nat.mul_comm] at this
  exact this.symm

theorem flat_get (hF : Flat d enc) {cs : List Value} (h : Reps (fun p c => c = enc p) d.sz l cs) (t : Nat) (ht : t < l.length * d.sz) : cs[t]? = some ((flatK enc d.sz l.toArray)[t]!) := by
  have hp := hF.pos
  rw [reps_at hF h t ht, get_flatK _ _ _ _ (by simpa using ht)]
  have := hF.len (l.toArray[t / d.sz]!)
  generalize enc (l.toArray[t / d.sz]!) = c at this ⊢
  rw [getElem!_pos c _ (by rw [this]; exact Nat.mod_lt _ hp)]
  exact List.getElem?_eq_getElem _

/-- What is owned and not empty lies at the head of a block, as the sort wants it. -/
theorem holds_of_R (hF : Flat d enc) (h : d.R e W base ok v l) (hl : l ≠ []) :
    ∃ g cap, v = .slice (some ⟨g, 0, none⟩) l.length cap ∧ base ≤ g ∧ g < W.heap.size ∧ ok g ∧ HoldsK enc d.sz W g 0 l.toArray := by
  obtain ⟨hok, inner, ho, hr⟩ := h
  have hr' : Reps (fun p c => c = enc p) d.sz l inner := hr.imp_ fun p c hp => (hF.M _ _ _ _ _).1 hp
  have hlen : 0 < l.length := by cases l with | nil => exact absurd rfl hl | cons => simp
  rcases ho.2 with ⟨_, h0⟩ | ⟨g, cap, cur, rfl, hb, hh, hcap, hmax, hcs, htk⟩
  · exact absurd h0 (by omega)
  · have hg : g < W.heap.size := (Array.getElem?_eq_some_iff.1 hh).1
    refine ⟨g, cap, rfl, hb, hg, hok g rfl, fun t ht => ?_⟩
    rw [size_flatK] at ht
    simp only [List.size_toArray] at ht
    rw [Nat.zero_add]
    refine ⟨?_, ?_⟩
    · rw [ho.cellAt t ht, flat_get hF hr' t ht]; rfl
    · simp [World.frozen?, hh]

theorem heap_sortWorldK (k : Nat) (g n : Nat) (d' : Array α) (os : Array Obj) (j : Nat) (hj : j < W.heap.size) (hne : j ≠ g) : (sortWorldK enc k W g 0 n d' os).heap[j]? = W.heap[j]? := by
  show (W.heap.modify g (onCells (putCells id 0 (flatK enc k d'))) ++ os)[j]? = _
  rw [Array.getElem?_append_left (by simpa using hj), Array.getElem?_modify, if_neg (fun h => hne h.symm)]
theorem heap_sortWorldK_at (k : Nat) (g n : Nat) (d' : Array α) (os : Array Obj) {cur : Array Value} {t : TypeId} {fr : Nat × Nat} (hg : W.heap[g]? = some (.cells cur t fr)) : (sortWorldK enc k W g 0 n d' os).heap[g]? = some (.cells (putCells id 0 (flatK enc k d') cur) t fr) := by
  have hlt : g < W.heap.size := (Array.getElem?_eq_some_iff.1 hg).1
  show (W.heap.modify g (onCells (putCells id 0 (flatK enc k d'))) ++ os)[g]? = _
  rw [Array.getElem?_append_left (by simpa using hlt), Array.getElem?_modify, if_pos rfl, hg]
  rfl
theorem below_sortWorldK (k : Nat) (g n : Nat) (d' : Array α) (os : Array Obj) {B : Nat} (hg : B ≤ g) (hB : B ≤ W.heap.size) : Below B W (sortWorldK enc k W g 0 n d' os) :=
  ⟨rfl, rfl, rfl, (by show W.heap.size ≤ (W.heap.modify g (onCells (putCells id 0 (flatK enc k d'))) ++ os).size; simp), fun j hj => heap_sortWorldK k g n d' os j (by omega) (by omega)⟩

/-- .. and behind the sort it is owned as before, holding what the sort laid. -/
theorem R_of_sorted (hF : Flat d enc) {g cap : Nat} (h : d.R e W base ok (.slice (some ⟨g, 0, none⟩) l.length cap) l) (n : Nat) (d' : Array α) (hs : d'.size = l.length) (os : Array Obj) :
    d.R e (sortWorldK enc d.sz W g 0 n d' os) base ok (.slice (some ⟨g, 0, none⟩) l.length cap) d'.toList := by
  obtain ⟨hok, inner, ho, hr⟩ := h
  refine ⟨hok, (flatK enc d.sz d').toList, ?_, ?_⟩
  · refine ⟨by simp, ?_⟩
    rcases ho.2 with ⟨h0, _⟩ | ⟨g', cap', cur, hv, hb, hh, hcap, hmax, hcs, htk⟩
    · simp at h0
    · simp only [Value.slice.injEq, Option.some.injEq, Addr.mk.injEq, and_true, true_and] at hv
      obtain ⟨rfl, rfl⟩ := hv
      refine .inr ⟨g, cap, _, by simp [hs], hb, heap_sortWorldK_at d.sz g n d' os hh, by simpa [hs] using hcap, hmax, by simp [putCells, hcs], ?_⟩
      have hsz : l.length * d.sz ≤ cur.size := by rw [hcs]; exact Nat.mul_le_mul_right _ hcap
      apply List.ext_getElem?
      intro t
      rw [List.getElem?_take]
      simp only [Array.length_toList, hs]
      by_cases ht : t < l.length * d.sz
      · rw [if_pos ht, Array.getElem?_toList, Array.getElem?_toList]
        have h1 : (putCells id 0 (flatK enc d.sz d') cur)[t]? = some ((flatK enc d.sz d')[t]!) := by
          unfold putCells
          rw [Array.getElem?_mapIdx]
          have : t < cur.size := by omega
          rw [Array.getElem?_eq_getElem this]
          simp only [Option.map_some]
          rw [if_pos ⟨Nat.zero_le _, by simp [hs]; exact ht⟩]; rfl
        rw [h1, Array.getElem?_eq_getElem (by simp [hs]; exact ht), getElem!_pos (flatK enc d.sz d') t (by simp [hs]; exact ht)]
      · rw [if_neg ht, Array.getElem?_toList, Array.getElem?_eq_none (by simp [hs]; omega)]
  · refine ⟨by simp, fun j p hp => (hF.M _ _ _ _ _).2 ?_⟩
    have hj : j < d'.size := by
      have := (List.getElem?_eq_some_iff.1 hp).1
      simpa using this
    have hpe : d'[j]! = p := by
      rw [Array.getElem?_toList, Array.getElem?_eq_getElem hj] at hp
      rw [getElem!_pos d' j hj]
      exact Option.some.inj hp
    have hps := hF.pos
    have hle : j * d.sz + d.sz ≤ d'.size * d.sz := by rw [← Nat.succ_mul]; exact Nat.mul_le_mul_right _ hj
    apply List.ext_getElem?
    intro t
    rw [List.getElem?_take]
    by_cases ht : t < d.sz
    · rw [if_pos ht, List.getElem?_drop, Array.getElem?_toList, Array.getElem?_eq_getElem (by simp; omega), ← getElem!_pos (flatK enc d.sz d') (j * d.sz + t) (by simp; omega), get_flatK _ _ _ _ (by omega)]
      have q1 : (j * d.sz + t) / d.sz = j := by rw [Nat.mul_comm, Nat.mul_add_div hps, Nat.div_eq_of_lt ht, Nat.add_zero]
      have q2 : (j * d.sz + t) % d.sz = t := by rw [Nat.mul_comm, Nat.mul_add_mod, Nat.mod_eq_of_lt ht]
      rw [q1, q2, hpe, getElem!_pos (enc p) t (by rw [hF.len]; exact ht)]
      exact (List.getElem?_eq_getElem _).symm
    · rw [if_neg ht, List.getElem?_eq_none (by rw [hF.len]; omega)]

end
end Go.Proofs.YtpndhkeoljoapaaGreat.Bridge
