/- What these Go functions compute, as Lean functions, and that they do. No condition. -/
import Derived.Test.YtpndhkeoljoapaaGreatPx0
namespace Go.Proofs.YtpndhkeoljoapaaGreat.P
open Go.RowKit Go.Proofs.YtpndhkeoljoapaaGreatW.PrintWords Go.Proofs.YtpndhkeoljoapaaGreatW.PrintLast Go.Proofs.YtpndhkeoljoapaaGreatW.PrintMore
attribute [local go_sem] max2_int min2_int max_two min_two max_three min_three max_four min_four   -- for this text's walks alone
set_option linter.unusedVariables false
set_option linter.unusedSimpArgs false
set_option linter.unnecessarySimpa false
theorem iteS3 {α : Type} {c : Prop} [Decidable c] {a : Option α} {r : α} (h : (if c then a else none) = some r) : c ∧ a = some r := by
  by_cases hc : c
  · rw [if_pos hc] at h; exact ⟨hc, h⟩
  · rw [if_neg hc] at h; cases h

/-! ### sortedEdges: function 59 (given) -/
def encEdge (x : S48) : List Value := [.int .i64 x.f0, .int .i64 x.f1, .int .i64 x.f2]
def encE (x : S48) : Value := .agg #[.int .i64 x.f0, .int .i64 x.f1, .int .i64 x.f2]
instance : Inhabited S48 := ⟨z48⟩
section
open Go.Sort Go.Shelf Go.Maps Go.Proofs.YtpndhkeoljoapaaGreat.Bridge
theorem encEdge_one (x : S48) : ∀ v ∈ encEdge x, v.oneCell' = true := by
  intro v hv
  simp only [encEdge, List.mem_cons, List.not_mem_nil, or_false] at hv
  rcases hv with rfl | rfl | rfl <;> rfl
theorem flatEdge : Flat k48 encEdge where
  K w x cs := ⟨fun h => k48_open h, fun h => h ▸ k48_mk w x⟩
  M w base ok x cs := ⟨fun h => k48_openM h, fun h => h ▸ k48_mkM w base ok x⟩
  len x := rfl
  pos := by decide
  one := encEdge_one
theorem rd_edge (l : List S48) (i : Nat) (h : i < l.length) : rd_T48 l (i : Int) = l[i] := by
  unfold rd_T48
  simp [List.getD_eq_getElem?_getD, List.getElem?_eq_getElem h]
theorem meas_lt (n i : Nat) (h : i < n) : n - (intOf (.int .i64 ((i : Int) + 1))).toNat < n - (intOf (.int .i64 (i : Int))).toNat := by
  show n - ((i : Int) + 1).toNat < n - (i : Int).toNat
  omega
set_option maxRecDepth 100000 in
set_option maxHeartbeats 4000000 in
/-- The iterator over a slice's elements: they come, each once, in order, as long as a round leaves what was there. -/
theorem values_yields (F : Fence) (n : Nat) (hF : F.fn 80) (hro : F.round = none) (hn : 1 ≤ n) (l Bm : Nat) (A : Option Addr) (c : Nat) (es : List S48) (w0 : World) (hlen : es.length ≤ 9223372036854775806) (J : List S48 → World → Prop)
    (hJB : ∀ s W, J s W → Below w0.heap.size w0 W)
    (hY : ∀ pre x W, J pre W → pre.length < es.length → YieldAt F (n - 1) Tryz.prog l #[encE x] W fun e W' => e = .returned (.bool true) ∧ J (pre ++ [x]) W' ∧ KeepsWalks W W')
    (W : World) (hJ : AbidesFrom W.heap.size J) (hm0 : Bm < w0.heap.size) (hm : w0.cell? ⟨Bm, 0, none⟩ = some (.slice A es.length c)) (hC : Kd.C k48 w0 A es.length es) (h0 : J [] W) :
    CallsIn F n Tryz.prog 80 #[.func (.yield l) #[] #[], .pointer (some ⟨Bm, 0, none⟩)] W fun e W' => (∃ v, e = .returned v) ∧ J es W' := by
  have hmW : W.cell? ⟨Bm, 0, none⟩ = some (.slice A es.length c) := ((hJB _ _ h0).cell (p := ⟨Bm, 0, none⟩) hm0).trans hm
  have HC := Aside0.mk hC
  have HL := Aside0.mk hlen
  clear hm0 hm hC hlen
  refine callsIn_of_wp Tryz.func80 rfl hF ?_ hro
  simp only [Tryz.ntmps80, List.size_toArray, List.length_cons, List.length_nil, Nat.reduceAdd, Nat.reduceSub, Array.replicate_succ, Array.replicate_zero, List.push_toArray, List.append_toArray, List.nil_append, List.cons_append]
  gi_wp2_with gi_in
  gi_loopw [7] (fun v7 wr => ∃ i : Nat, v7 = .int .i64 (i : Int) ∧ Aside0 (i ≤ es.length) ∧ Aside0 (J (es.take i) wr)) (fun v7 _ => es.length - (intOf v7).toNat)
  case atStart => exact ⟨0, rfl, ⟨Nat.zero_le _⟩, ⟨by simpa using h0⟩⟩
  case round =>
    obtain ⟨i, rfl, HI, HJ⟩ := hrel
    by_cases hlt : i < es.length
    · have c1 : decide ((i : Int) < (es.length : Int)) = true := decide_eq_true (by omega)
      have c1n : decide (i < es.length) = true := decide_eq_true hlt
      have p1 : 0 ≤ (i : Int) := by omega
      have q1 : (i : Int) < (es.length : Int) := by omega
      have HB := Aside0.mk (hJB _ _ HJ.out)
      obtain ⟨ad, e1, hx0, hx1, hx2⟩ := at_T48 (Kd.C_below HC.out HB.out) (i : Int) p1 q1
      cases e1
      rw [rd_edge es i hlt, Int.toNat_natCast] at hx0 hx1 hx2
      have hts : es.take (i + 1) = es.take i ++ [es[i]] := by rw [List.take_succ_eq_append_getElem hlt]
      have HLT := Aside0.mk hlt
      generalize hy : es[i] = y at hx0 hx1 hx2 hts
      clear hy
      have HTS := Aside0.mk hts
      clear hts hlt
      replace p1 := eq_true p1
      replace q1 := eq_true q1
      have hw1 : wrap64 ((i : Int) + 1) = (i : Int) + 1 := by have h1 := HL.out; have h2 := HLT.out; unfold wrap64; omega
      have hJ2 : J (es.take i) (wr.alloc (.cells #[.int .i64 y.f0, .int .i64 y.f1, .int .i64 y.f2] 48)) := hJ _ _ _ none HJ.out (World.grownBy_alloc wr _ none) (fun r e => by cases e)
      obtain ⟨fn, tmps, assign, body, hy, hR⟩ := hY (es.take i) y _ hJ2 (by have := HLT.out; simp; omega)
      unfold encE at hy
      gi_wp2
      refine hR.mono ?_
      rintro e W3 ⟨rfl, hJ3, hk3⟩
      gi_wp2
      go_roundw
      case rel => exact ⟨i + 1, by go_num, ⟨by have := HLT.out; omega⟩, ⟨by rw [HTS.out]; exact hJ3⟩⟩
      case measure => rw [hw1]; exact meas_lt _ _ HLT.out
    · have c1 : decide ((i : Int) < (es.length : Int)) = false := decide_eq_false (by omega)
      have c1n : decide (i < es.length) = false := decide_eq_false hlt
      have hi : i = es.length := by have := HI.out; omega
      have HJ3 : Aside0 (J es wr) := ⟨by have := HJ.out; rwa [hi, List.take_length] at this⟩
      clear hi HJ HI hlt
      gi_wp2
      go_end0
      exact ⟨⟨_, rfl⟩, HJ3.out⟩

/-- The two codes of a loop over a function, wherever it lies. -/
def rangeOf : Code → Option (Code × Code)
  | .rangeFunc _ _ a b => some (a, b)
  | .seq a b => (rangeOf a).or (rangeOf b)
  | .block _ c => rangeOf c
  | _ => none
noncomputable def apCode : Code × Code := ((Tryz.f95.body.bind rangeOf).getD (.skip, .skip))
noncomputable def apAssign : Code := apCode.1
noncomputable def apBody : Code := apCode.2
/-- The loop's record: AppendSeq's temporaries as they stood at the entering: the slice boxed in block Bs; sv: the iterator's value. -/
noncomputable def apRec (fn : FuncId) (sv : Value) (Bs D : Nat) (st : LoopState) (pend : Option Code) : Loop :=
  { state := st, pending := pend, fn, tmps := #[.slice none 0 0, sv, .pointer (some ⟨Bs, 0, none⟩), undef, .slice none 0 0, undef, sv, undef, undef, undef, undef, undef, undef], params := #[7], assign := apAssign, body := apBody, defers := D }
/-- Between two rounds: the box holds a slice that owns, in a block of the call's own, what has come so far; nothing that lay before the call has turned. -/
structure ApAt (w0 : World) (fn : FuncId) (sv : Value) (Bs l D : Nat) (ss : List S48) (W : World) : Prop where
  box : ∃ v, W.heap[Bs]? = some (.cells #[v] 22 (0, 0)) ∧ W.ownsRow w0.heap.size 48 3 v ss.length (ss.flatMap encEdge)
  L : W.heap[l]? = some (.loop (apRec fn sv Bs D .ready none))
  K : W.heap[D]? = some (.deferred (some []))
  below : Below w0.heap.size w0 W
theorem ownsRow_abides {W W' : World} {row : Option Nat} {base : Nat} {e : TypeId} {size : Nat} {v : Value} {k : Nat} {xs : List Value} (h : W.ownsRow base e size v k xs) (hg : W.grownBy W' row)
    (hrow : ∀ r, row = some r → ∃ o : Obj, W.heap[r]? = some o ∧ o.isWalk = true) : W'.ownsRow base e size v k xs := by
  refine h.kept hg ?_
  rcases h.2 with ⟨rfl, _⟩ | ⟨g, cap, cur, rfl, _, hgb, _⟩
  · exact .inl rfl
  · refine .inr fun e' => ?_
    obtain ⟨o, ho, hw⟩ := hrow g (by simpa [Value.ownBlock] using e'.symm)
    rw [hgb] at ho; cases ho; cases hw
theorem ap_abides (w0 : World) (fn : FuncId) (sv : Value) (Bs l D B : Nat) (hB : w0.heap.size ≤ B) : AbidesFrom B (ApAt w0 fn sv Bs l D) := fun s W W' row h hg hrow => by
  have hrow' : ∀ r, row = some r → ∃ o : Obj, W.heap[r]? = some o ∧ o.isWalk = true := fun r e => (hrow r e).2
  obtain ⟨v, hv, hr⟩ := h.box
  exact ⟨⟨v, (grownBy_keeps hg hrow' hv rfl).trans hv, ownsRow_abides hr hg hrow'⟩, (grownBy_keeps hg hrow' h.L rfl).trans h.L, (grownBy_keeps hg hrow' h.K rfl).trans h.K,
    h.below.grown hg h.below.size (fun k e => Nat.le_trans hB (hrow k e).1)⟩
theorem grownBy_putObj0 (W : World) (l : Nat) (o : Obj) : W.grownBy (W.putObj l o) (some l) :=
  ⟨rfl, rfl, rfl, by simp, fun k _ hk => World.putObj_heap_other (fun e => hk (by rw [e]))⟩
theorem grownBy_setCell0 (W : World) (b : Nat) (v : Value) : W.grownBy (W.setCell ⟨b, 0, none⟩ v) (some b) :=
  ⟨rfl, rfl, rfl, (KeepsWalks.setCell W _ v).size, fun k _ hk => Below.heap_setCell _ _ _ k (fun e => hk (by rw [e]))⟩
theorem ownsRow_ne {W : World} {base : Nat} {e : TypeId} {size : Nat} {v : Value} {k : Nat} {xs : List Value} (h : W.ownsRow base e size v k xs) {j : Nat} {o : Obj} (hj : W.heap[j]? = some o) (hno : ∀ cur, o ≠ .cells cur e (0, 0)) :
    v.ownBlock = none ∨ v.ownBlock ≠ some j := by
  rcases h.2 with ⟨rfl, _⟩ | ⟨g, cap, cur, rfl, _, hgb, _⟩
  · exact .inl rfl
  · refine .inr fun e' => ?_
    have : g = j := by simpa [Value.ownBlock] using e'
    subst this; rw [hgb] at hj; cases hj; exact hno cur rfl
theorem cell_of_box {W : World} {B : Nat} {v : Value} {t : TypeId} (h : W.heap[B]? = some (.cells #[v] t (0, 0))) : W.cell? ⟨B, 0, none⟩ = some v ∧ W.frozen? ⟨B, 0, none⟩ = false := by
  constructor <;> simp [World.cell?, World.frozen?, h]
theorem heap_setCell_box {W : World} {B : Nat} {v : Value} {t : TypeId} (v' : Value) (h : W.heap[B]? = some (.cells #[v] t (0, 0))) : (W.setCell ⟨B, 0, none⟩ v').heap[B]? = some (.cells #[v'] t (0, 0)) := by
  obtain ⟨hlt, hk⟩ := Array.getElem?_eq_some_iff.1 h
  show (W.heap.modify B _)[B]? = _
  rw [Array.getElem?_eq_getElem (by rw [Array.size_modify]; exact hlt), Array.getElem_modify_self, hk]
  rfl
theorem ownsRow_not_walk {W : World} {base : Nat} {e : TypeId} {size : Nat} {v : Value} {k : Nat} {xs : List Value} (h : W.ownsRow base e size v k xs) : ∀ (j : Nat) (o : Obj), v.ownBlock = some j → W.heap[j]? = some o → o.isWalk = false := by
  intro j o hj ho
  rcases h.2 with ⟨rfl, _⟩ | ⟨g, cap, cur, rfl, _, hgb, _⟩
  · simp [Value.ownBlock] at hj
  · have : g = j := by simpa [Value.ownBlock] using hj
    subst this; rw [hgb] at ho; cases ho; rfl
theorem cells3_new (W : World) (a b c : Value) (t : TypeId) : ∀ j u, [a, b, c][j]? = some u → (W.alloc (.cells #[a, b, c] t)).cell? ((⟨W.heap.size, 0, none⟩ : Addr).add j) = some u := by
  intro j u hj
  rw [Bridge.add_at, Nat.zero_add, World.cell?_alloc_at _ _ _ _ rfl]
  simpa using hj
set_option maxRecDepth 100000 in
set_option maxHeartbeats 4000000 in
theorem ap_yield (F : Fence) (m : Nat) (w0 : World) (fn : FuncId) (hfn : F.fn fn) (sv : Value) (Bs l D : Nat) (hBl : Bs ≠ l) (hDl : D ≠ l) (hDB : D ≠ Bs) (h0B : w0.heap.size ≤ Bs) (h0l : w0.heap.size ≤ l)
    (N : Nat) (hN : N < 5864062014805) (ss : List S48) (x : S48) (W : World) (h : ApAt w0 fn sv Bs l D ss W) (hlen : ss.length < N) :
    YieldAt F m Tryz.prog l #[encE x] W fun e W' => e = .returned (.bool true) ∧ ApAt w0 fn sv Bs l D (ss ++ [x]) W' ∧ KeepsWalks W W' := by
  obtain ⟨i0, hi, hz0, hz1, hz2⟩ := info_parts info48
  have hL0 := h.L
  obtain ⟨W1, hW1⟩ : ∃ W1, W.alloc (.cells #[.int .i64 x.f0, .int .i64 x.f1, .int .i64 x.f2] 48) = W1 := ⟨_, rfl⟩
  have hg1 : W.grownBy W1 none := by rw [← hW1]; exact World.grownBy_alloc W _ none
  have hk1 : KeepsWalks W W1 := by rw [← hW1]; exact KeepsWalks.alloc _ _
  have hx : W1.heap[W.heap.size]? = some (.cells #[.int .i64 x.f0, .int .i64 x.f1, .int .i64 x.f2] 48 (0, 0)) := by rw [← hW1]; exact World.alloc_heap_new W _
  have hxr : W.heap.size ≠ Bs ∧ W.heap.size ≠ l ∧ W.heap.size ≠ D := by
    obtain ⟨v, hv, _⟩ := h.box
    have a1 := (Array.getElem?_eq_some_iff.1 hv).1
    have a2 := (Array.getElem?_eq_some_iff.1 h.L).1
    have a3 := (Array.getElem?_eq_some_iff.1 h.K).1
    omega
  have hxo : ∀ v, W.ownsRow w0.heap.size 48 3 v ss.length (ss.flatMap encEdge) → some W.heap.size ≠ v.ownBlock := fun v hr e => by
    have := hr.lt W.heap.size e.symm
    omega
  have h1 : ApAt w0 fn sv Bs l D ss W1 := ap_abides w0 fn sv Bs l D w0.heap.size (Nat.le_refl _) ss W W1 none h hg1 (fun r e => by cases e)
  obtain ⟨v, hv, hrow⟩ := h1.box
  have hxv : some W.heap.size ≠ v.ownBlock := by
    obtain ⟨v', hv', hr'⟩ := h.box
    have := (hg1.block Bs (Array.getElem?_eq_some_iff.1 hv').1 (by simp)).symm.trans hv
    rw [hv'] at this
    simp only [Option.some.injEq, Obj.cells.injEq] at this
    obtain ⟨rfl⟩ : v' = v := by simpa using this.1
    exact hxo _ hr'
  refine ⟨fn, #[.slice none 0 0, sv, .pointer (some ⟨Bs, 0, none⟩), undef, .slice none 0 0, undef, sv, encE x, undef, undef, undef, undef, undef], apAssign, apBody, by simpa [apRec] using run_yield (P := Tryz.prog) (args := #[encE x]) hL0 rfl, roundIn_of_wpIn hfn ?_⟩
  have hl : l < W1.heap.size := (Array.getElem?_eq_some_iff.1 h1.L).1
  have hbr := run_beginRound (P := Tryz.prog) h1.L rfl
  obtain ⟨W2, hW2⟩ : ∃ W2, W1.putObj l (.loop { apRec fn sv Bs D .ready none with state := .busy }) = W2 := ⟨_, rfl⟩
  rw [hW2] at hbr
  have hg2 : W1.grownBy W2 (some l) := by rw [← hW2]; exact grownBy_putObj0 _ _ _
  have hk2 : KeepsWalks W1 W2 := by rw [← hW2]; exact KeepsWalks.putObj _ h1.L rfl
  have hv2 : W2.heap[Bs]? = some (.cells #[v] 22 (0, 0)) := by rw [← hW2]; exact (World.putObj_heap_other hBl).trans hv
  have hx2 : W2.heap[W.heap.size]? = some (.cells #[.int .i64 x.f0, .int .i64 x.f1, .int .i64 x.f2] 48 (0, 0)) := by rw [← hW2]; exact (World.putObj_heap_other hxr.2.1).trans hx
  have hK2 : W2.heap[D]? = some (.deferred (some [])) := by rw [← hW2]; exact (World.putObj_heap_other hDl).trans h1.K
  have hL2 : W2.heap[l]? = some (.loop { apRec fn sv Bs D .ready none with state := .busy }) := by rw [← hW2]; exact World.putObj_heap_same hl
  have hrow2 : W2.ownsRow w0.heap.size 48 3 v ss.length (ss.flatMap encEdge) := hrow.kept hg2 (ownsRow_ne hrow h1.L (fun cur e => by cases e))
  have hb2 : Below w0.heap.size w0 W2 := h1.below.grown hg2 h1.below.size (fun k e => by cases e; exact h0l)
  obtain ⟨hc2, hf2⟩ := cell_of_box hv2
  have hcx0 : W2.cell? ⟨W.heap.size, 0, none⟩ = some (.int .i64 x.f0) := by simp [World.cell?, hx2]
  have hcx1 : W2.cell? ⟨W.heap.size, 1, none⟩ = some (.int .i64 x.f1) := by simp [World.cell?, hx2]
  have hcx2 : W2.cell? ⟨W.heap.size, 2, none⟩ = some (.int .i64 x.f2) := by simp [World.cell?, hx2]
  have hBlt : Bs < W2.heap.size := (Array.getElem?_eq_some_iff.1 hv2).1
  have hl2 : l < W2.heap.size := (Array.getElem?_eq_some_iff.1 hL2).1
  have hDlt : D < W2.heap.size := (Array.getElem?_eq_some_iff.1 hK2).1
  have ne_of : ∀ {j : Nat} {o : Obj}, W2.heap[j]? = some o → (∀ cur, o ≠ .cells cur 48 (0, 0)) → some j ≠ v.ownBlock := fun hj hno => by
    rcases ownsRow_ne hrow2 hj hno with e | e
    · rw [e]; simp
    · exact fun e' => e e'.symm
  have HS2 := Aside0.mk hb2.size
  have HLN : Aside0 (ss.length < 5864062014805) := ⟨by omega⟩
  clear hW2 hx hx2
  unfold encE
  simp only [apAssign, apCode, Tryz.f95, Option.bind_some, rangeOf, Option.none_or, Option.or_none, Option.some_or, Option.getD_some]
  gi_wp2_with (rw [Oper.semAt_eq _ _ _ (fun c h => by cases h)]; go_simp; try go_bits)
  simp only [apBody, apCode, Tryz.f95, Option.bind_some, rangeOf, Option.none_or, Option.or_none, Option.some_or, Option.getD_some]
  gi_wp2_with (first
    | (gi_at_builtin; refine wpListIn_append_own _ rfl _ _ 22 rfl w0.heap.size 48 i0 (.agg #[(.int .i64 0), (.int .i64 0), (.int .i64 0)]) 3 24 Tryz.underlying22 hi hz0 hz1 hz2 rfl (by decide) _ _ _ rfl (hrow2.alloc _) ⟨W2.heap.size, 0, none⟩ 1 1 [.int .i64 x.f0, .int .i64 x.f1, .int .i64 x.f2] rfl rfl (cells3_new _ _ _ _ _) (by simp [Value.oneCell']) (by have := HLN.out; unfold maxLen; omega) (by have := HLN.out; omega) (by have := HS2.out; simp; omega) ?_; intro v' w3 hown' hg3 hnil3
       have hv3 : w3.heap[Bs]? = some (.cells #[v] 22 (0, 0)) := (hg3.block Bs (by simp; omega) (ne_of hv2 (fun cur e => by cases e))).trans ((Below.heap_alloc _ _ Bs hBlt).trans hv2)
       obtain ⟨hc3, hf3⟩ := cell_of_box hv3
       obtain ⟨g', cap', cur', rfl, hbase', hgb', hr1, hr2, hr3, hr4⟩ : ∃ g' cap' cur', v' = .slice (some ⟨g', 0, none⟩) (ss.length + 1) cap' ∧ w0.heap.size ≤ g' ∧ w3.heap[g']? = some (.cells cur' 48 (0, 0)) ∧ ss.length + 1 ≤ cap' ∧ cap' ≤ maxLen ∧ cur'.size = cap' * 3 ∧ cur'.toList.take ((ss.length + 1) * 3) = ss.flatMap encEdge ++ [.int .i64 x.f0, .int .i64 x.f1, .int .i64 x.f2] := by
         rcases hown'.2 with ⟨_, h0⟩ | h'
         · exact absurd h0 (by omega)
         · exact h'
       go_frame)
    | (rw [Oper.semAt_eq _ _ _ (fun c h => by cases h)]; go_simp; try go_bits))
  have hg3' : (W2.alloc (.cells #[.int .i64 x.f0, .int .i64 x.f1, .int .i64 x.f2] 48)).grownBy w3 v.ownBlock := hg3
  have hL3 : w3.heap[l]? = some (.loop { apRec fn sv Bs D .ready none with state := .busy }) := (hg3'.block l (by simp; omega) (ne_of hL2 (fun cur e => by cases e))).trans ((Below.heap_alloc _ _ l hl2).trans hL2)
  have hK3 : w3.heap[D]? = some (.deferred (some [])) := (hg3'.block D (by simp; omega) (ne_of hK2 (fun cur e => by cases e))).trans ((Below.heap_alloc _ _ D hDlt).trans hK2)
  obtain ⟨w4, hw4⟩ : ∃ w4, w3.setCell ⟨Bs, 0, none⟩ (.slice (some ⟨g', 0, none⟩) (ss.length + 1) cap') = w4 := ⟨_, rfl⟩
  rw [hw4]
  have hg4 : w3.grownBy w4 (some Bs) := by rw [← hw4]; exact grownBy_setCell0 _ _ _
  have hv4 : w4.heap[Bs]? = some (.cells #[.slice (some ⟨g', 0, none⟩) (ss.length + 1) cap'] 22 (0, 0)) := by rw [← hw4]; exact heap_setCell_box _ hv3
  have hL4 : w4.heap[l]? = some (.loop { apRec fn sv Bs D .ready none with state := .busy }) := (hg4.block l (Array.getElem?_eq_some_iff.1 hL3).1 (fun e => hBl (by cases e; rfl))).trans hL3
  have hK4 : w4.heap[D]? = some (.deferred (some [])) := (hg4.block D (Array.getElem?_eq_some_iff.1 hK3).1 (fun e => hDB (by cases e; rfl))).trans hK3
  have hrow4 := hown'.kept hg4 (ownsRow_ne hown' hv3 (fun cur e => by cases e))
  have hl4 : l < w4.heap.size := (Array.getElem?_eq_some_iff.1 hL4).1
  have hb3 : Below w0.heap.size w0 w3 := (hb2.alloc hb2.size _).grown hg3' (by have := hb2.size; simp; omega) (fun k e => (hrow2.lt k e).1)
  have hb4 : Below w0.heap.size w0 w4 := hb3.grown hg4 hb3.size (fun k e => by cases e; exact h0B)
  have hk4 : KeepsWalks W w4 := (hk1.trans ((hk2.trans (KeepsWalks.alloc _ _)).trans (KeepsWalks.of_grownBy hg3' (ownsRow_not_walk (hrow2.alloc _))))).trans (by rw [← hw4]; exact KeepsWalks.setCell _ _ _)
  clear hw4
  refine ⟨_, _, run_endRound none hL4, rfl, ⟨⟨_, (World.putObj_heap_other hBl).trans hv4, ?_⟩, World.putObj_heap_same hl4, (World.putObj_heap_other hDl).trans hK4, hb4.grown (grownBy_putObj0 _ _ _) hb4.size (fun k e => by cases e; exact h0l)⟩, hk4.trans (KeepsWalks.putObj _ hL4 rfl)⟩
  have := hrow4.kept (grownBy_putObj0 w4 l (.loop { { apRec fn sv Bs D .ready none with state := .busy } with state := if (none : Option Code).isNone then .ready else .done, pending := none })) (ownsRow_ne hrow4 hL4 (fun cur e => by cases e))
  simpa [encEdge] using this
set_option maxRecDepth 100000 in
set_option maxHeartbeats 4000000 in
/-- slices.AppendSeq(nil, slices.Values(es)): the same elements in a row of the call's own. -/
theorem appendSeq_vals (F : Fence) (n : Nat) (hF1 : F.fn 95) (hF2 : F.fn 80) (hro : F.round = none) (hn : 2 ≤ n) (Bm : Nat) (A : Option Addr) (c : Nat) (es : List S48) (w : World) (hlen : es.length < 5864062014805)
    (hm0 : Bm < w.heap.size) (hm : w.cell? ⟨Bm, 0, none⟩ = some (.slice A es.length c)) (hC : Kd.C k48 w A es.length es) :
    CallsIn F n Tryz.prog 95 #[.slice none 0 0, .func (.func 80) #[] #[.pointer (some ⟨Bm, 0, none⟩)]] w fun e w' => ∃ (v : Value), e = .returned v ∧ w'.ownsRow w.heap.size 48 3 v es.length (es.flatMap encEdge) ∧ Below w.heap.size w w' := by
  have h1 : 1 ≤ n := by omega
  have eg : ∀ args w, (callFunc 80 args).run Tryz.prog w = .ok (.enter 80 args) w := enters_of Tryz.func80 (by kernel_rfl) rfl
  refine callsIn_of_wp_marks Tryz.func95 rfl hF1 ?_ hro
  simp only [Tryz.ntmps95, List.size_toArray, List.length_cons, List.length_nil, Nat.reduceAdd, Nat.reduceSub, Array.replicate_succ, Array.replicate_zero, List.push_toArray, List.append_toArray, List.nil_append, List.cons_append]
  gi_wp2
  refine wpIn_rangeFunc ?_
  intro fn hfn
  rw [hro]
  obtain ⟨sv, hsv⟩ : ∃ sv, sv = Value.func (.func 80) #[] #[.pointer (some ⟨Bm, 0, none⟩)] := ⟨_, rfl⟩
  obtain ⟨W0, hW0⟩ : ∃ W0, w.alloc (.cells #[.slice none 0 0] 22) = W0 := ⟨_, rfl⟩
  have hs0 : W0.heap.size = w.heap.size + 1 := by rw [← hW0]; simp
  have hv0 : W0.heap[w.heap.size]? = some (.cells #[.slice none 0 0] 22 (0, 0)) := by rw [← hW0]; exact World.alloc_heap_new w _
  have hb0 : Below w.heap.size w W0 := by rw [← hW0]; exact (Below.refl _ w).alloc (Nat.le_refl _) _
  rw [hW0]
  obtain ⟨W1, hW1⟩ : ∃ W1, (W0.alloc (.deferred (some []))).alloc (.loop (apRec fn sv w.heap.size W0.heap.size .ready none)) = W1 := ⟨_, rfl⟩
  have hold : ∀ k, k < W0.heap.size → W1.heap[k]? = W0.heap[k]? := fun k hk => by
    rw [← hW1]; exact (Below.heap_alloc _ _ k (by simp; omega)).trans (Below.heap_alloc _ _ k hk)
  have hb1 : Below w.heap.size w W1 := by rw [← hW1]; exact (hb0.alloc hb0.size _).alloc (by have := hb0.size; simp; omega) _
  have hs1 : W1.heap.size = W0.heap.size + 2 := by rw [← hW1]; simp
  have hM : ApAt w fn sv w.heap.size (W0.heap.size + 1) W0.heap.size [] W1 :=
    ⟨⟨_, (hold w.heap.size (by omega)).trans hv0, ⟨rfl, .inl ⟨rfl, rfl⟩⟩⟩,
     by rw [← hW1]; have := World.alloc_heap_new (W0.alloc (.deferred (some []))) (.loop (apRec fn sv w.heap.size W0.heap.size .ready none)); rwa [World.size_alloc] at this,
     by rw [← hW1]; exact (Below.heap_alloc _ _ _ (by simp)).trans (World.alloc_heap_new W0 _), hb1⟩
  refine ⟨W0.heap.size + 1, [{ target := .collected W0.heap.size, args := #[] }], W1, { target := .fn (.func 80) #[.pointer (some ⟨Bm, 0, none⟩)], args := #[.func (.yield (W0.heap.size + 1)) #[] #[]] }, W1, 80,
    #[.func (.yield (W0.heap.size + 1)) #[] #[], .pointer (some ⟨Bm, 0, none⟩)], W1, ?_, ?_, ?_, ?_, fun _ => h1, ?_⟩
  · rw [← hW1, hsv]; exact run_enterLoop_outer _ _ _ _ _
  · simp [resolve, go_sem]
  · intro f' hf'; simp [Target.leads] at hf'; subst hf'; exact hF2
  · simp [invoke, go_sem, eg]
  · refine (values_yields F (n - 1) hF2 hro (by omega) (W0.heap.size + 1) Bm A c es w (by omega) (ApAt w fn sv w.heap.size (W0.heap.size + 1) W0.heap.size) (fun s W h => h.below)
      (fun pre x W hJ hl => ap_yield F (n - 1 - 1) w fn hfn _ w.heap.size (W0.heap.size + 1) W0.heap.size (by omega) (by omega) (by omega) (Nat.le_refl _) (by omega) es.length hlen pre x W hJ hl) W1 (ap_abides _ _ _ _ _ _ _ hb1.size) hm0 hm hC hM).mono ?_
    rintro e W2 ⟨⟨v0, rfl⟩, h2⟩
    obtain ⟨v, hv, hrow⟩ := h2.box
    have hend := run_endLoop (P := Tryz.prog) h2.L (by simp [apRec])
    obtain ⟨W3, hW3⟩ : ∃ W3, W2.putObj (W0.heap.size + 1) (.loop { apRec fn sv w.heap.size W0.heap.size .ready none with state := .exhausted }) = W3 := ⟨_, rfl⟩
    rw [hW3] at hend
    have hg3 : W2.grownBy W3 (some (W0.heap.size + 1)) := by rw [← hW3]; exact grownBy_putObj0 _ _ _
    have hv3 : W3.heap[w.heap.size]? = some (.cells #[v] 22 (0, 0)) := by rw [← hW3]; exact (World.putObj_heap_other (by omega)).trans hv
    have hK3 : W3.heap[W0.heap.size]? = some (.deferred (some [])) := by rw [← hW3]; exact (World.putObj_heap_other (by omega)).trans h2.K
    have hrow3 := hrow.kept hg3 (ownsRow_ne hrow h2.L (fun cur e => by cases e))
    have hb3 : Below w.heap.size w W3 := h2.below.grown hg3 h2.below.size (fun k e => by cases e; omega)
    obtain ⟨hc3, hf3⟩ := cell_of_box hv3
    clear hW3
    refine ⟨none, W3, hend, ?_⟩
    gi_wp2
    rw [← hs0]
    refine ⟨by simp, .inl ⟨_, _, rfl, run_takeDeferred hK3, ?_⟩⟩
    exact ⟨_, results_tmp rfl _ _ _, v, rfl, hrow3.kept (grownBy_putObj0 _ _ _) (ownsRow_ne hrow3 hK3 (fun cur e => by cases e)), hb3.grown (grownBy_putObj0 _ _ _) hb3.size (fun k e => by cases e; omega)⟩

theorem reps_more (R : S48 → List Value → Prop) (hR : ∀ p, R p (encEdge p)) : ∀ (l acc : List S48) (cs : List Value), Reps R 3 acc cs → Reps R 3 (acc ++ l) (cs ++ l.flatMap encEdge)
  | [], acc, cs, h => by simpa using h
  | x :: l, acc, cs, h => by
    have := reps_more R hR l (acc ++ [x]) (cs ++ encEdge x) (h.snoc (hR x) rfl)
    simpa using this
theorem reps_flat (ss : List S48) : Reps (fun p c => c = encEdge p) 3 ss (ss.flatMap encEdge) := by
  have := reps_more (fun p c => c = encEdge p) (fun _ => rfl) ss [] [] (Reps.none _ _)
  simpa using this
theorem R_of_flat {W : World} {base : Nat} {v : Value} {ss : List S48} (h : W.ownsRow base 48 3 v ss.length (ss.flatMap encEdge)) : Kd.R k48 48 W base (fun _ => True) v ss :=
  ⟨fun _ _ => trivial, _, h, (reps_flat ss).imp_ fun p c hp => (flatEdge.M _ _ _ _ _).2 hp⟩
set_option maxRecDepth 100000 in
set_option maxHeartbeats 4000000 in
theorem collect_vals (Bm : Nat) (A : Option Addr) (c : Nat) (es : List S48) (w : World) (hlen : es.length < 5864062014805)
    (hm0 : Bm < w.heap.size) (hm : w.cell? ⟨Bm, 0, none⟩ = some (.slice A es.length c)) (hC : Kd.C k48 w A es.length es) :
    CallsIn Fence.wide 4 Tryz.prog 78 #[.func (.func 80) #[] #[.pointer (some ⟨Bm, 0, none⟩)]] w fun e w' => ∃ (v : Value), e = .returned v ∧ Kd.R k48 48 w' w.heap.size (fun _ => True) v es ∧ Below w.heap.size w w' := by
  have hA := appendSeq_vals Fence.wide 3 trivial trivial rfl (by omega) Bm A c es w hlen hm0 hm hC
  clear hlen hm0 hm hC
  have hf : Fence.wide.fn 95 := trivial
  refine callsIn_of_wp Tryz.func78 rfl trivial ?_ rfl
  simp only [Tryz.ntmps78, List.size_toArray, List.length_cons, List.length_nil, Nat.reduceAdd, Nat.reduceSub, Array.replicate_succ, Array.replicate_zero, List.push_toArray, List.append_toArray, List.nil_append, List.cons_append]
  gi_wp2_with (gi_at_call 95; refine hA.mono ?_; rintro e w' ⟨v, rfl, hrow, hb⟩)
  go_ret
  exact ⟨v, rfl, R_of_flat hrow, hb⟩
/-- Edges whose ends are such as a graph may have. -/
abbrev GE := {x : S48 // 0 ≤ x.f0 ∧ x.f0 < 64 ∧ 0 ≤ x.f1 ∧ x.f1 < 64}
instance : Inhabited GE := ⟨⟨z48, by decide⟩⟩
def cfEdge (x y : GE) : Int := if x.1.f0 = y.1.f0 then x.1.f1 - y.1.f1 else x.1.f0 - y.1.f0
theorem cfEdge_lt (x y : GE) : ltOf cfEdge x y = true ↔ x.1.f0 < y.1.f0 ∨ (x.1.f0 = y.1.f0 ∧ x.1.f1 < y.1.f1) := by
  unfold ltOf cfEdge
  rw [decide_eq_true_eq]
  split <;> omega
theorem cfEdge_not (x y : GE) : ltOf cfEdge x y = false ↔ ¬ (x.1.f0 < y.1.f0 ∨ (x.1.f0 = y.1.f0 ∧ x.1.f1 < y.1.f1)) := by
  rw [← cfEdge_lt]; simp
theorem swoEdge : SWO (ltOf cfEdge) where
  irrefl x := by rw [cfEdge_not]; omega
  trans x y z h1 h2 := by rw [cfEdge_lt] at *; omega
  ntrans x y z h1 h2 := by rw [cfEdge_not] at *; omega
set_option maxHeartbeats 4000000 in
theorem graph_compare.grown (x y : GE) (w : World) :
    Calls Tryz.prog 61 #[.agg #[.int .i64 x.1.f0, .int .i64 x.1.f1, .int .i64 x.1.f2], .agg #[.int .i64 y.1.f0, .int .i64 y.1.f1, .int .i64 y.1.f2]] w fun e w' => e = .returned (.int .i64 (cfEdge x y)) ∧ Grw w w' := by
  have hu := Tryz.underlying48
  unfold cfEdge
  obtain ⟨⟨a0, a1, a2⟩, ha⟩ := x
  obtain ⟨⟨b0, b1, b2⟩, hb⟩ := y
  simp only at ha hb ⊢
  have e1 : wrap64 (a1 - b1) = a1 - b1 := by unfold wrap64; omega
  have e0 : wrap64 (a0 - b0) = a0 - b0 := by unfold wrap64; omega
  clear ha hb
  by_cases h : a0 = b0
  · subst h
    rw [if_pos rfl]
    go_enter Tryz.func61, Tryz.ntmps61
    go_wp2
    go_ret
    exact ⟨by first | rfl | (simp [*]; done), by repeat (first | exact Grw.refl _ | apply Grw.drewN | apply Grw.drew | apply Grw.alloc)⟩
  · rw [if_neg h]
    have h1 : (a0 == b0) = false := beq_eq_false_iff_ne.mpr h
    have h2 : (a0 != b0) = true := bne_iff_ne.mpr h
    clear h
    go_enter Tryz.func61, Tryz.ntmps61
    go_wp2
    go_ret
    exact ⟨by first | rfl | (simp [*]; done), by repeat (first | exact Grw.refl _ | apply Grw.drewN | apply Grw.drew | apply Grw.alloc)⟩
theorem cmpLaysEdge (blk off size : Nat) (w : World) : CmpLays Tryz.prog 61 #[] (fun x : GE => encEdge x.1) 3 cfEdge blk off size w :=
  fun _ _ _ _ x y => (graph_compare.grown x y _).mono fun _ _ ⟨he, hg⟩ => ⟨he, hg.out⟩
theorem flatGE : Flat (Kd.iso k48 (fun x : GE => x.1)) (fun x : GE => encEdge x.1) where
  K w x cs := flatEdge.K w x.1 cs
  M w base ok x cs := flatEdge.M w base ok x.1 cs
  len x := rfl
  pos := by decide
  one x := encEdge_one x.1
theorem R_iso {α β : Type} {d : Kd α} {f : β → α} {e : Nat} {W : World} {base : Nat} {ok : Nat → Prop} {v : Value} {l : List β} : (Kd.iso d f).R e W base ok v l ↔ d.R e W base ok v (l.map f) := by
  constructor
  · rintro ⟨h1, inner, h2, h3, h4⟩
    refine ⟨h1, inner, by rw [List.length_map]; exact h2, by rw [List.length_map]; exact h3, fun j p hp => ?_⟩
    rw [List.getElem?_map, Option.map_eq_some_iff] at hp
    obtain ⟨q, hq, rfl⟩ := hp
    exact h4 j q hq
  · rintro ⟨h1, inner, h2, h3, h4⟩
    rw [List.length_map] at h2 h3
    refine ⟨h1, inner, h2, h3, fun j p hp => ?_⟩
    exact h4 j (f p) (by rw [List.getElem?_map, hp]; rfl)
/-- One list is another one in order. -/
def EdgesSorted (l l' : List S48) : Prop := l'.Perm l ∧ l'.Pairwise fun x y => ¬ (y.f0 < x.f0 ∨ (y.f0 = x.f0 ∧ y.f1 < x.f1))
theorem sort_edges (W : World) (base : Nat) (v : Value) (l : List GE) (hl : l.length < 4611686018427387904) (hbase : base ≤ W.heap.size) (h : Kd.R k48 48 W base (fun _ => True) v (l.map (·.1))) :
    Calls Tryz.prog 79 #[v, .func (.func 61) #[] #[]] W fun e w' => e = .returned (.tuple #[]) ∧ ∃ l', Kd.R k48 48 w' base (fun _ => True) v l' ∧ EdgesSorted (l.map (·.1)) l' ∧ Below base W w' := by
  by_cases hn : l = []
  · subst hn
    obtain ⟨A, c, rfl⟩ := Kd.R_slice h
    refine (AnyF.slices_SortFunc_none Tryz.sortEdge A c _ W).mono fun e w' ⟨he, hw⟩ => ?_
    subst hw
    exact ⟨he, [], h, ⟨List.Perm.refl _, List.Pairwise.nil⟩, Below.refl _ _⟩
  · have h' := R_iso.2 h
    obtain ⟨g, cap, rfl, hb, hg, hok, hH⟩ := holds_of_R flatGE h' hn
    have eg : ∀ args w, (callFunc 61 args).run Tryz.prog w = .ok (.enter 61 args) w := enters_of Tryz.func61 (by kernel_rfl) rfl
    have hs := AnyQ.slices_SortFunc Tryz.sortEdge 3 Tryz.isAgg48 Tryz.sizeOf48 (fun x : GE => encEdge x.1) (fun _ => rfl) (fun x => encEdge_one x.1) cfEdge swoEdge 61 #[] g 0 cap l.toArray W eg (cmpLaysEdge _ _ _ _) hH hg (by simpa using hl)
    simp only [List.size_toArray] at hs
    change Calls Tryz.prog 79 _ _ _ at hs
    refine hs.mono ?_
    rintro e w' ⟨he, d', n, os, ⟨hsz, _, hperm⟩, hso, rfl⟩
    simp only [List.size_toArray] at hsz
    have e1 : d'.extract 0 l.length = d' := by rw [← hsz]; exact Array.extract_size
    have e2 : l.toArray.extract 0 l.length = l.toArray := by have := Array.extract_size (xs := l.toArray); simpa using this
    rw [e1, e2] at hperm
    refine ⟨he, d'.toList.map (·.1), ?_, ⟨hperm.map _, ?_⟩, below_sortWorldK 3 g n _ os hb hbase⟩
    · have := R_of_sorted flatGE h' n d' hsz os
      have h2 := R_iso.1 this
      exact h2
    · rw [List.pairwise_map, List.pairwise_iff_getElem]
      intro i j hi hj hij
      have hi' : i < d'.size := by simpa using hi
      have hj' : j < d'.size := by simpa using hj
      have := hso i j (Nat.zero_le _) hij (by omega)
      rw [getElem!_pos d' j hj', getElem!_pos d' i hi', cfEdge_not] at this
      simpa using this
set_option maxHeartbeats 4000000 in
/-- slices.SortedFunc(slices.Values(es), compare). -/
theorem sortedEdges.on (Bm : Nat) (A : Option Addr) (c : Nat) (l : List GE) (w : World) (hlen : l.length < 5864062014805)
    (hm0 : Bm < w.heap.size) (hm : w.cell? ⟨Bm, 0, none⟩ = some (.slice A l.length c)) (hC : Kd.C k48 w A l.length (l.map (·.1))) :
    Calls Tryz.prog 59 #[.func (.func 80) #[] #[.pointer (some ⟨Bm, 0, none⟩)], .func (.func 61) #[] #[]] w fun e w' => ∃ (v : Value) (l' : List S48), e = .returned v ∧ Kd.R k48 48 w' w.heap.size (fun _ => True) v l' ∧ EdgesSorted (l.map (·.1)) l' ∧ Below w.heap.size w w' := by
  have hCol := callsIn_wide.1 (collect_vals Bm A c (l.map (·.1)) w (by simpa using hlen) hm0 (by simpa using hm) (by simpa using hC))
  have hS := fun (W : World) (v : Value) (hb : w.heap.size ≤ W.heap.size) (h : Kd.R k48 48 W w.heap.size (fun _ => True) v (l.map (·.1))) => sort_edges W w.heap.size v l (by omega) hb h
  clear hlen hm0 hm hC
  generalize hq : l.map (·.1) = q at hCol hS ⊢
  clear hq
  go_enter Tryz.func59, Tryz.ntmps59
  go_wp2_with (first | (go_at_call 78; refine hCol.mono ?_; rintro e w1 ⟨v, rfl, hr, hb⟩; have HR1 := Aside0.mk hr; have HB1 := Aside0.mk hb; clear hr hb) | (go_at_call 79; refine (hS _ _ HB1.out.size HR1.out).mono ?_; rintro e w2 ⟨rfl, l', hr, hs, hb⟩; have HR2 := Aside0.mk hr; have HB2 := Aside0.mk (HB1.out.trans hb); have HS2 := Aside0.mk hs; clear hr hb hs))
  go_ret
  exact ⟨_, l', rfl, HR2.out, HS2.out, HB2.out⟩
end

/-! ### hasEdge: function 58 (given) -/
section
open Go.Shelf Go.Proofs.YtpndhkeoljoapaaGreat.Bridge
theorem rd_atEdge (l : List S48) (i : Nat) (h : i < l.length) : rd_T48 l (i : Int) = l[i] := by
  unfold rd_T48
  simp [List.getD_eq_getElem?_getD, List.getElem?_eq_getElem h]
/-- Where the first one is that is picked, or -1. -/
def idxEdge (p : S48 → Bool) (l : List S48) : Int := match l.findIdx? p with | some i => i | none => -1
theorem idxEdge_hit (p : S48 → Bool) (l : List S48) (i : Nat) (h : i < l.length) (hp : p l[i] = true) (hn : ∀ j (hj : j < i), p (l[j]'(by omega)) = false) : idxEdge p l = i := by
  unfold idxEdge
  have : l.findIdx? p = some i := List.findIdx?_eq_some_iff_getElem.2 ⟨h, hp, fun j hj => by simpa using hn j hj⟩
  rw [this]
theorem idxEdge_miss (p : S48 → Bool) (l : List S48) (hn : ∀ j (hj : j < l.length), p l[j] = false) : idxEdge p l = -1 := by
  unfold idxEdge
  have : l.findIdx? p = none := by
    rw [List.findIdx?_eq_none_iff]
    intro x hx
    obtain ⟨j, hj, rfl⟩ := List.mem_iff_getElem.1 hx
    exact hn j hj
  rw [this]
theorem idxEdge_any (p : S48 → Bool) (l : List S48) : decide (0 ≤ idxEdge p l) = l.any p := by
  unfold idxEdge
  cases h : l.findIdx? p with
  | none =>
    rw [List.findIdx?_eq_none_iff] at h
    have : l.any p = false := by rw [List.any_eq_false]; intro x hx; simpa using h x hx
    rw [this]; rfl
  | some i =>
    obtain ⟨hi, hp, _⟩ := List.findIdx?_eq_some_iff_getElem.1 h
    have : l.any p = true := List.any_eq_true.2 ⟨l[i], List.getElem_mem hi, hp⟩
    rw [this]; exact decide_eq_true (show (0 : Int) ≤ (i : Int) by omega)
set_option maxHeartbeats 8000000 in
set_option maxRecDepth 100000 in
theorem indexEdge.on (p : S48 → Bool) (g : Nat) (lb : Array Value) (eg : ∀ args w, (callFunc g args).run Tryz.prog w = .ok (.enter g args) w) (A0 : Option Addr) (c0 : Nat) (l0 : List S48) (w : World) (hr0 : Kd.C k48 w A0 l0.length l0) (hlen : l0.length ≤ 9223372036854775806) (hp : PredOn Tryz.prog g lb (fun x => .agg (encEdge x).toArray) p w) :
    Calls Tryz.prog 77 #[.slice A0 l0.length c0, .func (.func g) #[] lb] w fun e w' => e = .returned (.int .i64 (idxEdge p l0)) ∧ Below w.heap.size w w' := by
  have HR0 := Aside0.mk hr0
  have HL := Aside0.mk hlen
  have HP := Aside0.mk hp
  clear hr0 hlen hp
  go_enter Tryz.func77, Tryz.ntmps77
  go_wp2
  go_loopg [8] (l0.length) (fun kq v8 w' => ∃ (i : Nat), v8 = .int .i64 (i : Int) ∧ Aside0 (i + kq = l0.length) ∧ Aside0 (∀ j (hj : j < i) (hj2 : j < l0.length), p l0[j] = false) ∧ Aside0 (Below w.heap.size w w'))
  case atStart => exact ⟨0, rfl, ⟨by omega⟩, ⟨fun j hj => absurd hj (Nat.not_lt_zero _)⟩, ⟨Below.refl _ _⟩⟩
  case round =>
    obtain ⟨i, rfl, HI, HN, HB⟩ := hrel
    by_cases hlt : i < l0.length
    · have c1 : decide ((i : Int) < (l0.length : Int)) = true := decide_eq_true (by omega)
      have c1n : decide (i < l0.length) = true := decide_eq_true hlt
      have p1 : 0 ≤ (i : Int) := by omega
      have q1 : (i : Int) < (l0.length : Int) := by omega
      obtain ⟨ad, e1, hx0, hx1, hx2⟩ := at_T48 (Kd.C_below HR0.out HB.out) (i : Int) p1 q1
      cases e1
      rw [rd_atEdge l0 i hlt, Int.toNat_natCast] at hx0 hx1 hx2
      have HLT := Aside0.mk hlt
      have HY : Aside0 (∀ hi : i < l0.length, p l0[i] = true → idxEdge p l0 = i) := ⟨fun hi h => idxEdge_hit p l0 i hi h fun j hj => HN.out j hj (by omega)⟩
      have HY2 : Aside0 (∀ hi : i < l0.length, p l0[i] = false → ∀ j (hj : j < i + 1) (hj2 : j < l0.length), p l0[j] = false) := ⟨fun hi h j hj hj2 => by
        by_cases e : j = i
        · subst e; exact h
        · exact HN.out j (by omega) hj2⟩
      obtain ⟨y, hy⟩ : ∃ y, l0[i] = y := ⟨_, rfl⟩
      rw [hy] at hx0 hx1 hx2
      have HE : Aside0 (∀ hi : i < l0.length, l0[i] = y) := ⟨fun _ => hy⟩
      clear hy hlt
      replace p1 := eq_true p1
      replace q1 := eq_true q1
      obtain ⟨gk1, rfl⟩ : ∃ m, gk = m + 1 := ⟨gk - 1, by have := HI.out; have := HLT.out; omega⟩
      have hw1 : wrap64 ((i : Int) + 1) = (i : Int) + 1 := by have h1 := HL.out; have h2 := HLT.out; unfold wrap64; omega
      have hcall := fun (W : World) (hb : Below w.heap.size w W) => HP.out W y hb
      cases hq : p y with
      | true =>
        rw [hq] at hcall
        go_wp2_with (go_at_fn g; refine (hcall _ HB.out).mono ?_; rintro e w' ⟨rfl, hb⟩; have HB2 := Aside0.mk (HB.out.trans (hb.mono HB.out.size)); clear hb)
        go_ret
        refine ⟨?_, HB2.out⟩
        rw [HY.out HLT.out (by rw [HE.out HLT.out]; exact hq)]; rfl
      | false =>
        rw [hq] at hcall
        go_wp2_with (go_at_fn g; refine (hcall _ HB.out).mono ?_; rintro e w' ⟨rfl, hb⟩; have HB2 := Aside0.mk (HB.out.trans (hb.mono HB.out.size)); clear hb)
        go_roundg gk1
        case measure => omega
        case rel => exact ⟨i + 1, by go_num, ⟨by have := HI.out; omega⟩, ⟨HY2.out HLT.out (by rw [HE.out HLT.out]; exact hq)⟩, HB2⟩
    · have c1 : decide ((i : Int) < (l0.length : Int)) = false := decide_eq_false (by omega)
      have c1n : decide (i < l0.length) = false := decide_eq_false (by omega)
      have HM : Aside0 (idxEdge p l0 = -1) := ⟨idxEdge_miss p l0 fun j hj => HN.out j (by omega) hj⟩
      clear HI hlt HN
      go_wp2
      go_ret
      exact ⟨by rw [HM.out]; rfl, HB.out⟩
set_option maxHeartbeats 8000000 in
theorem hasEdge.on (p : S48 → Bool) (g : Nat) (lb : Array Value) (eg : ∀ args w, (callFunc g args).run Tryz.prog w = .ok (.enter g args) w) (A0 : Option Addr) (c0 : Nat) (l0 : List S48) (w : World) (hr0 : Kd.C k48 w A0 l0.length l0) (hlen : l0.length ≤ 9223372036854775806) (hp : PredOn Tryz.prog g lb (fun x => .agg (encEdge x).toArray) p w) :
    Calls Tryz.prog 58 #[.slice A0 l0.length c0, .func (.func g) #[] lb] w fun e w' => e = .returned (.bool (l0.any p)) ∧ Below w.heap.size w w' := by
  have H := indexEdge.on p g lb eg A0 c0 l0 w hr0 hlen hp
  rw [← idxEdge_any]
  clear hr0 hlen hp eg
  generalize idxEdge p l0 = r at H ⊢
  go_enter Tryz.func58, Tryz.ntmps58
  go_wp2_with (go_at_call 77; refine H.mono ?_; rintro e w' ⟨rfl, hb⟩; have HB := Aside0.mk hb; clear hb)
  go_ret
  exact ⟨by first | rfl | (simp; done), HB.out⟩
end

/-! ### graph_Check: function 39 (given) -/
/-- Is an edge none of a graph of n vertices? -/
def oddE (n : Int) (e : S48) : Bool := decide (e.f0 < 0) || decide (e.f0 ≥ n) || decide (e.f1 < 0) || decide (e.f1 ≥ n) || decide (e.f2 < 0) || decide (e.f2 > 1048576)
/-- Does an edge come twice? -/
def dupE : List S48 → Bool
  | [] => false
  | x :: l => l.any (fun y => y.f0 == x.f0 && y.f1 == x.f1) || dupE l
def badG (n : Int) (l : List S48) : Bool := decide (n < 1) || (decide (n > 64) || (decide ((l.length : Int) > 512) || l.any (oddE n)))
def graph_Check.f (a0_0 : Int) (l0_1 : List S48) : Option Int := if l0_1.length ≤ 9223372036854775806 then (if badG a0_0 l0_1 = true then some 50 else if dupE l0_1 = true then some 51 else some 0) else none
section
open Go.Shelf Go.Proofs.YtpndhkeoljoapaaGreat.Bridge
set_option maxHeartbeats 8000000 in
set_option maxRecDepth 100000 in
theorem graph_Check_1.on (n : Int) (b : Nat) (w : World) (hb : b < w.heap.size) (hc : w.cell? ⟨b, 0, none⟩ = some (.int .i64 n)) : PredOn Tryz.prog 57 #[.pointer (some ⟨b, 0, none⟩)] (fun x => .agg (encEdge x).toArray) (oddE n) w := fun W x hW => by
  have hu1 := Tryz.underlying48
  have hu2 := Tryz.underlying24
  have hc2 : W.cell? ⟨b, 0, none⟩ = some (.int .i64 n) := (hW.cell (p := ⟨b, 0, none⟩) hb).trans hc
  have hbW : b < W.heap.size := Nat.lt_of_lt_of_le hb hW.size
  have hne : b ≠ W.heap.size := by omega
  clear hc hb hW
  show Calls Tryz.prog 57 #[.agg #[.int .i64 x.f0, .int .i64 x.f1, .int .i64 x.f2], .pointer (some ⟨b, 0, none⟩)] W _
  unfold oddE
  go_enter Tryz.func57, Tryz.ntmps57
  go_wp2
  all_goals (go_ret; exact ⟨by first | rfl | (simp [*]; done), by repeat (first | exact Below.refl _ _ | apply below_alloc | apply pw_below_drewN)⟩)
set_option maxHeartbeats 8000000 in
theorem valuesE.calls (A : Option Addr) (n c : Nat) (W : World) : Calls Tryz.prog 60 #[.slice A n c] W fun e w' => e = .returned (.func (.func 80) #[] #[.pointer (some ⟨W.heap.size, 0, none⟩)]) ∧ w' = W.alloc (.cells #[.slice A n c] 22) := by
  go_enter Tryz.func60, Tryz.ntmps60
  go_wp2
  go_ret
  exact ⟨rfl, rfl⟩
/-- No edge comes twice. -/
def Simple (l : List S48) : Prop := l.Pairwise fun x y => ¬ (y.f0 = x.f0 ∧ y.f1 = x.f1)
theorem dupE_iff : ∀ l : List S48, dupE l = false ↔ Simple l
  | [] => by simp [dupE, Simple]
  | x :: l => by
    have ih := dupE_iff l
    unfold Simple at ih ⊢
    rw [List.pairwise_cons, ← ih]
    simp only [dupE, Bool.or_eq_false_iff, List.any_eq_false, Bool.and_eq_true, beq_iff_eq]
theorem simple_perm {l l' : List S48} (h : l'.Perm l) : Simple l' ↔ Simple l := by
  unfold Simple
  exact h.pairwise_iff fun h1 h2 => h1 ⟨h2.1.symm, h2.2.symm⟩
theorem simple_of_adjacent {l l' : List S48} (h : EdgesSorted l l') (ha : ∀ j (hj : j + 1 < l'.length), ¬ (l'[j].f0 = l'[j + 1].f0 ∧ l'[j].f1 = l'[j + 1].f1)) : Simple l := by
  rw [← simple_perm h.1]
  have hs := List.pairwise_iff_getElem.1 h.2
  refine List.pairwise_iff_getElem.2 fun i j hi hj hij => ?_
  have a1 := ha i (by omega)
  have a2 := hs i (i + 1) hi (by omega) (by omega)
  by_cases e : i + 1 = j
  · subst e; omega
  · have a3 := hs (i + 1) j (by omega) hj (by omega)
    omega
theorem dup_of_adjacent {l l' : List S48} (h : EdgesSorted l l') (j : Nat) (hj : j + 1 < l'.length) (he : l'[j].f0 = l'[j + 1].f0 ∧ l'[j].f1 = l'[j + 1].f1) : dupE l = true := by
  cases hd : dupE l with
  | true => rfl
  | false =>
    have := (simple_perm h.1).2 ((dupE_iff l).1 hd)
    exact absurd ⟨he.1.symm, he.2.symm⟩ (List.pairwise_iff_getElem.1 this j (j + 1) (by omega) hj (by omega))
theorem ge_of (n : Int) (hn : n ≤ 64) (l : List S48) (h : l.any (oddE n) = false) : ∃ g : List GE, g.map (·.1) = l := by
  have hall : ∀ x ∈ l, 0 ≤ x.f0 ∧ x.f0 < 64 ∧ 0 ≤ x.f1 ∧ x.f1 < 64 := fun x hx => by
    have := List.any_eq_false.1 h x hx
    simp only [oddE, Bool.or_eq_true, decide_eq_true_eq] at this
    omega
  exact ⟨l.pmap (fun x hx => (⟨x, hx⟩ : GE)) hall, by rw [List.map_pmap]; simp⟩
set_option maxHeartbeats 16000000 in
set_option maxRecDepth 100000 in
theorem graph_Check.bad (A0_1 : Option Addr) (a0_0 : Int) (c0_1 : Nat) (l0_1 : List S48) (w : World) (hr : Kd.C k48 w A0_1 l0_1.length l0_1) (hlen : l0_1.length ≤ 9223372036854775806) (h : badG a0_0 l0_1 = true) :
    Calls Tryz.prog 39 #[.agg #[.int .i64 a0_0, .slice A0_1 l0_1.length c0_1]] w fun e w' => e = .returned (.int .i64 50) ∧ Below w.heap.size w w' := by
  have hu := Tryz.underlying24
  have eg : ∀ args w, (callFunc 57 args).run Tryz.prog w = .ok (.enter 57 args) w := enters_of Tryz.func57 (by kernel_rfl) rfl
  have hb1 : Below w.heap.size w (w.alloc (.cells #[.int .i64 a0_0, .slice A0_1 l0_1.length c0_1] 24)) := below_alloc (Below.refl _ _) _
  have HH := hasEdge.on (oddE a0_0) 57 #[.pointer (some ⟨w.heap.size, 0, none⟩)] eg A0_1 c0_1 l0_1 _ (Kd.C_below hr hb1) hlen (graph_Check_1.on a0_0 w.heap.size _ (by simp) (by simp))
  have HB := Aside0.mk hb1
  clear hr hlen hb1
  by_cases c1 : a0_0 < 1
  · have d1 : decide (a0_0 < 1) = true := decide_eq_true c1
    clear h c1 HH
    go_enter Tryz.func39, Tryz.ntmps39
    go_wp2
    go_ret
    exact ⟨rfl, by repeat (first | exact Below.refl _ _ | apply below_alloc | apply pw_below_drewN)⟩
  · have d1 : decide (a0_0 < 1) = false := decide_eq_false c1
    by_cases c2 : a0_0 > 64
    · have d2 : decide (64 < a0_0) = true := decide_eq_true c2
      clear h c1 c2 HH
      go_enter Tryz.func39, Tryz.ntmps39
      go_wp2
      go_ret
      exact ⟨rfl, by repeat (first | exact Below.refl _ _ | apply below_alloc | apply pw_below_drewN)⟩
    · have d2 : decide (64 < a0_0) = false := decide_eq_false c2
      by_cases c3 : (l0_1.length : Int) > 512
      · have d3 : decide ((512 : Int) < (l0_1.length : Int)) = true := decide_eq_true c3
        have d3n : decide (512 < l0_1.length) = true := decide_eq_true (by omega)
        clear h c1 c2 c3 HH
        go_enter Tryz.func39, Tryz.ntmps39
        go_wp2
        go_ret
        exact ⟨rfl, by repeat (first | exact Below.refl _ _ | apply below_alloc | apply pw_below_drewN)⟩
      · have d3 : decide ((512 : Int) < (l0_1.length : Int)) = false := decide_eq_false c3
        have d3n : decide (512 < l0_1.length) = false := decide_eq_false (by omega)
        have h4 : l0_1.any (oddE a0_0) = true := by
          unfold badG at h
          simpa [c1, c2, show ¬ ((512 : Int) < (l0_1.length : Int)) from c3, show ¬ (512 < l0_1.length) by omega] using h
        rw [h4] at HH
        clear h c1 c2 c3 h4
        go_enter Tryz.func39, Tryz.ntmps39
        go_wp2_with (go_at_call 58; refine HH.mono ?_; rintro e w' ⟨rfl, hb⟩; have HB2 := Aside0.mk (HB.out.trans (hb.mono HB.out.size)); clear hb)
        go_ret
        exact ⟨rfl, HB2.out⟩

theorem badG_not {n : Int} {l : List S48} (h : badG n l = false) : 1 ≤ n ∧ n ≤ 64 ∧ l.length ≤ 512 ∧ l.any (oddE n) = false := by
  unfold badG at h
  simp only [Bool.or_eq_false_iff, decide_eq_false_iff_not] at h
  exact ⟨by omega, by omega, by omega, h.2.2.2⟩
set_option maxHeartbeats 16000000 in
set_option maxRecDepth 100000 in
theorem graph_Check.good (A0_1 : Option Addr) (a0_0 : Int) (c0_1 : Nat) (l0_1 : List S48) (w : World) (hr : Kd.C k48 w A0_1 l0_1.length l0_1) (h : badG a0_0 l0_1 = false) :
    Calls Tryz.prog 39 #[.agg #[.int .i64 a0_0, .slice A0_1 l0_1.length c0_1]] w fun e w' => e = .returned (.int .i64 (if dupE l0_1 = true then 51 else 0)) ∧ Below w.heap.size w w' := by
  have hu := Tryz.underlying24
  have mixed : Tryz.prog.follows .mixedOrders = true := by kernel_rfl
  obtain ⟨n1, n2, n3, n4⟩ := badG_not h
  have eg : ∀ args w, (callFunc 57 args).run Tryz.prog w = .ok (.enter 57 args) w := enters_of Tryz.func57 (by kernel_rfl) rfl
  have hb1 : Below w.heap.size w (w.alloc (.cells #[.int .i64 a0_0, .slice A0_1 l0_1.length c0_1] 24)) := below_alloc (Below.refl _ _) _
  have HH := hasEdge.on (oddE a0_0) 57 #[.pointer (some ⟨w.heap.size, 0, none⟩)] eg A0_1 c0_1 l0_1 _ (Kd.C_below hr hb1) (by omega) (graph_Check_1.on a0_0 w.heap.size _ (by simp) (by simp))
  rw [n4] at HH
  obtain ⟨gl, hgl⟩ := ge_of a0_0 n2 l0_1 n4
  have hgll : gl.length = l0_1.length := by rw [← hgl]; simp
  have HSORT : ∀ W, Below w.heap.size w W → Calls Tryz.prog 59 #[.func (.func 80) #[] #[.pointer (some ⟨W.heap.size, 0, none⟩)], .func (.func 61) #[] #[]] (W.alloc (.cells #[.slice A0_1 l0_1.length c0_1] 22)) fun e w' => ∃ (v : Value) (l' : List GE), e = .returned v ∧ Kd.R k48 48 w' w.heap.size (fun _ => True) v (l'.map (·.1)) ∧ EdgesSorted l0_1 (l'.map (·.1)) ∧ Below w.heap.size w w' := fun W hW => by
    have hb2 := below_alloc hW (.cells #[.slice A0_1 l0_1.length c0_1] 22)
    have := sortedEdges.on W.heap.size A0_1 c0_1 gl (W.alloc (.cells #[.slice A0_1 l0_1.length c0_1] 22)) (by omega) (by simp) (by rw [hgll]; simp) (by rw [hgll, hgl]; exact Kd.C_below hr hb2)
    rw [hgl] at this
    refine this.mono ?_
    rintro e w' ⟨v, l', he, hR, hs, hb⟩
    have hall : ∀ x ∈ l', 0 ≤ x.f0 ∧ x.f0 < 64 ∧ 0 ≤ x.f1 ∧ x.f1 < 64 := fun x hx => by
      have := (hs.1.mem_iff (a := x)).1 hx
      rw [← hgl] at this
      obtain ⟨y, _, rfl⟩ := List.mem_map.1 this
      exact y.2
    refine ⟨v, l'.pmap (fun x hx => (⟨x, hx⟩ : GE)) hall, he, ?_, ?_, hb2.trans (hb.mono hb2.size)⟩
    · rw [List.map_pmap]; simpa using Kd.R_lower hR hb2.size
    · rw [List.map_pmap]; simpa using hs
  have HDUP1 := Aside0.mk (fun (l' : List S48) (hs : EdgesSorted l0_1 l') j hj he => dup_of_adjacent hs j hj he)
  have HDUP2 := Aside0.mk (fun (l' : List S48) (hs : EdgesSorted l0_1 l') ha => (dupE_iff l0_1).2 (simple_of_adjacent hs ha))
  have HB := Aside0.mk hb1
  have d1 : decide (a0_0 < 1) = false := decide_eq_false (by omega)
  have d2 : decide (64 < a0_0) = false := decide_eq_false (by omega)
  have d3 : decide ((512 : Int) < (l0_1.length : Int)) = false := decide_eq_false (by omega)
  have d3n : decide (512 < l0_1.length) = false := decide_eq_false (by omega)
  have HN3 := Aside0.mk n3
  have HV := valuesE.calls A0_1 l0_1.length c0_1
  clear h n1 n2 n3 n4 hr hb1 hgl hgll eg
  generalize dupE l0_1 = dp at HDUP1 HDUP2 ⊢
  go_enter Tryz.func39, Tryz.ntmps39
  go_wp2_with (first | (go_at_call 58; refine HH.mono ?_; rintro e w2 ⟨rfl, hb⟩; have HB2 := Aside0.mk (HB.out.trans (hb.mono HB.out.size)); have hc1 := (hb.cell (p := ⟨w.heap.size, 1, none⟩) (by simp)).trans (show _ = some (.slice A0_1 l0_1.length c0_1) by simp); clear hb HH) | (go_at_call 60; refine (HV _).mono ?_; rintro e w3 ⟨rfl, rfl⟩) | (go_at_call 59; refine (HSORT _ HB2.out).mono ?_; rintro e w4 ⟨v4, l4, rfl, hr4, hs4, hb4⟩; have HR4 := Aside0.mk hr4; have HS4 := Aside0.mk hs4; have HB4 := Aside0.mk hb4; clear hr4 hs4 hb4 HSORT))
  obtain ⟨A4, c4, e4⟩ := Kd.R_slice HR4.out
  subst e4
  obtain ⟨hl4, hc4, hC4⟩ := Kd.R_reads' HR4.out
  have HC4 := Aside0.mk hC4
  have HL4 : Aside0 (l4.length ≤ 512) := ⟨by have := HS4.out.1.length_eq; have := HN3.out; simp only [List.length_map] at *; omega⟩
  rw [List.length_map] at hl4 hc4 ⊢
  clear hl4 hc4 hC4 HR4 HB HB2 hc1 HV d1 d2 d3 d3n
  go_loopg [5] (l4.length) (fun kq v5 w' => ∃ j : Nat, v5 = .int .i64 ((j + 1 : Nat) : Int) ∧ Aside0 (j + kq = l4.length) ∧ Aside0 (∀ i (hi : i < j) (h2 : i + 1 < l4.length), cfEdge l4[i] l4[i + 1] ≠ 0) ∧ Aside0 (Below w4.heap.size w4 w'))
  case atStart => exact ⟨0, rfl, ⟨by omega⟩, ⟨fun i hi => absurd hi (Nat.not_lt_zero _)⟩, ⟨Below.refl _ _⟩⟩
  case round =>
    obtain ⟨j, rfl, HJ, HN, HBW⟩ := hrel
    by_cases hlt : j + 1 < l4.length
    · have c1 : decide (((j + 1 : Nat) : Int) < (l4.length : Int)) = true := decide_eq_true (by omega)
      have c1n : decide (j + 1 < l4.length) = true := decide_eq_true hlt
      have hCw := Kd.C_below HC4.out HBW.out
      obtain ⟨ad, e1, hx0, hx1, hx2⟩ := at_T48 hCw (j : Int) (by omega) (by simp; omega)
      obtain ⟨ad', e2, hy0, hy1, hy2⟩ := at_T48 hCw ((j + 1 : Nat) : Int) (by omega) (by simp; omega)
      cases e1
      cases e2
      rw [rd_edge _ j (by simp; omega), Int.toNat_natCast, List.getElem_map] at hx0 hx1 hx2
      rw [rd_edge _ (j + 1) (by simp; omega), Int.toNat_natCast, List.getElem_map] at hy0 hy1 hy2
      have HE : Aside0 (∀ (h1 : j < l4.length) (h2 : j + 1 < l4.length), cfEdge l4[j] l4[j + 1] = 0 → dp = true) := ⟨fun h1 h2 he => HDUP1.out _ HS4.out j (by simpa using h2) (by
        rw [List.getElem_map, List.getElem_map]
        unfold cfEdge at he
        split at he <;> omega)⟩
      obtain ⟨x, hx⟩ : ∃ x : GE, l4[j]'(by omega) = x := ⟨l4[j]'(by omega), rfl⟩
      obtain ⟨y, hy⟩ : ∃ y : GE, l4[j + 1]'hlt = y := ⟨l4[j + 1]'hlt, rfl⟩
      rw [hx] at hx0 hx1 hx2
      rw [hy] at hy0 hy1 hy2
      have HX : Aside0 (∀ (h1 : j < l4.length) (h2 : j + 1 < l4.length), l4[j] = x ∧ l4[j + 1] = y) := ⟨fun _ _ => ⟨hx, hy⟩⟩
      have ha := World.block_lt_of_cell? _ _ hx0
      have ha1 := World.block_lt_of_cell? _ _ hx1
      have hb := World.block_lt_of_cell? _ _ hy0
      have k0 := fun n os => Go.cell_grown ha hx0 n os
      have k1 := fun n os => Go.cell_grown ha1 hx1 n os
      have k2 := fun n os => Go.cell_grown (World.block_lt_of_cell? _ _ hx2) hx2 n os
      have m0 := fun n os => Go.cell_grown hb hy0 n os
      have m1 := fun n os => Go.cell_grown (World.block_lt_of_cell? _ _ hy1) hy1 n os
      have m2 := fun n os => Go.cell_grown (World.block_lt_of_cell? _ _ hy2) hy2 n os
      have HLT := Aside0.mk hlt
      obtain ⟨gk1, rfl⟩ : ∃ m, gk = m + 1 := ⟨gk - 1, by have := HJ.out; omega⟩
      have s1 : IntKind.i64.wrap (j : Int) = (j : Int) := by simp only [IntKind.wrap, IntKind.bits, IntKind.signed]; have := HL4.out; simp; omega
      have s3 : 0 ≤ (j : Int) := by omega
      have s4 : (j : Int) < (l4.length : Int) := by omega
      have s4n : j < l4.length := by omega
      have s5 : 0 ≤ (j : Int) + 1 := by omega
      have s6 : (j : Int) + 1 < (l4.length : Int) := by omega
      have s7 : ((j : Int) + 1).toNat = j + 1 := by omega
      have sw : wrap64 ((j : Int) + 1 + 1) = (j : Int) + 1 + 1 := by unfold wrap64; have := HL4.out; omega
      clear hx hy hx0 hx1 hx2 hy0 hy1 hy2 ha ha1 hb hCw
      have hcall : ∀ n os, Calls Tryz.prog 61 #[.agg #[.int .i64 x.1.f0, .int .i64 x.1.f1, .int .i64 x.1.f2], .agg #[.int .i64 y.1.f0, .int .i64 y.1.f1, .int .i64 y.1.f2]] (Go.Sort.grow (wr.drewN n) os) fun e w' => e = .returned (.int .i64 (cfEdge x y)) ∧ ∃ q os', w' = Go.Sort.grow ((Go.Sort.grow (wr.drewN n) os).drewN q) os' := fun n os => (graph_compare.grown x y _).mono fun _ _ ⟨he, hg⟩ => ⟨he, hg.out⟩
      by_cases hz : cfEdge x y = 0
      · have hd : dp = true := HE.out (by omega) hlt (by have := HX.out (by omega) hlt; rw [this.1, this.2]; exact hz)
        subst hd
        rw [hz] at hcall
        clear hz HE HX HDUP1 HDUP2 hlt
        go_wp2
        go_quiet_grown ((go_at_call 61; refine Go.Calls.grown_of (hcall _ _)))
        go_wp2
        go_ret
        exact ⟨rfl, HB4.out.trans ((HBW.out.mono HB4.out.size).trans ((Grw.below ⟨⟨nq, osq, rfl⟩⟩).mono (Nat.le_trans HB4.out.size HBW.out.size)))⟩
      · have z1 : (cfEdge x y == 0) = false := beq_eq_false_iff_ne.mpr hz
        have HN2 : Aside0 (∀ i (hi : i < j + 1) (h2 : i + 1 < l4.length), cfEdge l4[i] l4[i + 1] ≠ 0) := ⟨fun i hi h2 => by
          by_cases e : i = j
          · subst e; have := HX.out (by omega) h2; rw [this.1, this.2]; exact hz
          · exact HN.out i (by omega) h2⟩
        generalize cfEdge x y = cf at hcall z1
        clear hz HE HX HDUP1 HDUP2 HN hlt
        go_wp2
        go_quiet_grown ((go_at_call 61; refine Go.Calls.grown_of (hcall _ _)))
        go_wp2
        go_roundg gk1
        case measure => omega
        case rel => exact ⟨j + 1, by go_num, ⟨by have := HJ.out; omega⟩, HN2, ⟨HBW.out.trans ((Grw.below ⟨⟨nq, osq, rfl⟩⟩).mono HBW.out.size)⟩⟩
    · have c1 : decide (((j + 1 : Nat) : Int) < (l4.length : Int)) = false := decide_eq_false (by omega)
      have c1b : decide ((j : Int) + 1 < (l4.length : Int)) = false := decide_eq_false (by omega)
      have c1n : decide (j + 1 < l4.length) = false := decide_eq_false hlt
      have hd : dp = false := HDUP2.out _ HS4.out fun i hi he => by
        rw [List.length_map] at hi
        rw [List.getElem_map, List.getElem_map] at he
        refine HN.out i (by have := HJ.out; omega) hi ?_
        unfold cfEdge
        rw [if_pos he.1]; omega
      subst hd
      clear HDUP1 HDUP2 HN HJ hlt
      go_wp2
      go_ret
      exact ⟨rfl, HB4.out.trans (HBW.out.mono HB4.out.size)⟩
theorem graph_Check.calls (a0_0 : Int) (A0_1 : Option Addr) (c0_1 : Nat) (l0_1 : List S48) (r : Int) (w : World) (hr0_1 : Kd.C k48 w A0_1 l0_1.length l0_1) (hc0_1 : l0_1.length ≤ c0_1) (h : graph_Check.f a0_0 l0_1 = some r) :
    Calls Tryz.prog 39 #[.agg #[.int .i64 a0_0, .slice A0_1 l0_1.length c0_1]] w fun e w' => e = .returned (.int .i64 r) ∧ Below w.heap.size w w' := by
  unfold graph_Check.f at h
  by_cases hl : l0_1.length ≤ 9223372036854775806
  · rw [if_pos hl] at h
    cases hb : badG a0_0 l0_1 with
    | true =>
      rw [hb, if_pos rfl] at h
      obtain rfl := Option.some.inj h
      exact graph_Check.bad A0_1 a0_0 c0_1 l0_1 w hr0_1 hl hb
    | false =>
      rw [hb] at h
      simp only [Bool.false_eq_true, if_false] at h
      have := graph_Check.good A0_1 a0_0 c0_1 l0_1 w hr0_1 hb
      cases hd : dupE l0_1 with
      | true => rw [hd, if_pos rfl] at h; obtain rfl := Option.some.inj h; rw [hd, if_pos rfl] at this; exact this
      | false => rw [hd, if_neg (by simp)] at h; obtain rfl := Option.some.inj h; rw [hd, if_neg (by simp)] at this; exact this
  · rw [if_neg hl] at h
    exact absurd h (by simp)
end

/-! ### slices_Index_string_string: function 81 -/
def slices_Index_string_string.l0 : Nat → List ByteArray → ByteArray → Int → Int → Option (Int)
  | 0, _, _, _, _ => none
  | k + 1, x0, x1, x7, x8 => if x8 < x7 then (if 0 ≤ x8 then (if x8 < (x0.length : Int) then (if x1.toList = (rdOf ByteArray.empty x0 x8).toList then (some x8) else (slices_Index_string_string.l0 k x0 x1 x7 (wrap64 (x8 + 1)))) else (none)) else (none)) else (some (-1))
def slices_Index_string_string.f (k : Nat) (l0 : List ByteArray) (a1 : ByteArray) : Option (Int) := slices_Index_string_string.l0 k l0 a1 (l0.length : Int) 0
theorem slices_Index_string_string.mono_l : ∀ k, (∀ y0 y1 y2 y3, LeO (slices_Index_string_string.l0 k y0 y1 y2 y3) (slices_Index_string_string.l0 (k + 1) y0 y1 y2 y3))
  | 0 => fun _ _ _ _ r h => by simp [slices_Index_string_string.l0] at h
  | k + 1 => by
    have ih0 := slices_Index_string_string.mono_l k
    · intro y0 y1 y2 y3
      unfold slices_Index_string_string.l0
      repeat' first
      | (with_reducible exact ih0 _ _ _ _)
      | (with_reducible exact LeO.refl _)
      | (with_reducible exact LeO.none _)
      | (with_reducible refine LeO.ite ?_ ?_)
      | (with_reducible refine LeO.bind ?_ (fun _ => ?_))
      | exact ih0 _ _ _ _
      | exact LeO.none _
      | refine LeO.ite ?_ ?_
      | refine LeO.bind ?_ (fun _ => ?_)
theorem slices_Index_string_string.mono : ∀ a0 a1 k, LeO (slices_Index_string_string.f k a0 a1) (slices_Index_string_string.f (k + 1) a0 a1) := by
  intro a0 a1 k
  have ih0 := slices_Index_string_string.mono_l k
  unfold slices_Index_string_string.f
  repeat' first
      | (with_reducible exact ih0 _ _ _ _)
      | (with_reducible exact LeO.refl _)
      | (with_reducible exact LeO.none _)
      | (with_reducible refine LeO.ite ?_ ?_)
      | (with_reducible refine LeO.bind ?_ (fun _ => ?_))
      | exact ih0 _ _ _ _
      | exact LeO.none _
      | refine LeO.ite ?_ ?_
      | refine LeO.bind ?_ (fun _ => ?_)
set_option maxHeartbeats 8000000 in
set_option maxRecDepth 100000 in
theorem slices_Index_string_string.calls (k : Nat) (A0 : Option Addr) (c0 : Nat) (l0 : List ByteArray) (a1 : ByteArray) (r : Int) (w : World) (hr0 : Kd.C Kd.string w A0 l0.length l0) (hc0 : l0.length ≤ c0) (h : slices_Index_string_string.f k l0 a1 = some r) :
    Calls Tryz.prog 81 #[.slice A0 l0.length c0, .string a1] w fun e w' => e = .returned (.int .i64 r) ∧ Drawn0 w w' := by
  have HR0 := Aside0.mk hr0
  have HC0 := Aside0.mk hc0
  clear hr0 hc0
  have H : (slices_Index_string_string.l0 k l0 a1 (l0.length : Int) 0) = some r := h
  clear h
  have H' := Aside0.mk H
  clear H
  go_enter Tryz.func81, Tryz.ntmps81
  go_wp2
  go_loopg [8] k (fun kq v8 w' => ∃ (x8_1 : Int), v8 = .int .i64 x8_1 ∧ Aside0 (slices_Index_string_string.l0 kq l0 a1 (l0.length : Int) x8_1 = some r) ∧ Aside0 (kq ≤ k) ∧ Drawn0 w w')
  case atStart => exact ⟨(0), (by first | rfl | (simp; done) | (simp [*]; done)), H', ⟨Nat.le_refl _⟩, by repeat (first | exact Drawn0.refl _ | apply Drawn0.step)⟩
  case round =>
    clear H'
    try clear p2
    obtain ⟨x8_1, rfl, HA, HK1, ⟨m1, rfl⟩⟩ := hrel
    cases gk with
    | zero => exact absurd HA.out (by simp [slices_Index_string_string.l0])
    | succ k1 =>
      have H := HA.out
      clear HA
      simp only [slices_Index_string_string.l0] at H
      by_cases c3 : x8_1 < (l0.length : Int)
      · rw [if_pos c3] at H
        have c3b0 : decide (x8_1 < (l0.length : Int)) = true := decide_eq_true c3
        clear c3
        obtain ⟨c4, H⟩ := iteS3 H
        have c4b0 := decide_eq_true c4
        clear c4
        obtain ⟨c5, H⟩ := iteS3 H
        have c5b0 := decide_eq_true c5
        clear c5
        by_cases c6 : a1.toList = (rdOf ByteArray.empty l0 x8_1).toList
        · rw [if_pos c6] at H
          have c6b0 : (a1.toList == (rdOf ByteArray.empty l0 x8_1).toList) = true := beq_iff_eq.mpr c6
          have c6b1 : (a1.toList != (rdOf ByteArray.empty l0 x8_1).toList) = false := bne_eq_false_iff_eq.mpr c6
          clear c6
          obtain rfl := Option.some.inj H
          have p101 : 0 ≤ (x8_1 : Int) := of_decide_eq_true (by first | (with_reducible assumption) | assumption)
          have q101 : x8_1 < (l0.length : Int) := of_decide_eq_true (by first | (with_reducible assumption) | assumption)
          obtain ⟨ad101, e101, hx101_0⟩ := Kd.at_string HR0.out x8_1 p101 q101
          cases e101
          replace p101 := eq_true p101
          replace q101 := eq_true q101
          go_wp2
          go_ret
          exact ⟨by first | rfl | (simp; done) | (simp [*]; done), by repeat (first | exact Drawn0.refl _ | apply Drawn0.step)⟩
        · rw [if_neg c6] at H
          have c6b0 : (a1.toList == (rdOf ByteArray.empty l0 x8_1).toList) = false := beq_eq_false_iff_ne.mpr c6
          have c6b1 : (a1.toList != (rdOf ByteArray.empty l0 x8_1).toList) = true := bne_iff_ne.mpr c6
          have H' := Aside0.mk H
          clear H
          have p101 : 0 ≤ (x8_1 : Int) := of_decide_eq_true (by first | (with_reducible assumption) | assumption)
          have q101 : x8_1 < (l0.length : Int) := of_decide_eq_true (by first | (with_reducible assumption) | assumption)
          obtain ⟨ad101, e101, hx101_0⟩ := Kd.at_string HR0.out x8_1 p101 q101
          cases e101
          replace p101 := eq_true p101
          replace q101 := eq_true q101
          go_wp2
          go_roundg k1
          case measure => have := HK1.out; omega
          case rel => exact ⟨(wrap64 (x8_1 + 1)), (by first | rfl | (simp; done) | (simp [*]; done)), H', ⟨by have := HK1.out; omega⟩, by repeat (first | exact Drawn0.refl _ | apply Drawn0.step)⟩
      · rw [if_neg c3] at H
        have c3b0 : decide (x8_1 < (l0.length : Int)) = false := decide_eq_false c3
        clear c3
        obtain rfl := Option.some.inj H
        go_wp2
        go_ret
        exact ⟨by first | rfl | (simp; done) | (simp [*]; done), by repeat (first | exact Drawn0.refl _ | apply Drawn0.step)⟩

end Go.Proofs.YtpndhkeoljoapaaGreat.P
