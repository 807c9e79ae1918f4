/- Plain lemmas: what seq.Start, seq.Next, seq.Values, seq.Quiet come to. -/
import Derived.Test.YtpndhkeoljoapaaGreatOutB
namespace Go.Proofs.YtpndhkeoljoapaaGreat.Pure
open Go Go.RowKit Go.Proofs.YtpndhkeoljoapaaGreat.P Go.Proofs.YtpndhkeoljoapaaGreatW.PrintWords Go.Proofs.YtpndhkeoljoapaaGreatW.PrintLast Go.Proofs.YtpndhkeoljoapaaGreatW.PrintMore
set_option linter.unusedVariables false
set_option linter.unusedSimpArgs false
abbrev VVert := S50
theorem rdV9 (l : List VVert) (i : Nat) (h : i < l.length) : rd_T50 l (i : Int) = l[i] := by
  unfold rd_T50
  simp [List.getD_eq_getElem?_getD, List.getElem?_eq_getElem h]
/-- Vertices behind their steps and what was sent, one by one, till there is an error. -/
def stepsR (F : VVert → StepR) : List VVert → List VVert → List VMsg → List VVert × List VMsg × Int
  | [], o, s => (o, s, 0)
  | y :: r, o, s => if (F y).2.2.2.2.2.2 = 0 then stepsR F r (o ++ [vxOf (F y)]) (s ++ (F y).2.2.2.2.2.1) else (o ++ [vxOf (F y)], s ++ (F y).2.2.2.2.2.1, (F y).2.2.2.2.2.2)
def stepF (n : Int) (l : List VEdge) (t : List UInt8) (src steps at_ : Int) (y : VVert) : StepR := stepR n l t src steps at_ y.f0 y.f1 y.f2 y.f3 y.f4
theorem steps_f (n : Int) (l : List VEdge) (tag : ByteArray) (src steps at_ : Int) (hl : l.length ≤ 1000) : ∀ (vs o : List VVert) (s : List VMsg), stepsA n l tag src steps at_ vs o s = some (stepsR (stepF n l tag.toList src steps at_) vs o s)
  | [], o, s => rfl
  | y :: r, o, s => by
    rw [stepsA, step_f n l tag src steps at_ y.f0 y.f1 y.f2 y.f3 y.f4 hl, Option.bind_some, stepsR]
    unfold stepF
    split
    · exact steps_f n l tag src steps at_ hl r _ _
    · rfl
theorem stepsR_len {F : VVert → StepR} {m : Nat} (hF : ∀ y, (F y).2.2.2.2.2.1.length ≤ m) : ∀ (vs o : List VVert) (s : List VMsg), (stepsR F vs o s).2.1.length ≤ s.length + vs.length * m
  | [], o, s => Nat.le_add_right _ _
  | y :: r, o, s => by
    have := hF y
    have e : (r.length + 1) * m = r.length * m + m := Nat.succ_mul _ _
    rw [stepsR]
    split
    · have ih := stepsR_len hF r (o ++ [vxOf (F y)]) (s ++ (F y).2.2.2.2.2.1)
      rw [List.length_append] at ih
      rw [List.length_cons]
      omega
    · rw [List.length_cons]
      show (s ++ (F y).2.2.2.2.2.1).length ≤ _
      rw [List.length_append]
      omega
/-- Further messages, folded. -/
def cameLR (t : List UInt8) : List VMsg → Int → Int → Int × Int
  | [], n, e => (n, e)
  | m :: l, n, e => if e = 0 then cameLR t l (foldA t n m.f2).1 (foldA t n m.f2).2 else (n, e)
def cameQR (t : List UInt8) : List VMsg → Int × Bool × Int
  | [] => (0, false, 0)
  | m :: l => if (cameLR t l (foldA tMax m.f2 m.f2).1 (foldA tMax m.f2 m.f2).2).2 = 0 then ((cameLR t l (foldA tMax m.f2 m.f2).1 (foldA tMax m.f2 m.f2).2).1, true, 0) else (0, false, (cameLR t l (foldA tMax m.f2 m.f2).1 (foldA tMax m.f2 m.f2).2).2)
/-- What came to a vertex. -/
def cameR (t : List UInt8) (s : List VMsg) (v : Int) : Int × Bool × Int := if knownB t = true then cameQR t (sortMsg (s.filter fun x => x.f1 == v)) else (0, false, 70)
theorem cameL_f (tag : ByteArray) : ∀ (l : List VMsg) (n e : Int), cameL tag l n e = some (cameLR tag.toList l n e)
  | [], n, e => rfl
  | m :: l, n, e => by
    rw [cameL, cameLR, show (20 : Nat) = 12 + 8 from rfl, fold_all, Option.bind_some, cameL_f tag l]
    split <;> rfl
theorem maxTag_list : maxTag.toList = tMax := by
  unfold maxTag
  simp only [ByteArray.toList_eq]
theorem cameQ_f (tag : ByteArray) : ∀ (l : List VMsg), cameQ tag l = some (cameQR tag.toList l)
  | [] => rfl
  | m :: l => by
    rw [cameQ, cameQR, show (20 : Nat) = 12 + 8 from rfl, fold_all, Option.bind_some, cameL_f, Option.bind_some, maxTag_list]
    split <;> rfl
theorem came_f (tag : ByteArray) (s : List VMsg) (v : Int) (hs : s.length < 5864062014805) : fold_Came.f tag s v = some (cameR tag.toList s v) := by
  unfold fold_Came.f cameR
  rw [show (20 : Nat) = 12 + 8 from rfl, known_f, Option.bind_some, if_pos hs, cameQ_f]
  split <;> rfl
/-- What came put into the vertices, one by one. -/
def comesR (C : Int → Int × Bool × Int) : List VVert → List VVert → List VVert × Int
  | [], o => (o, 0)
  | y :: r, o => if (C (o.length : Int)).2.2 = 0 then comesR C r (o ++ [comeV y (C (o.length : Int)).2.1 (C (o.length : Int)).1]) else (o ++ [comeV y (C (o.length : Int)).2.1 (C (o.length : Int)).1], (C (o.length : Int)).2.2)
theorem comes_f (tag : ByteArray) (s : List VMsg) (hs : s.length < 5864062014805) : ∀ (vs o : List VVert), comesA tag s vs o = some (comesR (cameR tag.toList s) vs o)
  | [], o => rfl
  | y :: r, o => by
    rw [comesA, comesR, came_f tag s _ hs, Option.bind_some]
    split
    · exact comes_f tag s hs r _
    · rfl
/-- All vertices behind a step, what was sent, and an error. -/
def nextR (n : Int) (l : List VEdge) (t : List UInt8) (src steps at_ : Int) (vs : List VVert) : List VVert × List VMsg × Int :=
  if jobB n l t src steps = true then
    if at_ < 0 then ([], [], 70) else if at_ ≥ steps then ([], [], 70)
    else if (vs.length : Int) ≠ n then ([], [], 90)
    else if idsOk vs 0 = false then ([], [], 90)
    else if (stepsR (stepF n l t src steps at_) vs [] []).2.2 = 0 then
      if (comesR (cameR t (stepsR (stepF n l t src steps at_) vs [] []).2.1) (stepsR (stepF n l t src steps at_) vs [] []).1 []).2 = 0 then ((comesR (cameR t (stepsR (stepF n l t src steps at_) vs [] []).2.1) (stepsR (stepF n l t src steps at_) vs [] []).1 []).1, sortMsg (stepsR (stepF n l t src steps at_) vs [] []).2.1, 0)
      else ([], [], (comesR (cameR t (stepsR (stepF n l t src steps at_) vs [] []).2.1) (stepsR (stepF n l t src steps at_) vs [] []).1 []).2)
    else ([], [], (stepsR (stepF n l t src steps at_) vs [] []).2.2)
  else ([], [], 70)
theorem next_f (n : Int) (l : List VEdge) (tag : ByteArray) (src steps at_ : Int) (vs : List VVert) (hl : l.length ≤ 1000) (hv : vs.length ≤ 1000) : seq_Next.f n l tag src steps at_ vs = some (nextR n l tag.toList src steps at_ vs) := by
  unfold seq_Next.f nextR
  rw [show (20 : Nat) = 12 + 8 from rfl, check_f n l tag src steps hl 12, Option.bind_some]
  cases jobB n l tag.toList src steps with
  | false => rfl
  | true =>
    rw [if_pos rfl, if_pos rfl, if_pos rfl]
    by_cases h1 : at_ < 0
    · rw [if_pos h1, if_pos h1]
    rw [if_neg h1, if_neg h1]
    by_cases h2 : at_ ≥ steps
    · rw [if_pos h2, if_pos h2]
    rw [if_neg h2, if_neg h2, if_pos (show vs.length ≤ 1000000 by omega)]
    by_cases h3 : (vs.length : Int) ≠ n
    · rw [if_pos h3, if_pos h3]
    rw [if_neg h3, if_neg h3]
    by_cases h4 : idsOk vs 0 = false
    · rw [if_pos h4, if_pos h4]
    rw [if_neg h4, if_neg h4, steps_f n l tag src steps at_ hl, Option.bind_some]
    have hq := stepsR_len (F := stepF n l tag.toList src steps at_) (m := 1000) (fun y => Nat.le_trans (step_sends n l tag.toList src steps at_ y.f0 y.f1 y.f2 y.f3 y.f4) hl) vs [] []
    rw [List.length_nil, Nat.zero_add] at hq
    have hq2 : vs.length * 1000 ≤ 1000000 := by omega
    rw [if_pos (by omega)]
    by_cases h5 : (stepsR (stepF n l tag.toList src steps at_) vs [] []).2.2 = 0
    · rw [if_pos h5, if_pos h5, comes_f tag _ (by omega), Option.bind_some]
      split <;> rfl
    · rw [if_neg h5, if_neg h5]
/-- All vertices at first. -/
def startV (n : Int) (t : List UInt8) (src : Int) : List VVert := (List.range n.toNat).map fun v : Nat => ⟨(v : Int), firstV t src (v : Int), true, false, 0⟩
def startR (n : Int) (l : List VEdge) (t : List UInt8) (src steps : Int) : List VVert × Int := if jobB n l t src steps = true then (startV n t src, 0) else ([], 70)
theorem job_n {n : Int} {l : List VEdge} {t : List UInt8} {src steps : Int} (h : jobB n l t src steps = true) : 1 ≤ n ∧ n ≤ 64 := by
  have := badG_not (job_of h).1
  omega
theorem start_l0 (tag : ByteArray) (src steps : Int) (hk : knownB tag.toList = true) (N : Nat) (hN : N ≤ 1000) : ∀ (d i : Nat), N - i = d → i ≤ N → Ev (fun k => seq_Start.l0 k ((List.range i).map (fun v : Nat => (⟨(v : Int), firstV tag.toList src (v : Int), true, false, 0⟩ : VVert)) ++ List.replicate d z50) (N : Int) (i : Int) tag src steps) (((List.range N).map fun v : Nat => ⟨(v : Int), firstV tag.toList src (v : Int), true, false, 0⟩), 0)
  | 0, i, hd, hi => by
    obtain rfl : i = N := by omega
    refine Ev.step (fun k => ?_) (Ev.now _)
    rw [seq_Start.l0, if_neg (by omega)]
    simp
  | d + 1, i, hd, hi => by
    refine Ev.step (fun k => ?_) (start_l0 tag src steps hk N hN d (i + 1) (by omega) (by omega))
    have hf : prog_First.f tag src steps (i : Int) = some ((i : Int), firstV tag.toList src (i : Int), true, false, 0) := by
      unfold prog_First.f
      rw [if_pos (show 0 ≤ (i : Int) ∧ (i : Int) ≤ 1048576 by omega), show (20 : Nat) = 12 + 8 from rfl, known_f, Option.bind_some, hk, if_pos rfl]
    have hs : ((List.range i).map (fun v : Nat => (⟨(v : Int), firstV tag.toList src (v : Int), true, false, 0⟩ : VVert)) ++ List.replicate (d + 1) z50).set i ⟨(i : Int), firstV tag.toList src (i : Int), true, false, 0⟩ = (List.range (i + 1)).map (fun v : Nat => (⟨(v : Int), firstV tag.toList src (v : Int), true, false, 0⟩ : VVert)) ++ List.replicate d z50 := by
      have := set_mid ((List.range i).map (fun v : Nat => (⟨(v : Int), firstV tag.toList src (v : Int), true, false, 0⟩ : VVert))) z50 ⟨(i : Int), firstV tag.toList src (i : Int), true, false, 0⟩ (List.replicate d z50)
      rw [List.length_map, List.length_range] at this
      rw [List.replicate_succ, this, List.range_succ, List.map_append]
      rfl
    rw [seq_Start.l0, if_pos (by omega), hf, Option.bind_some, if_pos (by omega), if_pos (by simp; omega), Int.toNat_natCast, hs, wrapt (by omega) (by omega)]
    rfl
theorem start_f (n : Int) (l : List VEdge) (tag : ByteArray) (src steps : Int) (hl : l.length ≤ 1000) : Ev (fun k => seq_Start.f k n l tag src steps) (startR n l tag.toList src steps) := by
  have ck : Ev (fun k => prog_Check.f k n l tag src steps) (if jobB n l tag.toList src steps = true then 0 else 70) := ⟨8, fun k hk => by
    obtain ⟨m, rfl⟩ : ∃ m, k = m + 8 := ⟨k - 8, by omega⟩
    exact check_f n l tag src steps hl m⟩
  refine Ev.bind ck ?_
  unfold startR
  cases hj : jobB n l tag.toList src steps with
  | false => exact Ev.congr (fun k => if_neg (by decide)) (Ev.now _)
  | true =>
    obtain ⟨h1, h2⟩ := job_n hj
    obtain ⟨N, rfl⟩ : ∃ N : Nat, n = (N : Int) := ⟨n.toNat, by omega⟩
    have h := start_l0 tag src steps (job_of hj).2.2.1 N (by omega) N 0 rfl (Nat.zero_le _)
    refine Ev.congr (fun k => ?_) h
    rw [if_pos rfl, if_pos (by omega), if_pos (by omega), Option.bind_some, Int.toNat_natCast, List.length_replicate, if_pos (by omega)]
    rfl
theorem values_l0 (vs : List VVert) (hv : vs.length ≤ 1000) : ∀ (d i : Nat), vs.length - i = d → i ≤ vs.length → Ev (fun k => seq_Values.l0 k ((vs.take i).map (·.f1) ++ List.replicate d 0) vs (vs.length : Int) (i : Int)) (vs.map (·.f1))
  | 0, i, hd, hi => by
    obtain rfl : i = vs.length := by omega
    refine Ev.step (fun k => ?_) (Ev.now _)
    rw [seq_Values.l0, if_neg (by omega), List.take_length]
    simp
  | d + 1, i, hd, hi => by
    have hlt : i < vs.length := by omega
    refine Ev.step (fun k => ?_) (values_l0 vs hv d (i + 1) (by omega) (by omega))
    have hs : ((vs.take i).map (·.f1) ++ List.replicate (d + 1) (0 : Int)).set i (vs[i].f1) = (vs.take (i + 1)).map (·.f1) ++ List.replicate d 0 := by
      have := set_mid ((vs.take i).map (·.f1)) 0 (vs[i].f1) (List.replicate d 0)
      rw [List.length_map, List.length_take, Nat.min_eq_left (by omega)] at this
      rw [List.replicate_succ, this, List.take_succ_eq_append_getElem hlt, List.map_append]
      rfl
    rw [seq_Values.l0, if_pos (by omega), if_pos (by omega), if_pos (by omega), if_pos (by simp; omega), rdV9 vs i hlt, Int.toNat_natCast, hs, wrapt (by omega) (by omega)]
    rfl
theorem values_f (vs : List VVert) (hv : vs.length ≤ 1000) : Ev (fun k => seq_Values.f k vs) (vs.map (·.f1)) := by
  refine Ev.congr (fun k => ?_) (values_l0 vs hv vs.length 0 rfl (Nat.zero_le _))
  unfold seq_Values.f
  rw [if_pos (by omega), if_pos (by omega), Int.toNat_natCast]
  rfl
theorem quiet_f (vs : List VVert) (hv : vs.length ≤ 1000) : seq_Quiet.f vs = some (!(vs.any loudV)) := by
  unfold seq_Quiet.f
  rw [if_pos (by omega)]
end Go.Proofs.YtpndhkeoljoapaaGreat.Pure
