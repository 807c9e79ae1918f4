/- Plain lemmas: the document's messages that came, its steps of all vertices, and its values are the program's. -/
import Derived.Test.YtpndhkeoljoapaaGreatKnown9All
import Derived.Test.YtpndhkeoljoapaaGreatSeqGetAll
import Derived.Test.YtpndhkeoljoapaaGreatSort9
namespace Go.Proofs.YtpndhkeoljoapaaGreat.Pure
open Go Go.RowKit Go.Proofs.YtpndhkeoljoapaaGreat.P Go.Proofs.YtpndhkeoljoapaaGreatW.PrintWords Go.Proofs.YtpndhkeoljoapaaGreatW.PrintLast Go.Proofs.YtpndhkeoljoapaaGreatW.PrintMore
set_option linter.unusedVariables false
set_option linter.unusedSimpArgs false
theorem refto_l0 (l : List Msg) (v : Int) (hl : l.length ≤ 1000000) : ∀ (d i : Nat) (acc : List Msg), l.length - i = d → i ≤ l.length → acc.length ≤ i → Ev (fun k => modillionref08_To.l0 k l v acc (i : Int)) (sortMsg (acc ++ (l.drop i).filter fun x => x.f1 == v))
  | 0, i, acc, hd, hi, ha => by
    refine Ev.step (fun k => ?_) (Ev.now _)
    rw [modillionref08_To.l0, if_neg (by omega), refsort_f _ (by omega), List.drop_of_length_le (by omega), Option.bind_some, List.filter_nil, List.append_nil]
  | d + 1, i, acc, hd, hi, ha => by
    have hlt : i < l.length := by omega
    rw [filter_drop l i hlt]
    by_cases hv : l[i].f1 = v
    · refine Ev.step (fun k => ?_) (refto_l0 l v hl d (i + 1) (acc ++ [l[i]]) (by omega) (by omega) (by simp; omega)) |> fun h => by simpa [hv] using h
      rw [modillionref08_To.l0, if_pos (by omega), if_pos (by omega), wrap_id (by omega) (by omega), rdM7 l i hlt, if_pos hv, if_pos (by omega)]
      rfl
    · have h := refto_l0 l v hl d (i + 1) acc (by omega) (by omega) (by omega)
      rw [if_neg (by simpa using hv), List.nil_append]
      refine Ev.step (fun k => ?_) h
      rw [modillionref08_To.l0, if_pos (by omega), if_pos (by omega), wrap_id (by omega) (by omega), rdM7 l i hlt, if_neg hv]
      rfl
theorem refto_f (l : List Msg) (v : Int) (hl : l.length ≤ 1000000) : Ev (fun k => modillionref08_To.f k l v) (sortMsg (l.filter fun x => x.f1 == v)) := refto_l0 l v hl l.length 0 [] (by omega) (by omega) (by simp)
theorem cameLR_err (t : List UInt8) : ∀ (l : List VMsg) (n e : Int), e ≠ 0 → cameLR t l n e = (n, e)
  | [], n, e, h => rfl
  | m :: l, n, e, h => by rw [cameLR, if_neg h]
theorem big_same (v : Int) : bigS v = bigB v := rfl
theorem foldA_max (x : Int) : foldA tMax x x = if bigB x = true then (0, 71) else (x, 0) := by
  unfold foldA foldP
  rw [if_pos (by decide), Bool.or_self]
  cases h : bigB x with
  | true => rfl
  | false =>
    rw [if_neg Bool.false_ne_true, if_neg Bool.false_ne_true]
    have e : foldV tMax x x = x := by unfold foldV mx; rw [if_pos rfl, if_neg (by omega)]
    rw [e, h, if_neg Bool.false_ne_true]
theorem refcame_l0 (tag : ByteArray) (tm : List VMsg) (ht : tm.length ≤ 1000000) : ∀ (d i : Nat) (n : Int), tm.length - i = d → i ≤ tm.length → Ev (fun k => modillionref08_Came.l0 k tag tm n (i : Int)) (if (cameLR tag.toList (tm.drop i) n 0).2 = 0 then ((cameLR tag.toList (tm.drop i) n 0).1, true, 0) else (0, false, (cameLR tag.toList (tm.drop i) n 0).2))
  | 0, i, n, hd, hi => by
    refine Ev.step (fun k => ?_) (Ev.now _)
    rw [modillionref08_Came.l0, if_neg (by omega), List.drop_of_length_le (by omega)]
    rfl
  | d + 1, i, n, hd, hi => by
    have hlt : i < tm.length := by omega
    rw [List.drop_eq_getElem_cons hlt, cameLR, if_pos rfl]
    refine Ev.step (f := fun k => (modillionref07_Fold.f k tag n (tm[i].f2)).bind fun bt => if bt.2 = 0 then modillionref08_Came.l0 k tag tm bt.1 ((i + 1 : Nat) : Int) else some (0, false, bt.2)) (fun k => ?_) ?_
    · rw [modillionref08_Came.l0, if_pos (by omega), if_pos (by omega), rdM7 tm i hlt, wrapt (by omega) (by omega)]
      rfl
    · have hf : Ev (fun k => modillionref07_Fold.f k tag n tm[i].f2) (foldA tag.toList n tm[i].f2) := ⟨3, fun k hk => by
        obtain ⟨m, rfl⟩ : ∃ m, k = m + 3 := ⟨k - 3, by omega⟩
        exact reffold tag n _ m⟩
      refine Ev.bind hf ?_
      · by_cases he : (foldA tag.toList n tm[i].f2).2 = 0
        · have ih := refcame_l0 tag tm ht d (i + 1) (foldA tag.toList n tm[i].f2).1 (by omega) (by omega)
          refine Ev.congr (fun k => if_pos he) ?_
          rw [he]
          exact ih
        · rw [cameLR_err _ _ _ _ he, if_neg he]
          exact Ev.congr (fun k => if_neg he) (Ev.now _)
theorem refcame_f (tag : ByteArray) (s : List VMsg) (v : Int) (hs : s.length ≤ 1000000) : Ev (fun k => modillionref08_Came.f k tag s v) (cameR tag.toList s v) := by
  unfold cameR modillionref08_Came.f
  refine Ev.congr (f := fun k => if knownB tag.toList = true then ((modillionref08_To.f k s v).bind fun t220 => (if (t220.length : Int) = 0 then (some (0, false, 0)) else (if 0 < (t220.length : Int) then ((modillionref07_Great.f ((rd_T61 t220 0).f2)).bind fun t224 => (if t224 = true then (some (0, false, 71)) else (modillionref08_Came.l0 k tag t220 ((rd_T61 t220 0).f2) 1))) else (none)))) else (some (0, false, 70))) (fun k => by rw [refknown_f, Option.bind_some]) ?_
  cases knownB tag.toList with
  | false => exact Ev.congr (fun k => if_neg Bool.false_ne_true) (Ev.now _)
  | true =>
    rw [if_pos rfl]
    refine Ev.congr (fun k => if_pos rfl) (Ev.bind (refto_f s v hs) ?_)
    have hlen : (sortMsg (s.filter fun x => x.f1 == v)).length ≤ 1000000 := by
      rw [sortMsg_len]
      exact Nat.le_trans (List.length_filter_le _ _) hs
    generalize sortMsg (s.filter fun x => x.f1 == v) = tm at hlen
    cases tm with
    | nil => exact Ev.congr (fun k => if_pos rfl) (Ev.now _)
    | cons m l =>
      have h1 : ¬ (((m :: l).length : Int) = 0) := by rw [List.length_cons]; omega
      have h2 : 0 < ((m :: l).length : Int) := by rw [List.length_cons]; omega
      refine Ev.congr (fun k => if_neg h1) (Ev.congr (fun k => if_pos h2) ?_)
      have hr : rd_T61 (m :: l) 0 = m := rdM7 (m :: l) 0 (by simp)
      refine Ev.congr (f := fun k => if bigB m.f2 = true then some (0, false, 71) else modillionref08_Came.l0 k tag (m :: l) m.f2 ((1 : Nat) : Int)) (fun k => by rw [hr, refbig_f, Option.bind_some]; rfl) ?_
      rw [cameQR, foldA_max]
      cases hb : bigB m.f2 with
      | true =>
        rw [if_pos rfl, cameLR_err _ _ _ _ (by decide), if_neg (by decide)]
        exact Ev.congr (fun k => if_pos rfl) (Ev.now _)
      | false =>
        rw [if_neg Bool.false_ne_true]
        refine Ev.congr (fun k => if_neg Bool.false_ne_true) ?_
        have h := refcame_l0 tag (m :: l) hlen l.length 1 m.f2 (by simp) (by simp)
        rw [List.drop_one, List.tail_cons] at h
        exact h
theorem refsteps_f {F : Nat → VVert → Option NxP} {G : VVert → StepR} : ∀ (vs o : List VVert) (s : List VMsg), (∀ y ∈ vs, Ev (fun k => F k y) (G y)) → ∃ q, Ev (fun k => nxSteps (F k) vs o s) q ∧ q.2.2 = (stepsR G vs o s).2.2 ∧ (q.2.2 = 0 → q = stepsR G vs o s) ∧ q.2.1.length ≤ (stepsR G vs o s).2.1.length
  | [], o, s, h => ⟨(o, s, 0), Ev.now _, rfl, fun _ => rfl, Nat.le_refl _⟩
  | y :: r, o, s, h => by
    by_cases he : (G y).2.2.2.2.2.2 = 0
    · obtain ⟨q, h1, h2, h3, h4⟩ := refsteps_f r (o ++ [vxOf (G y)]) (s ++ (G y).2.2.2.2.2.1) (fun z hz => h z (List.mem_cons_of_mem _ hz))
      refine ⟨q, Ev.bind (h y (List.mem_cons_self ..)) (Ev.congr (fun k => if_pos he) h1), ?_⟩
      rw [stepsR, if_pos he]
      exact ⟨h2, h3, h4⟩
    · refine ⟨(o, s, (G y).2.2.2.2.2.2), Ev.bind (h y (List.mem_cons_self ..)) (Ev.congr (fun k => if_neg he) (Ev.now _)), ?_⟩
      rw [stepsR, if_neg he]
      exact ⟨rfl, fun h0 => absurd h0 he, by simp⟩
theorem refcomes_f {C : Nat → Int → Option (Int × Bool × Int)} {D : Int → Int × Bool × Int} (hC : ∀ i, Ev (fun k => C k i) (D i)) : ∀ (r o : List VVert), ∃ q, Ev (fun k => nxComes (C k) r.length o.length (o ++ r)) q ∧ q.2 = (comesR D r o).2 ∧ (q.2 = 0 → q.1 = (comesR D r o).1)
  | [], o => ⟨(o, 0), by rw [List.append_nil]; exact Ev.now _, rfl, fun _ => rfl⟩
  | y :: r, o => by
    have e1 : (o ++ y :: r).take o.length = o := List.take_left
    have e2 : (o ++ y :: r).drop (o.length + 1) = r := by rw [← List.drop_drop, List.drop_left]; rfl
    have e3 : (o ++ y :: r).getD o.length z50 = y := get_mid o y r _
    by_cases he : (D (o.length : Int)).2.2 = 0
    · obtain ⟨q, h1, h2, h3⟩ := refcomes_f hC r (o ++ [comeV y (D (o.length : Int)).2.1 (D (o.length : Int)).1])
      refine ⟨q, ?_, ?_⟩
      · refine Ev.bind (hC _) (Ev.congr (fun k => if_pos he) ?_)
        rw [e1, e2, e3]
        rw [List.length_append] at h1
        exact h1
      · rw [comesR, if_pos he]
        exact ⟨h2, h3⟩
    · refine ⟨(o ++ y :: r, (D (o.length : Int)).2.2), Ev.bind (hC _) (Ev.congr (fun k => if_neg he) (Ev.now _)), ?_⟩
      rw [comesR, if_neg he]
      exact ⟨rfl, fun h => absurd h he⟩
theorem idsOk_mem : ∀ (vs : List VVert) (i : Nat), idsOk vs i = true → ∀ y ∈ vs, (i : Int) ≤ y.f0 ∧ y.f0 < (i : Int) + vs.length
  | [], i, h, y, hy => by cases hy
  | x :: r, i, h, y, hy => by
    rw [idsOk, Bool.and_eq_true, beq_iff_eq] at h
    rw [List.length_cons]
    rcases List.mem_cons.1 hy with e | hy
    · rw [e]; omega
    · have := idsOk_mem r (i + 1) h.2 y hy
      omega
theorem refnext_f (n : Int) (l : List VEdge) (tag : ByteArray) (src steps at_ : Int) (vs : List VVert) (hl : l.length ≤ 1000) (hv : vs.length ≤ 1000) : Ev (fun k => modillionref09_Next.f k n l tag src steps at_ vs) (nextR n l tag.toList src steps at_ vs) := by
  refine Ev.bind (refright_f n l tag src steps hl) ?_
  unfold nextR
  cases hj : jobB n l tag.toList src steps with
  | false => exact Ev.congr (fun k => if_neg Bool.false_ne_true) (Ev.now _)
  | true =>
  rw [if_pos rfl]
  refine Ev.congr (fun k => if_pos rfl) ?_
  by_cases h1 : at_ < 0
  · rw [if_pos h1]; exact Ev.congr (fun k => if_pos h1) (Ev.now _)
  rw [if_neg h1]
  refine Ev.congr (fun k => if_neg h1) ?_
  by_cases h2 : at_ ≥ steps
  · rw [if_pos h2]; exact Ev.congr (fun k => if_pos h2) (Ev.now _)
  rw [if_neg h2]
  refine Ev.congr (fun k => if_neg h2) (Ev.congr (fun k => if_pos (show vs.length ≤ 1000000 by omega)) ?_)
  by_cases h3 : (vs.length : Int) ≠ n
  · rw [if_pos h3]; exact Ev.congr (fun k => if_pos h3) (Ev.now _)
  rw [if_neg h3]
  refine Ev.congr (fun k => if_neg h3) ?_
  unfold nxTail
  cases h4 : idsOk vs 0 with
  | false => rw [if_pos rfl]; exact Ev.congr (fun k => if_pos rfl) (Ev.now _)
  | true =>
  rw [if_neg (by decide)]
  refine Ev.congr (fun k => if_neg (by decide)) ?_
  obtain ⟨q, hq, e1, e2, e3⟩ := refsteps_f (F := fun k y => modillionref07_Step.f k n l tag src steps at_ y.f0 y.f1 y.f2 y.f3 y.f4) (G := stepF n l tag.toList src steps at_) vs [] [] (fun y hy => by
    have hm := idsOk_mem vs 0 h4 y hy
    exact refstep_f n l tag src steps at_ y.f0 y.f1 y.f2 y.f3 y.f4 hl hj (by omega) (by omega))
  have hlen := stepsR_len (F := stepF n l tag.toList src steps at_) (m := 1000) (fun y => Nat.le_trans (step_sends n l tag.toList src steps at_ y.f0 y.f1 y.f2 y.f3 y.f4) hl) vs [] []
  rw [List.length_nil, Nat.zero_add] at hlen
  have hlen2 : vs.length * 1000 ≤ 1000000 := by omega
  refine Ev.bind hq (Ev.congr (fun k => if_pos (by omega)) ?_)
  rw [← e1]
  by_cases h5 : q.2.2 = 0
  · have e := e2 h5
    rw [e] at h5 ⊢
    rw [if_pos h5]
    refine Ev.congr (fun k => if_pos h5) ?_
    have hcnt : (stepsR (stepF n l tag.toList src steps at_) vs [] []).1.length = vs.length := by
      rw [(stepsR_ok _ _ _ _ h5).1]
      simp
    obtain ⟨p, hp, f1, f2⟩ := refcomes_f (C := fun k i => modillionref08_Came.f k tag (stepsR (stepF n l tag.toList src steps at_) vs [] []).2.1 i) (D := cameR tag.toList (stepsR (stepF n l tag.toList src steps at_) vs [] []).2.1) (fun i => refcame_f tag _ i (by omega)) (stepsR (stepF n l tag.toList src steps at_) vs [] []).1 []
    rw [hcnt, List.nil_append] at hp
    refine Ev.bind hp ?_
    rw [← f1]
    by_cases h6 : p.2 = 0
    · rw [if_pos h6, ← f2 h6]
      refine Ev.congr (fun k => ?_) (Ev.now _)
      rw [refsort_f _ (by omega), Option.bind_some, if_pos h6]
    · rw [if_neg h6, if_neg h6]
      exact Ev.now _
  · rw [if_neg h5]
    exact Ev.congr (fun k => if_neg h5) (Ev.now _)
theorem refquiet_l0 (vs : List VVert) (hv : vs.length ≤ 1000) : ∀ (d i : Nat), vs.length - i = d → i ≤ vs.length → Ev (fun k => modillionref09_Quiet.l0 k vs (i : Int)) (!((vs.drop i).any loudV))
  | 0, i, hd, hi => by
    refine Ev.step (fun k => ?_) (Ev.now _)
    rw [modillionref09_Quiet.l0, if_neg (by omega), List.drop_of_length_le (by omega)]
    rfl
  | d + 1, i, hd, hi => by
    have hlt : i < vs.length := by omega
    have ih := refquiet_l0 vs hv d (i + 1) (by omega) (by omega)
    rw [List.drop_eq_getElem_cons hlt, List.any_cons]
    refine Ev.step (f := fun k => if vs[i].f2 = true then some false else if vs[i].f3 = true then some false else modillionref09_Quiet.l0 k vs ((i + 1 : Nat) : Int)) (fun k => ?_) ?_
    · rw [modillionref09_Quiet.l0, if_pos (by omega), if_pos (by omega), rdV9 vs i hlt, wrapt (by omega) (by omega)]
      rfl
    · unfold loudV at ih ⊢
      cases vs[i].f2 with
      | true => exact Ev.congr (fun k => if_pos rfl) (Ev.now _)
      | false =>
        refine Ev.congr (fun k => if_neg Bool.false_ne_true) ?_
        cases vs[i].f3 with
        | true => exact Ev.congr (fun k => if_pos rfl) (Ev.now _)
        | false => exact Ev.congr (fun k => if_neg Bool.false_ne_true) ih
theorem refquiet_f (vs : List VVert) (hv : vs.length ≤ 1000) : Ev (fun k => modillionref09_Quiet.f k vs) (!(vs.any loudV)) := refquiet_l0 vs hv vs.length 0 rfl (Nat.zero_le _)
theorem refvalues_l0 (vs : List VVert) (hv : vs.length ≤ 1000) : ∀ (d i : Nat), vs.length - i = d → i ≤ vs.length → Ev (fun k => modillionref09_Values.l0 k vs ((vs.take i).map (·.f1)) (i : Int)) (vs.map (·.f1))
  | 0, i, hd, hi => by
    refine Ev.step (fun k => ?_) (Ev.now _)
    rw [modillionref09_Values.l0, if_neg (by omega), List.take_of_length_le (by omega)]
  | d + 1, i, hd, hi => by
    have hlt : i < vs.length := by omega
    refine Ev.step (fun k => ?_) (refvalues_l0 vs hv d (i + 1) (by omega) (by omega))
    rw [modillionref09_Values.l0, if_pos (by omega), if_pos (by omega), if_pos (by rw [List.length_map, List.length_take]; omega), rdV9 vs i hlt, wrapt (by omega) (by omega), List.take_succ_eq_append_getElem hlt, List.map_append]
    rfl
theorem refvalues_f (vs : List VVert) (hv : vs.length ≤ 1000) : Ev (fun k => modillionref09_Values.f k vs) (vs.map (·.f1)) := refvalues_l0 vs hv vs.length 0 rfl (Nat.zero_le _)
theorem same9_l0 (vs : List VVert) (hv : vs.length ≤ 1000) : ∀ (d i : Nat), vs.length - i = d → i ≤ vs.length → Ev (fun k => modillionref09_Same.l0 k vs vs (i : Int)) true
  | 0, i, hd, hi => by
    refine Ev.step (fun k => ?_) (Ev.now _)
    rw [modillionref09_Same.l0, if_neg (by omega)]
  | d + 1, i, hd, hi => by
    refine Ev.step (fun k => ?_) (same9_l0 vs hv d (i + 1) (by omega) (by omega))
    rw [modillionref09_Same.l0, if_pos (by omega), if_pos (by omega), if_pos (by omega), if_neg (by simp), wrapt (by omega) (by omega)]
    rfl
theorem same9_f (vs : List VVert) (hv : vs.length ≤ 1000) : Ev (fun k => modillionref09_Same.f k vs vs) true := by
  refine Ev.congr (fun k => ?_) (same9_l0 vs hv vs.length 0 rfl (Nat.zero_le _))
  unfold modillionref09_Same.f
  rw [if_pos rfl]
  rfl
end Go.Proofs.YtpndhkeoljoapaaGreat.Pure
