/- What the chapter's example fixes, holds: a ring of three, labelled. -/
import Derived.Test.YtpndhkeoljoapaaGreatSeqRun
namespace Go.Proofs.YtpndhkeoljoapaaGreat.Pure
open Go Go.RowKit Go.Proofs.YtpndhkeoljoapaaGreat.P Go.Proofs.YtpndhkeoljoapaaGreatW.PrintWords Go.Proofs.YtpndhkeoljoapaaGreatW.PrintLast Go.Proofs.YtpndhkeoljoapaaGreatW.PrintMore
set_option linter.unusedVariables false
set_option linter.unusedSimpArgs false
abbrev ring : List VEdge := [⟨0, 1, 0⟩, ⟨1, 2, 0⟩, ⟨2, 0, 0⟩]
abbrev ringT : ByteArray := ⟨#[108, 97, 98, 101, 108]⟩
theorem ringT_list : ringT.toList = tLabel := by simp only [ByteArray.toList_eq]
theorem ring_sort : sortE ring = ring := by
  refine (sorted_unique ⟨List.Perm.refl _, ?_⟩ rfl).symm
  simp [ring]
/-- A step over edges that are in order. -/
def stepC (at_ : Int) (y : VVert) : StepR :=
  if y.f0 < 0 ∨ y.f0 ≥ 3 ∨ at_ < 0 ∨ at_ ≥ 9 then (0, 0, false, false, 0, [], 70)
  else if (bigS y.f1 || bigS y.f4) = true then (0, 0, false, false, 0, [], 71)
  else if (!y.f2 && !y.f3) = true then (y.f0, y.f1, y.f2, y.f3, y.f4, [], 0)
  else
    let edges := ring.filter fun e => e.f0 == y.f0
    let s := stepV tLabel 0 9 at_ y.f0 y.f1 y.f3 (if y.f3 = true then y.f4 else 0) (edges.length : Int)
    let ms := if s.2.2.1 = true then edges.map (sendV tLabel y.f0 s.2.2.2) else []
    if (bigS s.1 || ms.any fun m => bigS m.f2) = true then (0, 0, false, false, 0, [], 71) else (y.f0, s.1, s.2.1, false, 0, ms, 0)
theorem ring_job : jobB 3 ring tLabel 0 9 = true := rfl
theorem ring_step (at_ : Int) : stepF 3 ring tLabel 0 9 at_ = stepC at_ := by
  funext y
  unfold stepF stepR stepC
  rw [ring_job, if_pos rfl]
  unfold goesV
  rw [ring_sort]
/-- Messages in order, where there are few. -/
def srt : List VMsg → List VMsg
  | [] => []
  | [a] => [a]
  | a :: b :: l => sortMsg (a :: b :: l)
theorem srt_eq : ∀ l : List VMsg, sortMsg l = srt l
  | [] => by unfold sortMsg; exact List.mergeSort_nil
  | [a] => by unfold sortMsg; exact List.mergeSort_singleton _
  | a :: b :: l => rfl
def cameC (s : List VMsg) (v : Int) : Int × Bool × Int := cameQR tLabel (srt (s.filter fun x => x.f1 == v))
theorem ring_came (s : List VMsg) : cameR tLabel s = cameC s := by
  funext v
  unfold cameR cameC
  rw [if_pos (show knownB tLabel = true from rfl), srt_eq]
theorem ring_next (at_ : Int) (vs out : List VVert) (s : List VMsg) (h0 : 0 ≤ at_) (h1 : at_ < 9) (hl : vs.length = 3) (hi : idsOk vs 0 = true) {q : List VVert} (hq : stepsR (stepC at_) vs [] [] = (q, s, 0)) (hc : comesR (cameC s) q [] = (out, 0)) : nextR 3 ring tLabel 0 9 at_ vs = (out, sortMsg s, 0) := by
  unfold nextR
  rw [ring_job, if_pos rfl, if_neg (by omega), if_neg (by omega), if_neg (by rw [hl]; decide), if_neg (by rw [hi]; decide), ring_step, hq, if_pos rfl, ring_came, hc, if_pos rfl]
abbrev r0 : List VVert := [⟨0, 0, true, false, 0⟩, ⟨1, 1, true, false, 0⟩, ⟨2, 2, true, false, 0⟩]
abbrev r1 : List VVert := [⟨0, 0, false, true, 2⟩, ⟨1, 1, false, true, 0⟩, ⟨2, 2, false, true, 1⟩]
abbrev r2 : List VVert := [⟨0, 0, false, true, 1⟩, ⟨1, 0, false, false, 0⟩, ⟨2, 1, false, true, 0⟩]
abbrev r3 : List VVert := [⟨0, 0, false, true, 0⟩, ⟨1, 0, false, false, 0⟩, ⟨2, 0, false, false, 0⟩]
abbrev r4 : List VVert := [⟨0, 0, false, false, 0⟩, ⟨1, 0, false, false, 0⟩, ⟨2, 0, false, false, 0⟩]
theorem ring_start : startV 3 tLabel 0 = r0 := rfl
theorem next0 : nextR 3 ring tLabel 0 9 0 r0 = (r1, sortMsg [⟨0, 1, 0⟩, ⟨1, 2, 1⟩, ⟨2, 0, 2⟩], 0) := ring_next 0 r0 r1 _ (by decide) (by decide) rfl rfl (q := [⟨0, 0, false, false, 0⟩, ⟨1, 1, false, false, 0⟩, ⟨2, 2, false, false, 0⟩]) rfl rfl
theorem next1 : nextR 3 ring tLabel 0 9 1 r1 = (r2, sortMsg [⟨1, 2, 0⟩, ⟨2, 0, 1⟩], 0) := ring_next 1 r1 r2 _ (by decide) (by decide) rfl rfl (q := [⟨0, 0, false, false, 0⟩, ⟨1, 0, false, false, 0⟩, ⟨2, 1, false, false, 0⟩]) rfl rfl
theorem next2 : nextR 3 ring tLabel 0 9 2 r2 = (r3, sortMsg [⟨2, 0, 0⟩], 0) := ring_next 2 r2 r3 _ (by decide) (by decide) rfl rfl (q := [⟨0, 0, false, false, 0⟩, ⟨1, 0, false, false, 0⟩, ⟨2, 0, false, false, 0⟩]) rfl rfl
theorem next3 : nextR 3 ring tLabel 0 9 3 r3 = (r4, sortMsg [], 0) := ring_next 3 r3 r4 _ (by decide) (by decide) rfl rfl (q := r4) rfl rfl
theorem ring_run : runR 3 ring tLabel 0 9 = ([0, 0, 0], 4, 0) := by
  unfold runR
  rw [ring_job, if_pos rfl, ring_start, show (9 : Int).toNat = 4 + 1 + 1 + 1 + 1 + 1 from rfl]
  rw [runL, if_pos (by rfl), next0, if_pos rfl, runL, if_pos (by rfl), show (0 + 1 : Int) = 1 from rfl, next1, if_pos rfl, runL, if_pos (by rfl), show (1 + 1 : Int) = 2 from rfl, next2, if_pos rfl, runL, if_pos (by rfl), show (2 + 1 : Int) = 3 from rfl, next3, if_pos rfl, runL, if_neg (by decide)]
  rfl
theorem awake09 : Ev (fun k => modillionlaw09_awake.f k) true := by
  unfold modillionlaw09_awake.f
  refine Ev.congr (f := fun k => (seq_Start.f k 3 ring ringT 0 9).bind fun bt165 => ((seq_Next.f 3 ring ringT 0 9 0 bt165.1).bind fun bt169 => ((seq_Run.f k 3 ring ringT 0 9).bind fun bt176 => (if bt165.2 = 0 then (if (bt165.1.length : Int) = 3 then (if bt169.2.2 = 0 then (if (bt169.1.length : Int) = 3 then (if (bt169.2.1.length : Int) = 3 then (if 1 < (bt169.1.length : Int) then (if (rd_T50 bt169.1 1).f3 = true then ((seq_Quiet.f bt169.1).bind fun t182 => (if t182 = true then (none) else ((modillionref09_Row.f k bt176.1 (([0, 0, 0] : List Int))).bind fun t186 => (if t186 = true then (if bt176.2.1 ≤ 4 then (if bt176.2.2 = 0 then ((seq_Values.f k bt165.1).bind fun t187 => ((modillionref09_Row.f k t187 (([0, 1, 2] : List Int))).bind fun t193 => (some t193))) else (none)) else (none)) else (none))))) else (none)) else (none)) else (none)) else (none)) else (none)) else (none)) else (none))))) (fun k => rfl) ?_
  have hs := start_f 3 ring ringT 0 9 (by decide)
  rw [ringT_list, show startR 3 ring tLabel 0 9 = (r0, 0) from rfl] at hs
  have hr := run_f 3 ring ringT 0 9 (by decide)
  rw [ringT_list, ring_run] at hr
  refine Ev.bind hs (Ev.bind (a := (r1, sortMsg [⟨0, 1, 0⟩, ⟨1, 2, 1⟩, ⟨2, 0, 2⟩], 0)) (Ev.congr (fun k => by rw [next_f 3 ring ringT 0 9 0 r0 (by decide) (by decide), ringT_list, next0]) (Ev.now _)) (Ev.bind hr ?_))
  have hm : (((sortMsg [(⟨0, 1, 0⟩ : VMsg), ⟨1, 2, 1⟩, ⟨2, 0, 2⟩]).length : Nat) : Int) = 3 := by
    unfold sortMsg
    rw [List.length_mergeSort]
    rfl
  refine Ev.congr (fun k => if_pos rfl) (Ev.congr (fun k => if_pos rfl) (Ev.congr (fun k => if_pos rfl) (Ev.congr (fun k => if_pos rfl) (Ev.congr (fun k => if_pos hm) (Ev.congr (fun k => if_pos (show (1 : Int) < ((r1.length : Nat) : Int) by decide)) (Ev.congr (fun k => if_pos rfl) ?_))))))
  refine Ev.bind (a := false) (Ev.congr (fun k => by rw [quiet_f r1 (by decide)]; rfl) (Ev.now _)) (Ev.congr (fun k => if_neg Bool.false_ne_true) ?_)
  refine Ev.bind (row_self [0, 0, 0] (by decide)) (Ev.congr (fun k => rfl) ?_)
  exact Ev.bind (values_f r0 (by decide)) (Ev.bind (row_self [0, 1, 2] (by decide)) (Ev.now _))
end Go.Proofs.YtpndhkeoljoapaaGreat.Pure
