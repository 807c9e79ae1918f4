/- The chapter's example, reckoned: the anchor of all laws about messages. -/
import Derived.Test.YtgdkemgilmfkfaaPx
import Derived.Test.YtgdkemgilmfkfaaFold
import Derived.WalkKit
namespace Go.Proofs.Ytgdkemgilmfkfaa.Pure
open Go.RowKit Go.Proofs.Ytgdkemgilmfkfaa.P
theorem sort_ins (l : List Msg) (h : l.length < 5864062014805) : fold_Sort.f l = some (insAll [] l) := by rw [sort_f l h, insAll_sort]
theorem came_ins (tag : ByteArray) (l : List Msg) (v : Int) : fold_Came.f tag l v = (prog_Known.f 20 tag).bind fun b => if b = true then (if l.length < 5864062014805 then cameQ tag (insAll [] (l.filter fun x => x.f1 == v)) else none) else some (0, false, 70) := by
  unfold fold_Came.f
  rw [insAll_sort]
theorem to_ins (l : List Msg) (v : Int) (h : l.length < 5864062014805) : fold_To.f l v = some (insAll [] (l.filter fun x => x.f1 == v)) := by
  unfold fold_To.f
  rw [if_pos h, insAll_sort]
theorem from_ins (l : List Msg) (v : Int) (h : l.length < 5864062014805) : fold_From.f l v = some (insAll [] (l.filter fun x => x.f0 == v)) := by
  unfold fold_From.f
  rw [if_pos h, insAll_sort]
theorem split_ins (l : List Msg) (k : Int) (h : l.length < 5864062014805) : fold_Split.f k l = if (decide (k < 1) || (decide (k > 64) || l.any negB)) = true then some ([], 80) else some ((List.range k.toNat).map (fun v : Nat => insAll [] (l.filter (hisB k (v : Int)))), 0) := by
  unfold fold_Split.f
  rw [if_pos h]
  congr 2
  congr 2
  funext v
  unfold hisOf
  rw [insAll_sort]
theorem came_ex : fold_Came.f (⟨#[109, 97, 120]⟩ : ByteArray) [(⟨1, 2, 3⟩ : Msg), (⟨0, 2, 5⟩ : Msg), (⟨3, 2, 4⟩ : Msg)] 2 = some (5, true, 0) := by
  rw [came_ins]
  kernel_rfl
theorem split_ex : fold_Split.f 1 [(⟨1, 2, 3⟩ : Msg), (⟨0, 2, 5⟩ : Msg), (⟨3, 2, 4⟩ : Msg)] = some ([[(⟨0, 2, 5⟩ : Msg), (⟨1, 2, 3⟩ : Msg), (⟨3, 2, 4⟩ : Msg)]], 0) := by
  rw [split_ins _ _ (by simp)]
  kernel_rfl
theorem awake_f : modillionlaw08_awake.f = some true := by
  unfold modillionlaw08_awake.f
  rw [Option.bind_some, came_ex, Option.bind_some, split_ex, Option.bind_some, sort_ins _ (by simp), to_ins _ _ (by simp), from_ins _ _ (by simp)]
  kernel_rfl
theorem awakes_f (l : List Msg) : modillionlaw08_awakes.f l = some true := by
  unfold modillionlaw08_awakes.f
  rw [sort_ins _ (by simp), awake_f]
  kernel_rfl
end Go.Proofs.Ytgdkemgilmfkfaa.Pure
