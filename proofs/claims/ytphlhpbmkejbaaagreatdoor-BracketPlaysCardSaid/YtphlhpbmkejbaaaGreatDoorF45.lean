import Derived.Test.YtphlhpbmkejbaaaGreatDoorFE
import Derived.Test.YtphlhpbmkejbaaaGreatDoorHA
set_option linter.unusedVariables false
set_option linter.unusedSimpArgs false
namespace Go.Hw
open Go Go.Lib
def lostM (L : List Int) : List (Int × Int):=L.map fun p => (p,1)
theorem lostM_len (L : List Int) : (lostM L).length = L.length:=List.length_map _
theorem lookA_lost (p : Int) : ∀ L : List Int,lookA p (lostM L) = if p ∈ L then some 1 else none
  | [] => rfl
  | q :: r => by
    have ih:=lookA_lost p r
    show (if q = p then some 1 else lookA p (lostM r)) = _
    by_cases h : q = p
    · rw [if_pos h,if_pos (by rw [h];simp)]
    · rw [if_neg h,ih]
      by_cases hr : p ∈ r
      · rw [if_pos hr,if_pos (List.mem_cons_of_mem _ hr)]
      · rw [if_neg hr,if_neg (fun w => by
          rcases List.mem_cons.1 w with e|e
          · exact h e.symm
          · exact hr e)]
theorem insA_lost {p : Int} : ∀ {L : List Int},p ∉ L → insA p 1 (lostM L) = lostM (L ++ [p])
  | [],_ => rfl
  | q :: r,h => by
    show (if q = p then (q,(1 : Int)) :: lostM r else (q,1) :: insA p 1 (lostM r)) = (q,1) :: lostM (r ++ [p])
    rw [if_neg (fun e => h (by rw [e];simp)),insA_lost (fun e => h (List.mem_cons_of_mem _ e))]
def atP (rs : List (List FDuel)) (i k : Nat) : List FDuel:=(rs.take i).flatMap id ++ (rs.getD i []).take k
theorem atP_zero (rs : List (List FDuel)) : atP rs 0 0 = []:=by simp [atP]
theorem take_getD {α : Type} (d : α) : ∀ (l : List α) (k : Nat),k < l.length → l.take (k + 1) = l.take k ++ [l.getD k d]
  | [],_,h => absurd h (by simp)
  | a :: r,0,_ => by simp
  | a :: r,k + 1,h => by
    rw [List.take_succ_cons,take_getD d r k (by simpa using h),List.take_succ_cons,List.getD_cons_succ];rfl
theorem atP_snoc (d0 : FDuel) {rs : List (List FDuel)} {i k : Nat} (hk : k < (rs.getD i []).length) : atP rs i (k + 1) = atP rs i k ++ [(rs.getD i []).getD k d0]:=by
  unfold atP;rw [take_getD d0 _ _ hk,List.append_assoc]
theorem atP_next {rs : List (List FDuel)} {i : Nat} (hi : i < rs.length) : atP rs i (rs.getD i []).length = atP rs (i + 1) 0:=by
  unfold atP;rw [List.take_length,take_getD [] _ _ hi,List.flatMap_append];simp
theorem atP_end {rs : List (List FDuel)} : atP rs rs.length 0 = rs.flatMap id:=by simp [atP]
theorem split_getD {α : Type} (d : α) (l : List α) (k : Nat) (h : k < l.length) : l = l.take k ++ l.getD k d :: l.drop (k + 1):=by
  conv => lhs;rw [← List.take_append_drop (k + 1) l,take_getD d l k h]
  rw [List.append_assoc];rfl
theorem atP_fresh (d0 : FDuel) {rs : List (List FDuel)} {f : FDuel → Int} (hn : ((rs.flatMap id).map f).Nodup) {i k : Nat} (hi : i < rs.length) (hk : k < (rs.getD i []).length) : f ((rs.getD i []).getD k d0) ∉ (atP rs i k).map f:=by
  have e1:=split_getD [] rs i hi
  have e2:=split_getD d0 (rs.getD i []) k hk
  have e : rs.flatMap id = atP rs i k ++ (rs.getD i []).getD k d0 :: ((rs.getD i []).drop (k + 1) ++ (rs.drop (i + 1)).flatMap id):=by
    conv => lhs;rw [e1]
    rw [List.flatMap_append,List.flatMap_cons]
    show _ ++ (rs.getD i [] ++ _) = _
    conv => lhs;rw [e2]
    unfold atP
    simp
  rw [e,List.map_append,List.map_cons,List.nodup_append] at hn
  exact fun h => hn.2.2 _ h _ (by simp) rfl
theorem openD_at (d0 : FDuel) {l : List FDuel} {t : FTie} {i : Nat} (hi : i < l.length) (hp : ∀ e ∈ l.take i,FullD e t) (hd : ¬ FullD (l.getD i d0) t) : openD l t = some (l.getD i d0):=by
  unfold openD
  have e:=split_getD d0 l i hi
  generalize l.getD i d0 = d at *
  rw [e,List.find?_append,List.find?_eq_none.2 (fun x hx => by simpa using hp x hx),List.find?_cons,decide_eq_true hd]
  rfl
theorem openD_full {l : List FDuel} {t : FTie} (hp : ∀ e ∈ l,FullD e t) : openD l t = none:=by
  unfold openD
  exact List.find?_eq_none.2 (fun x hx => by simpa using hp x hx)
theorem allLegs_le {b : FBr} (h : BrOk b) : (allLegs b).length ≤ 254:=by
  have h1:=legs_lt h
  obtain ⟨l,r,e,h2,_⟩:=h.clubs
  rw [clubsR_len,e] at h1
  unfold IsPow at h2
  simp only [List.headD_cons] at h1
  omega
end Go.Hw
