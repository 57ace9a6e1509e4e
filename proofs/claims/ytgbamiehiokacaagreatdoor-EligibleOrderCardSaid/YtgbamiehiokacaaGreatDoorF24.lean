import Derived.Test.YtgbamiehiokacaaGreatDoorFD
set_option linter.unusedVariables false
set_option linter.unusedSimpArgs false
namespace Go.Hw
open Go Go.Lib
theorem Qu {α : Type} : ∀ {a b : List α},a.Nodup → b.Nodup → (∀ x,x ∈ a ↔ x ∈ b) → a.Perm b
 | [],b,_,_,h => by
   cases b with
   | nil => exact .nil
   | cons y r => exact absurd ((h y).2 List.mem_cons_self) (by simp)
 | x :: a,b,ha,hb,h => by
   obtain ⟨p,q,rfl⟩:=List.append_of_mem ((h x).1 List.mem_cons_self)
   rw [List.nodup_cons] at ha
   have hb2 : (x :: (p ++ q)).Nodup:=(List.perm_middle (a:=x) (l₁:=p) (l₂:=q)).nodup_iff.1 hb
   rw [List.nodup_cons] at hb2
   refine (List.Perm.cons x (Qu ha.2 hb2.2 fun y => ?_)).trans List.perm_middle.symm
   have:=h y
   rw [List.mem_cons,List.mem_append,List.mem_cons] at this
   rw [List.mem_append]
   constructor
   · intro hy
     rcases this.1 (.inr hy) with w|w|w
     · exact .inl w
     · subst w;exact absurd hy ha.1
     · exact .inr w
   · intro hy
     have hy2 : y ∈ p ∨ y = x ∨ y ∈ q:=hy.elim .inl fun w => .inr (.inr w)
     rcases this.2 hy2 with w|w
     · subst w;exact absurd (List.mem_append.2 hy) hb2.1
     · exact w
theorem IsDec.perm {L : List Fct} {s c : Int} {ds xs : List FScore} (h : IsDec L s c ds) (hn : xs.Nodup) (hx : ∀ x,x ∈ xs ↔ ∃ g : FGame,g.s = s ∧ g.c = c ∧ scoreF L g = x ∧ x.kind = 2) : xs.Perm ds :=
 Qu hn (h.1.imp fun {a b} hab e => by subst e;exact LtS.irrefl _ hab) fun x => (hx x).trans (h.2 x).symm
theorem offL_len {L : List Fct} (h32 : In32 L) (g : FGame) : (offL L g).1.length ≤ 40 ∧ (offL L g).2.length ≤ 40:=by
 unfold offL
 split
 · rename_i hk
   obtain ⟨f,m,ok,k,e,eg,d⟩:=Dc h32 hk
   have:=ok.2.2.1
   unfold ContOk at this
   rw [if_neg (by omega),if_neg (by omega),if_pos k,e] at this
   have h1:=this.2.2.2.2.2.1.1
   have h2:=this.2.2.2.2.2.2.1.1
   exact ⟨Nat.le_trans (Mz _ _ _ _ _ _) h1,Nat.le_trans (Mz _ _ _ _ _ _) h2⟩
 · exact ⟨Nat.zero_le _,Nat.zero_le _⟩
open Classical in
theorem Cla (L : List Fct) (S : List FSusp) (g : FGame) (day club : Int) (sq : List Int) {k : Nat} (hk : k < sq.length) : offS L S g day club sq = offS L S g day club (sq.take k) ++ ((if OffB L S g day club (sq.getD k 0) then [sq.getD k 0] else []) ++ offS L S g day club (sq.drop (k + 1))):=by
 have e : sq = sq.take k ++ ([sq.getD k 0] ++ sq.drop (k + 1)):=by
  conv => lhs;rw [← List.take_append_drop k sq,List.drop_eq_getElem_cons hk]
  rw [List.getD_eq_getElem?_getD,List.getElem?_eq_getElem hk,Option.getD_some];rfl
 conv => lhs;rw [e]
 unfold offS
 rw [List.filter_append,List.filter_append]
 generalize sq.getD k 0 = p
 by_cases h : OffB L S g day club p <;> simp [h]
def mvK (d k p t : Int) : Fct:={ fct0 with kind:=6,day:=d,known:=k,mP:=p,mTo:=t }
open Classical in
noncomputable def nextS (pl day : Int) (z : Int) (x : Fct) : Int:=if MvOf pl x ∧ day ≤ x.day then min z x.day else z
noncomputable def nextD (L : List Fct) (pl day : Int) : Int:=L.foldl (nextS pl day) 1048577
theorem Lm (L : List Fct) (x : Fct) (pl day : Int) : nextD (L ++ [x]) pl day = nextS pl day (nextD L pl day) x:=by unfold nextD;rw [List.foldl_append];rfl
theorem nextD_le (L : List Fct) (pl day : Int) : ∀ x ∈ L,MvOf pl x → day ≤ x.day → nextD L pl day ≤ x.day:=by
 refine Caa (P:=fun L => ∀ x ∈ L,MvOf pl x → day ≤ x.day → nextD L pl day ≤ x.day) (fun x hx => absurd hx (by simp)) (fun l y ih x hx hm hd => ?_) L
 rw [Lm]
 unfold nextS
 rw [List.mem_append,List.mem_singleton] at hx
 rcases hx with w|w
 · have:=ih x w hm hd
   split <;> omega
 · subst w
   rw [if_pos ⟨hm,hd⟩];omega
theorem Aka (L : List Fct) (pl day : Int) : nextD L pl day ≤ 1048577:=by
 refine Caa (P:=fun L => nextD L pl day ≤ 1048577) (by simp [nextD]) (fun l y ih => ?_) L
 rw [Lm]
 unfold nextS
 split <;> omega
theorem mvK_of {d k p t : Int} (h : FctOk (mvK d k p t)) : MvOf p (mvK d k p t):=⟨rfl,rfl,h⟩
theorem move_new {L : List Fct} (h32 : In32 L) {d k p t on : Int} (h : FctOk (mvK d k p t)) (h1 : d ≤ on) (h2 : on < nextD L p d) : regF (L ++ [mvK d k p t]) p on = mvK d k p t:=by
 refine reg_new h32 (mvK_of h) rfl h1 fun x hx hm hd => ?_
 rcases Int.lt_or_le x.day d with w|w
 · exact w
 · have:=nextD_le L p d x hx hm w
   omega
theorem move_old {L : List Fct} (h32 : In32 L) {d k p t on q : Int} (h : p ≠ q ∨ on < d) : regF (L ++ [mvK d k p t]) q on = regF L q on:=by
 refine reg_old h32 rfl ?_
 rintro ⟨a,b⟩
 rcases h with w|w
 · exact w a.2.1
 · have : (mvK d k p t).day = d:=rfl
   omega
theorem mvK_to {d k p t : Int} (h : FctOk (mvK d k p t)) : t = -1 ∨ 0 ≤ t:=by
 have:=h.2.2.1
 unfold ContOk at this
 have hk : (mvK d k p t).kind = 6:=rfl
 rw [hk] at this
 simp only [show ¬ ((6 : Int) = 1) by decide,show ¬ ((6 : Int) = 2) by decide,show ¬ ((6 : Int) = 3) by decide,show ¬ ((6 : Int) = 4) by decide,show ¬ ((6 : Int) = 5) by decide,if_false,if_true] at this
 rcases this.2 with e|e
 · exact .inl e
 · exact .inr e.1
end Go.Hw
