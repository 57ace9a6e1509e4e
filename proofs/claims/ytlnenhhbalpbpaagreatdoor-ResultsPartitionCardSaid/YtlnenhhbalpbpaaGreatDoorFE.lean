import Derived.Test.YtlnenhhbalpbpaaGreatDoorFD
import Derived.Test.YtlnenhhbalpbpaaGreatDoorFC
import Derived.Test.YtlnenhhbalpbpaaGreatDoorFA
set_option linter.unusedVariables false
set_option linter.unusedSimpArgs false
namespace Go.Hw
open Go Go.Lib
theorem bel00 {m : Int} (h : 0 < m) : Bel 0 m:=⟨Int.le_refl _,h⟩
structure FRes where
  g : FGame
  hg : Int
  ag : Int
  hp : Int
  ap : Int
  hc : Int
  ac : Int
  day : Int
  forf : Bool
  both : Bool
deriving DecidableEq,Inhabited
def res0 : FRes:=⟨game0,0,0,0,0,0,0,0,false,false⟩
def cardP1 (n : Int) (c : FCard) : Int:=if c.red then n + 3 else n + 1
def cardP (l : List FCard) : Int:=l.foldl cardP1 0
theorem cardP_snoc (l : List FCard) (c : FCard) : cardP (l ++ [c]) = cardP1 (cardP l) c:=by unfold cardP;rw [List.foldl_append];rfl
theorem cardP_bd (l : List FCard) : 0 ≤ cardP l ∧ cardP l ≤ 3 * (l.length : Int):=by
  refine snocI (P:=fun l => 0 ≤ cardP l ∧ cardP l ≤ 3 * (l.length : Int)) ⟨by simp [cardP],by simp [cardP]⟩ (fun l x ih => ?_) l
  rw [cardP_snoc,List.length_append,List.length_singleton]
  unfold cardP1
  split <;> omega
def against (g : FGame) (day : Int) (home away : Bool) : FRes :=
  { res0 with g:=g,day:=day,forf:=true,both:=home && away,hg:=if (home && away) = true then 0 else if home = true then 0 else 3,ag:=if (home && away) = true then 0 else if home = true then 3 else 0 }
def ruledR (g : FGame) (r : FRul) (day : Int) : Option FRes :=
  if r.kind = 1 then some (against g day (decide (r.club = g.h)) (decide (r.club = g.a)))
  else if r.kind = 3 then some { res0 with g:=g,day:=day,hg:=r.hg,ag:=r.ag }
  else none
def ofSheet (g : FGame) (x : FScore) : FRes:={ res0 with g:=g,day:=x.day,hg:=x.sh.hg,ag:=x.sh.ag,hp:=x.sh.hp,ap:=x.sh.ap,hc:=cardP x.sh.hc,ac:=cardP x.sh.ac }
def playedR (g : FGame) (x : FScore) (o : List Int × List Int) : FRes :=
  if o.1 = [] ∧ o.2 = [] then ofSheet g x else against g x.day (decide (o.1 ≠ [])) (decide (o.2 ≠ []))
noncomputable def playedF (L : List Fct) (g : FGame) : Option FRes:=if (scoreF L g).kind = 2 then some (playedR g (scoreF L g) (offL L g)) else none
noncomputable def ofF (L : List Fct) (g : FGame) : Option FRes :=
  if GameOk g then (if (ofGame (canonL L) g).2.2 = true then ruledR g (ofGame (canonL L) g).1 (ofGame (canonL L) g).2.1 else playedF L g) else none
def ResOk (r : FRes) : Prop :=
  GameOk r.g ∧ Bel r.hg 100 ∧ Bel r.ag 100 ∧ Bel r.hp 100 ∧ Bel r.ap 100 ∧ Bel r.hc 121 ∧ Bel r.ac 121 ∧ Bel r.day 1048577 ∧
  (r.g.c < 8 → r.hp + r.ap = 0) ∧
  (if r.forf = true then (if r.both = true then r.hg = 0 ∧ r.ag = 0 else (r.hg = 0 ∧ r.ag = 3) ∨ (r.hg = 3 ∧ r.ag = 0)) ∧ r.hp + r.ap + r.hc + r.ac = 0 else r.both = false)
instance (r : FRes) : Decidable (ResOk r):=by unfold ResOk;infer_instance
theorem against_ok {g : FGame} {d : Int} {h a : Bool} (hg : GameOk g) (hd : Bel d 1048577) (ho : (h || a) = true) : ResOk (against g d h a):=by
  unfold ResOk against
  refine ⟨hg,?_,?_,bel00 (by decide),bel00 (by decide),bel00 (by decide),bel00 (by decide),hd,fun _ => rfl,?_⟩
  · unfold Bel;cases h <;> cases a <;> simp
  · unfold Bel;cases h <;> cases a <;> simp
  · cases h <;> cases a <;> simp [res0] at ho ⊢
theorem ruledR_ok {g : FGame} {r : FRul} {d : Int} {x : FRes} (hr : RulGood r) (hg : r.g = g) (hd : Bel d 1048577) (h : ruledR g r d = some x) : ResOk x ∧ x.g = g:=by
  unfold ruledR at h
  unfold RulGood at hr
  split at h
  · rename_i hk
    rw [if_pos hk,hg] at hr
    cases h
    refine ⟨against_ok hr.1 hd ?_,rfl⟩
    rcases hr.2 with e|e
    · simp [e]
    · simp [e]
  · split at h
    · rename_i h1 hk
      rw [if_neg h1,if_neg (by omega),if_pos hk,hg] at hr
      cases h
      exact ⟨⟨hr.1,hr.2.1,hr.2.2,bel00 (by decide),bel00 (by decide),bel00 (by decide),bel00 (by decide),hd,fun _ => rfl,rfl⟩,rfl⟩
    · cases h
theorem score_bd {L : List Fct} (h32 : In32 L) {g : FGame} (h : (scoreF L g).kind = 2) : SheetOk (scoreF L g).sh ∧ (scoreF L g).sh.g = g ∧ Bel (scoreF L g).day 1048577:=by
  obtain ⟨f,m,ok,k,e,eg,d⟩:=score_agreed h32 h
  have hs : SheetOk (scoreF L g).sh:=by
    have:=ok.2.2.1
    unfold ContOk at this
    rw [if_neg (by omega),if_neg (by omega),if_pos k,e] at this
    exact this
  refine ⟨hs,by rw [← e];exact eg,d,?_⟩
  unfold scoreF at h ⊢
  cases h0 : bestF L g 0 with
  | none =>
    rw [h0] at h
    cases h1 : bestF L g 1 with
    | none => rw [h1] at h;exact absurd h (by decide)
    | some b => rw [h1] at h;exact absurd (show (1 : Int) = 2 from h) (by decide)
  | some a =>
    rw [h0] at h
    cases h1 : bestF L g 1 with
    | none => rw [h1] at h;exact absurd (show (1 : Int) = 2 from h) (by decide)
    | some b =>
      rw [h1] at h
      unfold scoreO at h ⊢
      have qa:=(bestF_some h32 h0).2.2.1.1
      have qb:=(bestF_some h32 h1).2.2.1.1
      unfold Bel at qa qb
      by_cases hs : SameSh a.sh b.sh
      · simp only [hs,if_true]
        show max a.day b.day < 1048577
        omega
      · simp only [hs,if_false] at h
        exact absurd h (by decide)
theorem played_ok {L : List Fct} (h32 : In32 L) {g : FGame} {x : FRes} (h : playedF L g = some x) : ResOk x ∧ x.g = g:=by
  unfold playedF at h
  split at h
  · rename_i hk
    cases h
    obtain ⟨ok,eg,hd⟩:=score_bd h32 hk
    generalize scoreF L g = s at *
    generalize offL L g = o at *
    have hg : GameOk g:=eg ▸ ok.1
    unfold playedR
    split
    · have b1:=cardP_bd s.sh.hc
      have b2:=cardP_bd s.sh.ac
      obtain ⟨o1,_,o2,o3,o4,_,_,o5,o6,_⟩:=ok
      have l1:=o5.1
      have l2:=o6.1
      have hp : Bel s.sh.hp 100 ∧ Bel s.sh.ap 100 ∧ (g.c < 8 → s.sh.hp + s.sh.ap = 0):=by
        rw [eg] at o4
        unfold Bel at o4 ⊢
        rcases o4 with w|w <;> refine ⟨by omega,by omega,fun _ => by omega⟩
      unfold Bel at *
      exact ⟨⟨hg,o2,o3,hp.1,hp.2.1,⟨b1.1,by show cardP s.sh.hc < 121;omega⟩,⟨b2.1,by show cardP s.sh.ac < 121;omega⟩,hd,hp.2.2,rfl⟩,rfl⟩
    · rename_i hne
      refine ⟨against_ok hg hd ?_,rfl⟩
      by_cases h1 : o.1 = []
      · have h2 : o.2 ≠ []:=fun e => hne ⟨h1,e⟩
        simp [h2]
      · simp [h1]
  · cases h
theorem aboutL_mem {C : List Fct} {g : FGame} {f : Fct} : f ∈ aboutL C g ↔ f ∈ forceL C ∧ AboutG g f.ru:=by
  unfold aboutL;rw [List.mem_filter,decide_eq_true_eq]
theorem ofGame_some {C : List Fct} (hok : ∀ f ∈ C,FctOk f) {g : FGame} (h : (ofGame C g).2.2 = true) : ∃ f ∈ C,FctOk f ∧ f.kind = 4 ∧ RulOk f.ru ∧ AboutG g f.ru ∧ maxF (aboutL C g) = some f ∧ ofGame C g = (f.ru,f.day,true):=by
  unfold ofGame at h ⊢
  cases hm : maxF (aboutL C g) with
  | none => rw [hm] at h;cases h
  | some f =>
    obtain ⟨h1,h2⟩:=aboutL_mem.1 (maxF_mem hm)
    obtain ⟨q1,q2,q3,q4⟩:=force_ok hok h1
    exact ⟨f,q1,q2,q3,q4,h2,rfl,rfl⟩
theorem canonL_okF {L : List Fct} (h32 : In32 L) : ∀ f ∈ canonL L,FctOk f:=fun f hf => (canonL_in h32 f hf).1
theorem ofF_ok {L : List Fct} (h32 : In32 L) {g : FGame} {x : FRes} (h : ofF L g = some x) : ResOk x ∧ x.g = g:=by
  unfold ofF at h
  split at h
  · split at h
    · rename_i hr
      obtain ⟨f,_,q2,q3,q4,q5,_,e⟩:=ofGame_some (canonL_okF h32) hr
      rw [e] at h
      exact ruledR_ok q4.2.2.2.2.1 q5.1 q2.1 h
    · exact played_ok h32 h
  · cases h
def MentG (f : Fct) : FGame:=if f.kind = 4 then f.ru.g else f.sh.g
theorem ofF_ment {L : List Fct} (h32 : In32 L) {g : FGame} {x : FRes} (h : ofF L g = some x) : GameOk g ∧ ∃ f ∈ L,FctOk f ∧ MentG f = g:=by
  unfold ofF at h
  split at h
  · rename_i hg
    refine ⟨hg,?_⟩
    split at h
    · rename_i hr
      obtain ⟨f,q1,q2,q3,q4,q5,_,e⟩:=ofGame_some (canonL_okF h32) hr
      refine ⟨f,(((canonL_spec L h32).2 f).1 q1).1,q2,?_⟩
      unfold MentG
      rw [if_pos q3,q5.1]
    · unfold playedF at h
      split at h
      · rename_i hk
        obtain ⟨f,m,ok,k,e,eg,d⟩:=score_agreed h32 hk
        refine ⟨f,m,ok,?_⟩
        unfold MentG
        rw [if_neg (by omega),eg]
      · cases h
  · cases h
def LtR (a b : FRes) : Prop:=a.day < b.day ∨ (a.day = b.day ∧ (a.g.h < b.g.h ∨ (a.g.h = b.g.h ∧ a.g.a < b.g.a)))
instance (a b : FRes) : Decidable (LtR a b):=by unfold LtR;infer_instance
theorem LtR.irrefl (a : FRes) : ¬ LtR a a:=by unfold LtR;omega
theorem LtR.trans (a b c : FRes) (h : LtR a b) (k : LtR b c) : LtR a c:=by unfold LtR at *;omega
def InAll (L : List Fct) (s c : Int) (r : FRes) : Prop:=r.g.s = s ∧ r.g.c = c ∧ ofF L r.g = some r
def IsAll (L : List Fct) (s c : Int) (rs : List FRes) : Prop:=rs.Pairwise LtR ∧ ∀ r,r ∈ rs ↔ InAll L s c r
theorem IsAll.uniq {L : List Fct} {s c : Int} {a b : List FRes} (h : IsAll L s c a) (k : IsAll L s c b) : a = b :=
  pw_ext LtR.irrefl LtR.trans h.1 k.1 fun x => (h.2 x).trans (k.2 x).symm
noncomputable def allC (L : List Fct) (s c : Int) : List FRes:=chooseL (IsAll L s c)
theorem allC_of {L : List Fct} {s c : Int} {rs : List FRes} (h : IsAll L s c rs) : rs = allC L s c:=h.uniq (chooseL_spec h)
theorem IsAll.here {L : List Fct} {s c : Int} {rs : List FRes} (h : IsAll L s c rs) : IsAll L s c (allC L s c):=allC_of h ▸ h
theorem LtR.tri {L : List Fct} {s c : Int} {x y : FRes} (hx : InAll L s c x) (hy : InAll L s c y) : LtR x y ∨ x = y ∨ LtR y x:=by
  by_cases h1 : LtR x y
  · exact .inl h1
  by_cases h2 : LtR y x
  · exact .inr (.inr h2)
  refine .inr (.inl ?_)
  have e : x.g = y.g:=by
    unfold LtR at h1 h2
    exact FGame.ext4 (by rw [hx.1,hy.1]) (by rw [hx.2.1,hy.2.1]) (by omega) (by omega)
  have:=hx.2.2.symm.trans ((congrArg (ofF L) e).trans hy.2.2)
  exact Option.some.inj this
def mentS (s c : Int) (o : List FGame) (f : Fct) : List FGame:=if (MentG f).s = s ∧ (MentG f).c = c ∧ MentG f ∉ o then o ++ [MentG f] else o
def mentL (L : List Fct) (s c : Int) : List FGame:=L.foldl (mentS s c) []
theorem mentL_snoc (L : List Fct) (f : Fct) (s c : Int) : mentL (L ++ [f]) s c = mentS s c (mentL L s c) f:=by unfold mentL;rw [List.foldl_append];rfl
theorem mentL_spec (L : List Fct) (s c : Int) : (mentL L s c).Nodup ∧ ∀ g,g ∈ mentL L s c ↔ g.s = s ∧ g.c = c ∧ ∃ f ∈ L,MentG f = g:=by
  refine snocI (P:=fun L => (mentL L s c).Nodup ∧ ∀ g,g ∈ mentL L s c ↔ g.s = s ∧ g.c = c ∧ ∃ f ∈ L,MentG f = g) ⟨by simp [mentL],by simp [mentL]⟩ (fun L f ih => ?_) L
  obtain ⟨h1,h2⟩:=ih
  rw [mentL_snoc]
  generalize mentL L s c = o at *
  unfold mentS
  split
  · rename_i hc
    refine ⟨List.nodup_append.2 ⟨h1,by simp,fun a ha b hb e => ?_⟩,fun g => ?_⟩
    · rw [List.mem_singleton] at hb;subst hb;subst e;exact hc.2.2 ha
    · rw [List.mem_append,List.mem_singleton,h2]
      constructor
      · rintro (⟨a,b,f',hf,e⟩|rfl)
        · exact ⟨a,b,f',by simp [hf],e⟩
        · exact ⟨hc.1,hc.2.1,f,by simp,rfl⟩
      · rintro ⟨a,b,f',hf,e⟩
        rw [List.mem_append,List.mem_singleton] at hf
        rcases hf with hf|rfl
        · exact .inl ⟨a,b,f',hf,e⟩
        · exact .inr e.symm
  · rename_i hc
    refine ⟨h1,fun g => ?_⟩
    rw [h2]
    constructor
    · rintro ⟨a,b,f',hf,e⟩;exact ⟨a,b,f',by simp [hf],e⟩
    · rintro ⟨a,b,f',hf,e⟩
      rw [List.mem_append,List.mem_singleton] at hf
      rcases hf with hf|rfl
      · exact ⟨a,b,f',hf,e⟩
      · have : MentG f' ∈ o:=Classical.byContradiction fun w => hc ⟨by rw [e];exact a,by rw [e];exact b,w⟩
        rw [e] at this
        exact (h2 g).1 this
theorem mentL_len (L : List Fct) (s c : Int) : (mentL L s c).length ≤ L.length:=by
  refine snocI (P:=fun L => (mentL L s c).length ≤ L.length) (by simp [mentL]) (fun L f ih => ?_) L
  rw [mentL_snoc,List.length_append,List.length_singleton]
  unfold mentS
  split
  · rw [List.length_append,List.length_singleton];omega
  · omega
noncomputable def resL (L : List Fct) (gs : List FGame) : List FRes:=gs.filterMap (ofF L)
theorem resL_snoc (L : List Fct) (gs : List FGame) (g : FGame) : resL L (gs ++ [g]) = match ofF L g with|none => resL L gs|some r => resL L gs ++ [r]:=by
  unfold resL
  rw [List.filterMap_append]
  cases h : ofF L g with
  | none => simp [h]
  | some r => simp [h]
theorem resL_len (L : List Fct) (gs : List FGame) : (resL L gs).length ≤ gs.length:=List.length_filterMap_le _ _
theorem resL_mem {L : List Fct} (h32 : In32 L) {s c : Int} {gs : List FGame} (hs : ∀ g ∈ gs,g.s = s ∧ g.c = c) (hm : ∀ f ∈ L,FctOk f → GameOk (MentG f) → (MentG f).s = s → (MentG f).c = c → MentG f ∈ gs) (r : FRes) : r ∈ resL L gs ↔ InAll L s c r:=by
  unfold resL
  rw [List.mem_filterMap]
  constructor
  · rintro ⟨g,hg,e⟩
    have h1:=(ofF_ok h32 e).2
    have h2:=hs g hg
    subst h1
    exact ⟨h2.1,h2.2,e⟩
  · rintro ⟨h1,h2,e⟩
    obtain ⟨hg,f,hf,ok,ef⟩:=ofF_ment h32 e
    exact ⟨r.g,by rw [← ef];exact hm f hf ok (by rw [ef];exact hg) (by rw [ef];exact h1) (by rw [ef];exact h2),e⟩
theorem resL_nodup {L : List Fct} (h32 : In32 L) {gs : List FGame} (hn : gs.Nodup) : (resL L gs).Nodup:=by
  unfold resL
  refine List.pairwise_filterMap.2 (hn.imp fun {a b} hab x hx y hy e => hab ?_)
  subst e
  rw [← (ofF_ok h32 hx).2,← (ofF_ok h32 hy).2]
theorem sorted_all {L : List Fct} {s c : Int} {xs ys : List FRes} (hx : ∀ x,x ∈ xs ↔ InAll L s c x) (hn : xs.Nodup) (hp : ys.Perm xs) (hs : ys.Pairwise fun x y => ¬ LtR y x) : IsAll L s c ys:=by
  have hm : ∀ x,x ∈ ys ↔ InAll L s c x:=fun x => hp.mem_iff.trans (hx x)
  refine ⟨?_,hm⟩
  have h2 : ys.Nodup:=hp.nodup_iff.2 hn
  refine (List.pairwise_and_iff.2 ⟨hs,h2⟩).imp_of_mem fun {a b} ha hb ⟨q1,q2⟩ => ?_
  rcases LtR.tri ((hm a).1 ha) ((hm b).1 hb) with h|h|h
  · exact h
  · exact absurd h q2
  · exact absurd h q1
theorem allC_is {L : List Fct} (h32 : In32 L) (s c : Int) : IsAll L s c (allC L s c):=by
  have hm:=mentL_spec L s c
  have h1:=resL_mem h32 (s:=s) (c:=c) (gs:=mentL L s c) (fun g hg => ⟨((hm.2 g).1 hg).1,((hm.2 g).1 hg).2.1⟩) (fun f hf _ _ a b => (hm.2 _).2 ⟨a,b,f,hf,rfl⟩)
  have hn:=resL_nodup h32 hm.1
  refine (sorted_all h1 hn (List.mergeSort_perm _ (fun a b => decide (¬ LtR b a))) ?_).here
  refine (List.pairwise_mergeSort (le:=fun a b => decide (¬ LtR b a)) (fun a b c h1 h2 => ?_) (fun a b => ?_) _).imp fun {a b} q => by simpa using q
  · simp only [decide_eq_true_eq] at *
    unfold LtR at *;omega
  · simp only [Bool.or_eq_true,decide_eq_true_eq]
    unfold LtR;omega
theorem allC_len {L : List Fct} (h32 : In32 L) (s c : Int) : (allC L s c).length ≤ L.length:=by
  have hm:=mentL_spec L s c
  have h1:=resL_mem h32 (s:=s) (c:=c) (gs:=mentL L s c) (fun g hg => ⟨((hm.2 g).1 hg).1,((hm.2 g).1 hg).2.1⟩) (fun f hf _ _ a b => (hm.2 _).2 ⟨a,b,f,hf,rfl⟩)
  have ha:=allC_is h32 s c
  have:=nodup_len (a:=allC L s c) (b:=resL L (mentL L s c)) (ha.1.imp fun {a b} hab e => by subst e;exact LtR.irrefl _ hab) fun x hx => (h1 x).2 ((ha.2 x).1 hx)
  have:=resL_len L (mentL L s c)
  have:=mentL_len L s c
  omega
def EntOf (s c : Int) (f : Fct) : Prop:=f.kind = 1 ∧ f.eS = s ∧ f.eC = c ∧ FctOk f
open Classical in
noncomputable def entL (L : List Fct) (s c : Int) : List Fct:=L.filter fun f => decide (EntOf s c f)
noncomputable def entF (L : List Fct) (s c : Int) : Option Fct:=(entL L s c).foldl takeF none
open Classical in
theorem entL_mem {L : List Fct} {s c : Int} {f : Fct} : f ∈ entL L s c ↔ f ∈ L ∧ EntOf s c f:=by
  unfold entL;rw [List.mem_filter,decide_eq_true_eq]
theorem entF_great {L : List Fct} (h32 : In32 L) (s c : Int) : GreatF (entL L s c) (entF L s c) :=
  foldl_great_go (entL L s c) [] none (fun f hf => absurd hf (by simp)) (fun f hf => ⟨(entL_mem.1 hf).2.2.2.2,h32 f (entL_mem.1 hf).1⟩) (.inl ⟨rfl,rfl⟩)
theorem entF_some {L : List Fct} (h32 : In32 L) {s c : Int} {f : Fct} (h : entF L s c = some f) : f ∈ L ∧ EntOf s c f:=by
  rcases entF_great h32 s c with ⟨h1,_⟩|⟨m,h1,h2,_⟩
  · rw [h1] at h;cases h
  · rw [h1] at h;cases h;exact entL_mem.1 h2
def isOpen (L : List Fct) (s c h a : Int) : Prop:=h ≠ a ∧ ofF L ⟨s,c,h,a⟩ = none
open Classical in
noncomputable def openH (L : List Fct) (s c h : Int) (aa : List Int) : List FGame:=aa.flatMap fun a => if isOpen L s c h a then [⟨s,c,h,a⟩] else []
noncomputable def openK (L : List Fct) (s c : Int) (hs aa : List Int) : List FGame:=hs.flatMap fun h => openH L s c h aa
noncomputable def openL (L : List Fct) (s c : Int) : List FGame :=
  if 0 ≤ s ∧ s < 64 ∧ 0 ≤ c ∧ c < 8 then (match entF L s c with|none => []|some f => openK L s c f.eClubs f.eClubs) else []
noncomputable def openE (L : List Fct) (s c : Int) : Int :=
  if 0 ≤ s ∧ s < 64 ∧ 0 ≤ c ∧ c < 8 then (match entF L s c with|none => 190|some f => 0) else 1
open Classical in
theorem openH_snoc (L : List Fct) (s c h : Int) (aa : List Int) (a : Int) : openH L s c h (aa ++ [a]) = if isOpen L s c h a then openH L s c h aa ++ [⟨s,c,h,a⟩] else openH L s c h aa:=by
  unfold openH
  rw [List.flatMap_append]
  by_cases q : isOpen L s c h a <;> simp [q]
theorem openK_snoc (L : List Fct) (s c : Int) (hs aa : List Int) (h : Int) : openK L s c (hs ++ [h]) aa = openK L s c hs aa ++ openH L s c h aa:=by
  unfold openK
  rw [List.flatMap_append];simp
open Classical in
theorem openH_len (L : List Fct) (s c h : Int) (aa : List Int) : (openH L s c h aa).length ≤ aa.length:=by
  unfold openH
  exact flatMap_len1 _ (fun a => by split <;> simp) aa
theorem openK_len (L : List Fct) (s c : Int) (aa : List Int) : ∀ hs : List Int,(openK L s c hs aa).length ≤ hs.length * aa.length
  | [] => by simp [openK]
  | h :: r => by
    have h1:=openK_len L s c aa r
    have h2:=openH_len L s c h aa
    unfold openK at *
    rw [List.flatMap_cons,List.length_append,List.length_cons,Nat.succ_mul]
    omega
end Go.Hw
set_option linter.unusedVariables false
set_option linter.unusedSimpArgs false
namespace Go.Hw
open Go Go.Lib
structure FTie where
  legs : Int
  away : Bool
deriving DecidableEq,Inhabited
structure FDuel where
  a : Int
  b : Int
  ls : List FRes
deriving DecidableEq,Inhabited
structure FBr where
  t : FTie
  rs : List (List FDuel)
deriving DecidableEq,Inhabited
def tie0 : FTie:=⟨0,false⟩
def br0 : FBr:=⟨tie0,[]⟩
def IsTie (t : FTie) : Prop:=t.legs = 1 ∨ t.legs = 2
instance (t : FTie) : Decidable (IsTie t):=by unfold IsTie;infer_instance
def legA (d : FDuel) (i : Nat) : Int:=if i = 0 then d.a else d.b
def legB (d : FDuel) (i : Nat) : Int:=if i = 0 then d.b else d.a
def SameCup (x y : FRes) : Prop:=x.g.s = y.g.s ∧ x.g.c = y.g.c
instance (x y : FRes) : Decidable (SameCup x y):=by unfold SameCup;infer_instance
def FullD (d : FDuel) (t : FTie) : Prop:=t.legs ≤ d.ls.length
instance (d : FDuel) (t : FTie) : Decidable (FullD d t):=by unfold FullD;infer_instance
structure FLead where
  goals : Int
  away : Int
  pens : Int
deriving DecidableEq
def leadS (l : FLead) (i : Nat) (x : FRes) : FLead:=if i = 0 then ⟨l.goals + (x.hg - x.ag),l.away - x.ag,x.hp - x.ap⟩ else ⟨l.goals + (x.ag - x.hg),l.away + x.ag,x.ap - x.hp⟩
def leadL : Nat → FLead → List FRes → FLead
  | _,l,[] => l
  | i,l,x :: r => leadL (i + 1) (leadS l i x) r
def leadD (d : FDuel) : FLead:=leadL 0 ⟨0,0,0⟩ d.ls
def leadN (d : FDuel) (t : FTie) : Int :=
  if (leadD d).goals ≠ 0 then (leadD d).goals
  else if t.legs = 2 ∧ t.away = true ∧ (leadD d).away ≠ 0 then (leadD d).away
  else (leadD d).pens
def winD (d : FDuel) (t : FTie) : Option Int:=if FullD d t then (if 0 < leadN d t then some d.a else if leadN d t < 0 then some d.b else none) else none
def DuelOk0 (d : FDuel) (t : FTie) : Prop:=IsTie t ∧ Bel d.a 192 ∧ Bel d.b 192 ∧ d.a ≠ d.b ∧ (d.ls.length : Int) ≤ t.legs
instance (d : FDuel) (t : FTie) : Decidable (DuelOk0 d t):=by unfold DuelOk0;infer_instance
def LegOk (d : FDuel) (i : Nat) (x : FRes) : Prop:=x.g.h = legA d i ∧ x.g.a = legB d i ∧ 8 ≤ x.g.c ∧ SameCup x (d.ls.headD res0)
instance (d : FDuel) (i : Nat) (x : FRes) : Decidable (LegOk d i x):=by unfold LegOk;infer_instance
def LegsOk (d : FDuel) : Prop:=∀ i,i < d.ls.length → LegOk d i (d.ls.getD i res0)
structure DuelOk (d : FDuel) (t : FTie) : Prop where
  ok0 : DuelOk0 d t
  res : ∀ x ∈ d.ls,ResOk x
  legs : LegsOk d
def pairD : List Int → List FDuel
  | a :: b :: r => ⟨a,b,[]⟩ :: pairD r
  | _ => []
def IsPow (n : Nat) : Prop:=n = 2 ∨ n = 4 ∨ n = 8 ∨ n = 16 ∨ n = 32 ∨ n = 64 ∨ n = 128
instance (n : Nat) : Decidable (IsPow n):=by unfold IsPow;infer_instance
def ClubsOk (cs : List Int) : Prop:=(∀ c ∈ cs,Bel c 192) ∧ cs.Nodup
instance (cs : List Int) : Decidable (ClubsOk cs):=by unfold ClubsOk;infer_instance
def winsR (l : List FDuel) (t : FTie) : Option (List Int):=match l with
  | [] => some []
  | d :: r => match winD d t,winsR r t with
    | some c,some cs => some (c :: cs)
    | _,_ => none
def nextR (l : List FDuel) (t : FTie) : Option (List FDuel):=match winsR l t with
  | some cs => if 2 ≤ cs.length then some (pairD cs) else none
  | none => none
def sameR (x y : List FDuel) : Prop:=x.map (fun d => (d.a,d.b)) = y.map fun d => (d.a,d.b)
instance (x y : List FDuel) : Decidable (sameR x y):=by unfold sameR;infer_instance
def RoundOk (l : List FDuel) (t : FTie) : Prop:=∀ d ∈ l,DuelOk d t ∧ (FullD d t → (d.ls.length : Int) = t.legs → winD d t ≠ none)
def ChainOk (t : FTie) : List (List FDuel) → Prop
  | [] => True
  | [l] => nextR l t = none
  | l :: m :: r => (∃ n,nextR l t = some n ∧ sameR n m) ∧ ChainOk t (m :: r)
def allLegs (b : FBr) : List FRes:=b.rs.flatMap fun l => l.flatMap fun d => d.ls
structure BrOk (b : FBr) : Prop where
  tie : IsTie b.t
  some : b.rs ≠ []
  clubs : ∃ l r,b.rs = l :: r ∧ IsPow (2 * l.length) ∧ ClubsOk (l.flatMap fun d => [d.a,d.b])
  rounds : ∀ l ∈ b.rs,RoundOk l b.t
  chain : ChainOk b.t b.rs
  cup : ∀ x ∈ allLegs b,∀ y ∈ allLegs b,SameCup x y
def WaitD (d : FDuel) (t : FTie) (x : FRes) : Prop:=¬ FullD d t ∧ x.g.h = legA d d.ls.length ∧ x.g.a = legB d d.ls.length
instance (d : FDuel) (t : FTie) (x : FRes) : Decidable (WaitD d t x):=by unfold WaitD;infer_instance
theorem win_club {d : FDuel} {t : FTie} {c : Int} (h : winD d t = some c) : c = d.a ∨ c = d.b:=by
  unfold winD at h
  split at h
  · split at h
    · cases h;exact .inl rfl
    · split at h
      · cases h;exact .inr rfl
      · cases h
  · cases h
end Go.Hw
set_option linter.unusedVariables false
set_option linter.unusedSimpArgs false
namespace Go.Hw
open Go Go.Lib
theorem nodup_perm {α : Type} : ∀ {a b : List α},a.Nodup → b.Nodup → (∀ x,x ∈ a ↔ x ∈ b) → a.Perm b
  | [],b,_,_,h => by
    cases b with
    | nil => exact .nil
    | cons y r => exact absurd ((h y).2 List.mem_cons_self) (by simp)
  | x :: a,b,ha,hb,h => by
    obtain ⟨p,q,rfl⟩:=List.append_of_mem ((h x).1 List.mem_cons_self)
    rw [List.nodup_cons] at ha
    have hb2 : (x :: (p ++ q)).Nodup:=(List.perm_middle (a:=x) (l₁:=p) (l₂:=q)).nodup_iff.1 hb
    rw [List.nodup_cons] at hb2
    refine (List.Perm.cons x (nodup_perm ha.2 hb2.2 fun y => ?_)).trans List.perm_middle.symm
    have:=h y
    rw [List.mem_cons,List.mem_append,List.mem_cons] at this
    rw [List.mem_append]
    constructor
    · intro hy
      rcases this.1 (.inr hy) with w|w|w
      · exact .inl w
      · subst w;exact absurd hy ha.1
      · exact .inr w
    · intro hy
      have hy2 : y ∈ p ∨ y = x ∨ y ∈ q:=hy.elim .inl fun w => .inr (.inr w)
      rcases this.2 hy2 with w|w
      · subst w;exact absurd (List.mem_append.2 hy) hb2.1
      · exact w
theorem IsDec.perm {L : List Fct} {s c : Int} {ds xs : List FScore} (h : IsDec L s c ds) (hn : xs.Nodup) (hx : ∀ x,x ∈ xs ↔ ∃ g : FGame,g.s = s ∧ g.c = c ∧ scoreF L g = x ∧ x.kind = 2) : xs.Perm ds :=
  nodup_perm hn (h.1.imp fun {a b} hab e => by subst e;exact LtS.irrefl _ hab) fun x => (hx x).trans (h.2 x).symm
theorem offL_len {L : List Fct} (h32 : In32 L) (g : FGame) : (offL L g).1.length ≤ 40 ∧ (offL L g).2.length ≤ 40:=by
  unfold offL
  split
  · rename_i hk
    obtain ⟨f,m,ok,k,e,eg,d⟩:=score_agreed h32 hk
    have:=ok.2.2.1
    unfold ContOk at this
    rw [if_neg (by omega),if_neg (by omega),if_pos k,e] at this
    have h1:=this.2.2.2.2.2.1.1
    have h2:=this.2.2.2.2.2.2.1.1
    exact ⟨Nat.le_trans (offS_len _ _ _ _ _ _) h1,Nat.le_trans (offS_len _ _ _ _ _ _) h2⟩
  · exact ⟨Nat.zero_le _,Nat.zero_le _⟩
end Go.Hw
set_option linter.unusedVariables false
set_option linter.unusedSimpArgs false
namespace Go.Hw
open Go Go.Lib
def clubsR (l : List FDuel) : List Int:=l.flatMap fun d => [d.a,d.b]
theorem clubsR_cons (d : FDuel) (l : List FDuel) : clubsR (d :: l) = d.a :: d.b :: clubsR l:=rfl
theorem clubsR_len (l : List FDuel) : (clubsR l).length = 2 * l.length:=by
  induction l with
  | nil => rfl
  | cons d r ih => rw [clubsR_cons,List.length_cons,List.length_cons,ih,List.length_cons];omega
theorem clubsR_same {x y : List FDuel} (h : sameR x y) : clubsR x = clubsR y:=by
  unfold sameR at h
  induction x generalizing y with
  | nil => cases y with
    | nil => rfl
    | cons d r => cases h
  | cons e q ih => cases y with
    | nil => cases h
    | cons d r =>
      rw [List.map_cons,List.map_cons,List.cons.injEq,Prod.mk.injEq] at h
      rw [clubsR_cons,clubsR_cons,h.1.1,h.1.2,ih h.2]
theorem sameR_len {x y : List FDuel} (h : sameR x y) : x.length = y.length:=by
  have:=congrArg List.length h
  simpa using this
theorem pairD_len : ∀ (cs : List Int),(pairD cs).length = cs.length / 2
  | [] => rfl
  | [_] => by simp [pairD]
  | a :: b :: r => by
    unfold pairD
    rw [List.length_cons,pairD_len r,List.length_cons,List.length_cons];omega
theorem pairD_clubs : ∀ (cs : List Int),cs.length % 2 = 0 → clubsR (pairD cs) = cs
  | [],_ => rfl
  | [_],h => absurd h (by simp)
  | a :: b :: r,h => by
    unfold pairD
    rw [clubsR_cons,pairD_clubs r (by simp only [List.length_cons] at h;omega)]
theorem winsR_len {t : FTie} : ∀ {l : List FDuel} {cs : List Int},winsR l t = some cs → cs.length = l.length
  | [],cs,h => by cases h;rfl
  | d :: r,cs,h => by
    unfold winsR at h
    cases hd : winD d t with
    | none => rw [hd] at h;cases h
    | some c =>
      cases hr : winsR r t with
      | none => rw [hd,hr] at h;cases h
      | some q =>
        rw [hd,hr] at h
        cases h
        rw [List.length_cons,List.length_cons,winsR_len hr]
def loseD (d : FDuel) (t : FTie) : Int:=match winD d t with|some c => d.a + d.b - c|none => 0
theorem winsR_perm {t : FTie} : ∀ {l : List FDuel} {cs : List Int},winsR l t = some cs → (clubsR l).Perm (cs ++ l.map fun d => loseD d t)
  | [],cs,h => by cases h;exact .nil
  | d :: r,cs,h => by
    unfold winsR at h
    cases hd : winD d t with
    | none => rw [hd] at h;cases h
    | some c =>
      cases hr : winsR r t with
      | none => rw [hd,hr] at h;cases h
      | some q =>
        rw [hd,hr] at h
        cases h
        have ih:=winsR_perm hr
        rw [clubsR_cons,List.map_cons,List.cons_append]
        have hl : loseD d t = d.a + d.b - c:=by unfold loseD;rw [hd]
        rw [hl]
        have h2 : (d.a :: d.b :: clubsR r).Perm (c :: (d.a + d.b - c) :: clubsR r):=by
          rcases win_club hd with e|e
          · rw [e,show d.a + d.b - d.a = d.b by omega]
          · rw [e,show d.a + d.b - d.b = d.a by omega];exact List.Perm.swap _ _ _
        refine h2.trans (List.Perm.cons c ?_)
        exact (List.Perm.cons _ ih).trans List.perm_middle.symm
theorem winsR_mem {t : FTie} {l : List FDuel} {cs : List Int} (h : winsR l t = some cs) : ∀ c ∈ cs,c ∈ clubsR l:=fun c hc => (winsR_perm h).mem_iff.2 (List.mem_append_left _ hc)
theorem winsR_clubs {t : FTie} {l : List FDuel} {cs : List Int} (h : winsR l t = some cs) (hc : ClubsOk (clubsR l)) : ClubsOk cs:=by
  refine ⟨fun c hm => hc.1 c (winsR_mem h c hm),?_⟩
  have:=(winsR_perm h).nodup_iff.1 hc.2
  rw [List.nodup_append] at this
  exact this.1
theorem nextR_some {t : FTie} {l n : List FDuel} (h : nextR l t = some n) : ∃ cs,winsR l t = some cs ∧ 2 ≤ cs.length ∧ n = pairD cs:=by
  unfold nextR at h
  cases hw : winsR l t with
  | none => rw [hw] at h;cases h
  | some cs =>
    rw [hw] at h
    dsimp only at h
    split at h
    · cases h;exact ⟨cs,rfl,by assumption,rfl⟩
    · cases h
def IsPow1 (n : Nat) : Prop:=n = 1 ∨ n = 2 ∨ n = 4 ∨ n = 8 ∨ n = 16 ∨ n = 32 ∨ n = 64
theorem pow_half {n : Nat} (h : IsPow (2 * n)) : IsPow1 n:=by unfold IsPow at h;unfold IsPow1;omega
structure RndOk (l : List FDuel) : Prop where
  clubs : ClubsOk (clubsR l)
  pow : IsPow1 l.length
theorem rnd_next {t : FTie} {l n m : List FDuel} (h : RndOk l) (hn : nextR l t = some n) (hs : sameR n m) : RndOk m ∧ 2 * m.length = l.length:=by
  obtain ⟨cs,hw,h2,rfl⟩:=nextR_some hn
  have hl:=winsR_len hw
  have hp:=h.pow
  have hm:=sameR_len hs
  rw [pairD_len] at hm
  unfold IsPow1 at hp
  have he : cs.length % 2 = 0:=by omega
  have hc : clubsR m = cs:=by rw [← clubsR_same hs,pairD_clubs cs he]
  refine ⟨⟨by rw [hc];exact winsR_clubs hw h.clubs,by unfold IsPow1;omega⟩,by omega⟩
theorem chain_rnd {t : FTie} : ∀ {rs : List (List FDuel)},ChainOk t rs → (∀ l r,rs = l :: r → RndOk l) → ∀ l ∈ rs,RndOk l
  | [],_,_,_,hl => by cases hl
  | [l],_,h0,m,hm => by rw [List.mem_singleton] at hm;rw [hm];exact h0 l [] rfl
  | l :: m :: r,hc,h0,x,hx => by
    unfold ChainOk at hc
    obtain ⟨⟨n,hn,hs⟩,hc2⟩:=hc
    rcases List.mem_cons.1 hx with e|e
    · rw [e];exact h0 l _ rfl
    · exact chain_rnd hc2 (fun a b e2 => by
        rw [List.cons.injEq] at e2
        rw [← e2.1]
        exact (rnd_next (h0 l _ rfl) hn hs).1) x e
theorem BrOk.rnd {b : FBr} (h : BrOk b) : ∀ l ∈ b.rs,RndOk l:=by
  obtain ⟨l,r,e,h1,h2⟩:=h.clubs
  refine chain_rnd h.chain fun l' r' e' => ?_
  rw [e,List.cons.injEq] at e'
  rw [← e'.1]
  exact ⟨h2,pow_half h1⟩
theorem chain_sum {t : FTie} : ∀ {rs : List (List FDuel)},ChainOk t rs → (∀ l ∈ rs,RndOk l) → (rs.flatMap id).length + 1 ≤ 2 * (rs.headD []).length ∨ rs = []
  | [],_,_ => .inr rfl
  | [l],_,h => .inl (by
    have:=(h l (by simp)).pow
    unfold IsPow1 at this
    simp;omega)
  | l :: m :: r,hc,h => .inl (by
    unfold ChainOk at hc
    obtain ⟨⟨n,hn,hs⟩,hc2⟩:=hc
    have ih:=chain_sum hc2 fun x hx => h x (List.mem_cons_of_mem _ hx)
    have h2:=(rnd_next (h l (by simp)) hn hs).2
    rcases ih with ih|ih
    · rw [List.flatMap_cons,List.length_append]
      simp only [List.headD_cons,id] at ih ⊢
      omega
    · cases ih)
theorem legs_le (b : FBr) (h : BrOk b) : ((allLegs b).length : Int) ≤ b.t.legs * ((b.rs.flatMap id).length : Int):=by
  have key : ∀ ds : List FDuel,(∀ d ∈ ds,(d.ls.length : Int) ≤ b.t.legs) → ((ds.flatMap fun d => d.ls).length : Int) ≤ b.t.legs * (ds.length : Int):=by
    intro ds
    induction ds with
    | nil => intro _;simp
    | cons d r ih =>
      intro hd
      have h1:=hd d (by simp)
      have h2:=ih fun x hx => hd x (by simp [hx])
      rw [List.flatMap_cons,List.length_append,List.length_cons]
      have : b.t.legs * ((r.length + 1 : Nat) : Int) = b.t.legs * (r.length : Int) + b.t.legs:=by rw [show ((r.length + 1 : Nat) : Int) = (r.length : Int) + 1 by omega,Int.mul_add,Int.mul_one]
      omega
  have e : allLegs b = (b.rs.flatMap id).flatMap fun d => d.ls:=by
    unfold allLegs
    rw [List.flatMap_assoc];rfl
  rw [e]
  refine key _ fun d hd => ?_
  obtain ⟨l,hl,hd2⟩:=List.mem_flatMap.1 hd
  exact ((h.rounds l hl d hd2).1.ok0).2.2.2.2
theorem legs_lt {b : FBr} (h : BrOk b) : (allLegs b).length + 2 ≤ 2 * (clubsR (b.rs.headD [])).length:=by
  have h1:=legs_le b h
  have h2:=chain_sum h.chain h.rnd
  have h3:=h.tie
  rw [clubsR_len]
  rcases h2 with h2|h2
  · rcases h3 with e|e
    · rw [e] at h1;omega
    · rw [e] at h1;omega
  · exact absurd h2 h.some
end Go.Hw
set_option linter.unusedVariables false
set_option linter.unusedSimpArgs false
namespace Go.Hw
open Go Go.Lib
end Go.Hw
set_option linter.unusedVariables false
set_option linter.unusedSimpArgs false
namespace Go.Hw
open Go Go.Lib
def Cup8 (b : FBr) : Prop:=∀ y ∈ allLegs b,y.g.s = 0 ∧ y.g.c = 8
structure Played (b y : FBr) (x : FRes) : Prop where
  ok : BrOk y
  t : y.t = b.t
  legs : (allLegs y).length = (allLegs b).length + 1
  first : clubsR (y.rs.headD []) = clubsR (b.rs.headD [])
  grow : b.rs.length ≤ y.rs.length ∧ y.rs.length ≤ b.rs.length + 1
  same : ∀ i,i + 1 < b.rs.length → y.rs.getD i [] = b.rs.getD i []
  mem : ∀ z ∈ allLegs y,z = x ∨ z ∈ allLegs b
end Go.Hw
set_option linter.unusedVariables false
set_option linter.unusedSimpArgs false
namespace Go.Hw
end Go.Hw
set_option linter.unusedVariables false
set_option linter.unusedSimpArgs false
namespace Go.Hw
end Go.Hw
set_option linter.unusedVariables false
set_option linter.unusedSimpArgs false
namespace Go.Hw
structure PlayI (cs : List Int) (t : FTie) (k : Nat) (b : FBr) : Prop where
  ok : BrOk b
  t : b.t = t
  cup : Cup8 b
  first : clubsR (b.rs.headD []) = cs
  legs : (allLegs b).length = k
theorem PlayI.le {cs : List Int} {t : FTie} {k : Nat} {b : FBr} (h : PlayI cs t k b) : k + 2 ≤ 2 * cs.length:=by
  have:=legs_lt h.ok
  rw [h.first,h.legs] at this
  exact this
end Go.Hw
set_option linter.unusedVariables false
set_option linter.unusedSimpArgs false
namespace Go.Hw
open Classical in
noncomputable def ordC (o : List Int) (cs : List Int) : List Int:=if o.Perm cs then o else cs
structure ViewI (cs : List Int) (t : FTie) (l : List FRes) (k : Nat) (b : FBr) : Prop where
  ok : BrOk b
  t : b.t = t
  first : clubsR (b.rs.headD []) = cs
  legs : (allLegs b).length = k
  mem : ∀ y ∈ allLegs b,y ∈ l
theorem ViewI.le {cs : List Int} {t : FTie} {l : List FRes} {k : Nat} {b : FBr} (h : ViewI cs t l k b) : k + 2 ≤ 2 * cs.length:=by
  have:=legs_lt h.ok
  rw [h.first,h.legs] at this
  exact this
end Go.Hw
set_option linter.unusedVariables false
set_option linter.unusedSimpArgs false
namespace Go.Hw
structure FSides where
  f : Int
  s : Int
  af : Int
  as' : Int
  pf : Int
  ps : Int
deriving DecidableEq
end Go.Hw
set_option linter.unusedVariables false
set_option linter.unusedSimpArgs false
namespace Go.Hw
def ResBd (r : FRes) : Prop:=GameOk r.g ∧ Bel r.hg 100 ∧ Bel r.ag 100 ∧ Bel r.hp 100 ∧ Bel r.ap 100 ∧ Bel r.hc 121 ∧ Bel r.ac 121 ∧ Bel r.day 1048577
instance (r : FRes) : Decidable (ResBd r):=by unfold ResBd;infer_instance
def ResBad1 (r : FRes) : Prop:=(r.g.c < 8 ∧ 0 < r.hp + r.ap) ∨ (r.forf = true ∧ 0 < r.hp + r.ap + r.hc + r.ac)
def ResThree (r : FRes) : Prop:=(r.hg = 3 ∧ r.ag = 0) ∨ (r.hg = 0 ∧ r.ag = 3)
def ResBad2 (r : FRes) : Prop:=(r.forf = true ∧ r.both = false ∧ ¬ ResThree r) ∨ (r.both = true ∧ (r.forf = false ∨ 0 < r.hg + r.ag))
theorem resOk_ref (r : FRes) : ResOk r ↔ ResBd r ∧ ¬ ResBad1 r ∧ ¬ ResBad2 r:=by
  unfold ResOk ResBd ResBad1 ResBad2 ResThree
  by_cases hb : GameOk r.g ∧ Bel r.hg 100 ∧ Bel r.ag 100 ∧ Bel r.hp 100 ∧ Bel r.ap 100 ∧ Bel r.hc 121 ∧ Bel r.ac 121 ∧ Bel r.day 1048577
  · obtain ⟨h1,h2,h3,h4,h5,h6,h7,h8⟩:=hb
    simp only [h1,h2,h3,h4,h5,h6,h7,h8,true_and]
    unfold Bel at h2 h3 h4 h5 h6 h7
    cases hf : r.forf <;> cases ho : r.both <;> simp <;> omega
  · constructor
    · rintro ⟨h1,h2,h3,h4,h5,h6,h7,h8,_⟩
      exact absurd ⟨h1,h2,h3,h4,h5,h6,h7,h8⟩ hb
    · exact fun h => absurd h.1 hb
end Go.Hw
set_option linter.unusedVariables false
set_option linter.unusedSimpArgs false
namespace Go.Hw
end Go.Hw
set_option linter.unusedVariables false
set_option linter.unusedSimpArgs false
namespace Go.Hw
end Go.Hw
set_option linter.unusedVariables false
set_option linter.unusedSimpArgs false
namespace Go.Hw
end Go.Hw
set_option linter.unusedVariables false
set_option linter.unusedSimpArgs false
namespace Go.Hw
end Go.Hw
