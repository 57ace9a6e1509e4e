import Derived.Test.YtphlhpbmkejbaaaGreatDoorFC
import Derived.Test.YtphlhpbmkejbaaaGreatDoorFA
set_option linter.unusedVariables false
set_option linter.unusedSimpArgs false
namespace Go.Hw
open Go Go.Lib
theorem snocI {α : Type} {P : List α → Prop} (h0 : P []) (h1 : ∀ l x,P l → P (l ++ [x])) (l : List α) : P l:=by
  rw [← List.reverse_reverse l]
  induction l.reverse with
  | nil => exact h0
  | cons x r ih => rw [List.reverse_cons];exact h1 _ _ ih
def lastZ : Fct:={ fct0 with day:=-1,mTo:=-1 }
def MvOf (pl : Int) (f : Fct) : Prop:=f.kind = 6 ∧ f.mP = pl ∧ FctOk f
open Classical in
noncomputable def movesC (pl : Int) (L : List Fct) : List Fct:=L.filter fun f => decide (MvOf pl f)
def takeC (day : Int) (z x : Fct) : Fct:=if x.day ≤ day ∧ (z.day < x.day ∨ (x.day = z.day ∧ 0 < cmpF x z)) then x else z
noncomputable def regF (L : List Fct) (pl day : Int) : Fct:=(movesC pl L).foldl (takeC day) lastZ
def LastM (day : Int) (S : Fct → Prop) (z : Fct) : Prop :=
  (z = lastZ ∧ ∀ x,S x → ¬ x.day ≤ day) ∨ (S z ∧ z.day ≤ day ∧ ∀ x,S x → x.day ≤ day → x = z ∨ x.day < z.day ∨ (x.day = z.day ∧ LtF x z))
theorem LastM.congr {day : Int} {S S' : Fct → Prop} {z : Fct} (hS : ∀ x,S x ↔ S' x) (h : LastM day S z) : LastM day S' z:=by
  have : S = S':=funext fun x => propext (hS x)
  rwa [this] at h
theorem day_nn {f : Fct} (h : FctOk f) : 0 ≤ f.day:=h.1.1
end Go.Hw
set_option linter.unusedVariables false
set_option linter.unusedSimpArgs false
namespace Go.Hw
open Go Go.Lib
theorem score_agreed {L : List Fct} (h32 : In32 L) {g : FGame} (h : (scoreF L g).kind = 2) : ∃ f ∈ L,FctOk f ∧ f.kind = 3 ∧ f.sh = (scoreF L g).sh ∧ f.sh.g = g ∧ 0 ≤ (scoreF L g).day:=by
  unfold scoreF at h ⊢
  cases h0 : bestF L g 0 with
  | none =>
    rw [h0] at h
    cases h1 : bestF L g 1 with
    | none => rw [h1] at h;exact absurd h (by decide)
    | some b => rw [h1] at h;exact absurd (show (1 : Int) = 2 from h) (by decide)
  | some a =>
    rw [h0] at h
    cases h1 : bestF L g 1 with
    | none => rw [h1] at h;exact absurd (show (1 : Int) = 2 from h) (by decide)
    | some b =>
      rw [h1] at h
      unfold scoreO at h ⊢
      obtain ⟨m,q⟩:=bestF_some h32 h0
      have hd:=day_nn q.2.1
      by_cases hs : SameSh a.sh b.sh
      · simp only [hs,if_true]
        exact ⟨a,m,q.2.1,q.1,rfl,q.2.2.1,by show (0 : Int) ≤ max a.day b.day;omega⟩
      · simp only [hs,if_false] at h
        exact absurd h (by decide)
def LtS (a b : FScore) : Prop:=a.day < b.day ∨ (a.day = b.day ∧ (a.sh.g.h < b.sh.g.h ∨ (a.sh.g.h = b.sh.g.h ∧ a.sh.g.a < b.sh.g.a)))
instance (a b : FScore) : Decidable (LtS a b):=by unfold LtS;infer_instance
theorem LtS.irrefl (a : FScore) : ¬ LtS a a:=by unfold LtS;omega
theorem LtS.trans (a b c : FScore) (h : LtS a b) (k : LtS b c) : LtS a c:=by unfold LtS at *;omega
theorem FGame.ext4 {a b : FGame} (h1 : a.s = b.s) (h2 : a.c = b.c) (h3 : a.h = b.h) (h4 : a.a = b.a) : a = b:=by
  cases a;cases b;simp only at h1 h2 h3 h4;subst h1;subst h2;subst h3;subst h4;rfl
def IsDec (L : List Fct) (s c : Int) (ds : List FScore) : Prop:=ds.Pairwise LtS ∧ ∀ x,x ∈ ds ↔ ∃ g : FGame,g.s = s ∧ g.c = c ∧ scoreF L g = x ∧ x.kind = 2
open Classical in
noncomputable def chooseL {α : Type} (P : List α → Prop) : List α:=if h : ∃ ds,P ds then h.choose else []
noncomputable def decC (L : List Fct) (s c : Int) : List FScore:=chooseL (IsDec L s c)
structure DecOk (L : List Fct) (s c : Int) (x : FScore) : Prop where
  sheet : SheetOk x.sh
  score : scoreF L x.sh.g = x
  kind : x.kind = 2
  day : 0 ≤ x.day
  s : x.sh.g.s = s
  c : x.sh.g.c = c
theorem decOk_of {L : List Fct} (h32 : In32 L) {s c : Int} {x : FScore} (h : ∃ g : FGame,g.s = s ∧ g.c = c ∧ scoreF L g = x ∧ x.kind = 2) : DecOk L s c x:=by
  obtain ⟨g,h1,h2,rfl,h4⟩:=h
  obtain ⟨f,m,ok,k,e,eg,d⟩:=score_agreed h32 h4
  have hg : (scoreF L g).sh.g = g:=by rw [← e];exact eg
  have hs : SheetOk (scoreF L g).sh:=by
    have:=ok.2.2.1
    unfold ContOk at this
    rw [if_neg (by omega),if_neg (by omega),if_pos k,e] at this
    exact this
  exact ⟨hs,by rw [hg],h4,d,by rw [hg];exact h1,by rw [hg];exact h2⟩
theorem IsDec.ok {L : List Fct} (h32 : In32 L) {s c : Int} {ds : List FScore} (h : IsDec L s c ds) {x : FScore} (hx : x ∈ ds) : DecOk L s c x:=decOk_of h32 ((h.2 x).1 hx)
theorem LtS.tri {L : List Fct} {s c : Int} {x y : FScore} (hx : DecOk L s c x) (hy : DecOk L s c y) : LtS x y ∨ x = y ∨ LtS y x:=by
  by_cases h1 : LtS x y
  · exact .inl h1
  by_cases h2 : LtS y x
  · exact .inr (.inr h2)
  refine .inr (.inl ?_)
  have e : x.sh.g = y.sh.g:=by
    unfold LtS at h1 h2
    exact FGame.ext4 (by rw [hx.s,hy.s]) (by rw [hx.c,hy.c]) (by omega) (by omega)
  rw [← hx.score,← hy.score,e]
theorem IsDec.len {L : List Fct} (h32 : In32 L) {s c : Int} {ds : List FScore} (h : IsDec L s c ds) : ds.length ≤ L.length:=by
  have hn : (ds.map fun x => x.sh.g).Nodup:=by
    refine List.pairwise_map.2 (h.1.imp_of_mem fun {a b} ha hb hab e => ?_)
    have oa:=h.ok h32 ha
    have ob:=h.ok h32 hb
    have : a = b:=by rw [← oa.score,← ob.score,e]
    subst this
    exact LtS.irrefl _ hab
  have:=nodup_len (b:=L.map fun f => f.sh.g) hn fun g hg => by
    obtain ⟨x,hx,rfl⟩:=List.mem_map.1 hg
    have o:=h.ok h32 hx
    obtain ⟨f,m,_,_,_,eg,_⟩:=score_agreed h32 (g:=x.sh.g) (by rw [o.score];exact o.kind)
    exact List.mem_map.2 ⟨f,m,eg⟩
  simpa using this
def cardS (p : Int) (z : Int × Bool) (c : FCard) : Int × Bool:=if c.p = p then (if c.red then (z.1,true) else (min 2 (z.1 + 1),z.2)) else z
def cardsF (x : FSheet) (p : Int) : Int × Bool:=(x.hc ++ x.ac).foldl (cardS p) (0,false)
def IsMem (x : FSheet) (ms : List (Int × Int)) : Prop:=(ms.Pairwise fun a b => a.1 < b.1) ∧ ∀ m : Int × Int,m ∈ ms ↔ (m.1 ∈ x.hs ∧ m.2 = x.g.h) ∨ (m.1 ∈ x.asn ∧ m.2 = x.g.a)
noncomputable def memS (x : FSheet) : List (Int × Int):=chooseL (IsMem x)
structure FSusp where
  p : Int
  club : Int
  g : FGame
deriving DecidableEq,Inhabited
def yelC (ds : List FScore) (p : Int) : Int:=ds.foldl (fun n x => n + (cardsF x.sh p).1) 0
def nextC (ds : List FScore) (club : Int) : Option FScore:=ds.find? fun z => decide (z.sh.g.h = club ∨ z.sh.g.a = club)
def Earn (n y : Int) (red : Bool) : Prop:=red = true ∨ (n + y) / 5 ≠ n / 5
instance (n y : Int) (red : Bool) : Decidable (Earn n y red):=by unfold Earn;infer_instance
def suspOne (pre post : List FScore) (x : FScore) (m : Int × Int) : List FSusp :=
  if Earn (yelC pre m.1) (cardsF x.sh m.1).1 (cardsF x.sh m.1).2 then (match nextC post m.2 with|none => []|some z => [⟨m.1,m.2,z.sh.g⟩]) else []
noncomputable def suspAt (ds : List FScore) (i : Nat) : List FSusp:=(memS (ds.getD i score0).sh).flatMap (suspOne (ds.take i) (ds.drop (i + 1)) (ds.getD i score0))
noncomputable def suspN (ds : List FScore) (k : Nat) : List FSusp:=(List.range k).flatMap (suspAt ds)
noncomputable def suspC (ds : List FScore) : List FSusp:=suspN ds ds.length
end Go.Hw
set_option linter.unusedVariables false
set_option linter.unusedSimpArgs false
namespace Go.Hw
open Go Go.Lib
def unfB (pl day : Int) (r : FRul) : Bool:=decide (r.kind = 6 ∧ r.player = pl ∧ r.lo ≤ day ∧ day ≤ r.hi)
noncomputable def unfitL (C : List Fct) (pl day : Int) : Bool:=((forceL C).map (·.ru)).any (unfB pl day)
def OffB (L : List Fct) (S : List FSusp) (g : FGame) (day club p : Int) : Prop :=
  ((∃ x ∈ L,MvOf p x) ∧ ¬ (0 ≤ (regF L p day).mTo ∧ (regF L p day).mTo = club)) ∨ unfitL (canonL L) p day = true ∨ ∃ s ∈ S,s.p = p ∧ s.g = g
open Classical in
noncomputable def offS (L : List Fct) (S : List FSusp) (g : FGame) (day club : Int) (sq : List Int) : List Int:=sq.filter fun p => decide (OffB L S g day club p)
noncomputable def offL (L : List Fct) (g : FGame) : List Int × List Int :=
  if (scoreF L g).kind = 2 then (offS L (suspC (decC L g.s g.c)) g (scoreF L g).day g.h (scoreF L g).sh.hs,offS L (suspC (decC L g.s g.c)) g (scoreF L g).day g.a (scoreF L g).sh.asn) else ([],[])
structure SuspWhy (L : List Fct) (se co : Int) (t : FSusp) : Prop where
  kind : (scoreF L t.g).kind = 2
  s : t.g.s = se
  c : t.g.c = co
  club : t.club = t.g.h ∨ t.club = t.g.a
  before : ∃ g : FGame,g.s = se ∧ g.c = co ∧ (scoreF L g).kind = 2 ∧ (0 < (cardsF (scoreF L g).sh t.p).1 ∨ (cardsF (scoreF L g).sh t.p).2 = true) ∧ g ≠ t.g ∧ (scoreF L g).day ≤ (scoreF L t.g).day
end Go.Hw
set_option linter.unusedVariables false
set_option linter.unusedSimpArgs false
namespace Go.Hw
open Go Go.Lib
end Go.Hw
