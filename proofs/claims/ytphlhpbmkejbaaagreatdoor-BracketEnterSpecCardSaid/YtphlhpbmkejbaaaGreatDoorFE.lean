import Derived.Test.YtphlhpbmkejbaaaGreatDoorFD
import Derived.Test.YtphlhpbmkejbaaaGreatDoorFC
import Derived.Test.YtphlhpbmkejbaaaGreatDoorFA
set_option linter.unusedVariables false
set_option linter.unusedSimpArgs false
namespace Go.Hw
open Go Go.Lib
structure FRes where
  g : FGame
  hg : Int
  ag : Int
  hp : Int
  ap : Int
  hc : Int
  ac : Int
  day : Int
  forf : Bool
  both : Bool
deriving DecidableEq,Inhabited
def res0 : FRes:=⟨game0,0,0,0,0,0,0,0,false,false⟩
def cardP1 (n : Int) (c : FCard) : Int:=if c.red then n + 3 else n + 1
def cardP (l : List FCard) : Int:=l.foldl cardP1 0
def against (g : FGame) (day : Int) (home away : Bool) : FRes :=
  { res0 with g:=g,day:=day,forf:=true,both:=home && away,hg:=if (home && away) = true then 0 else if home = true then 0 else 3,ag:=if (home && away) = true then 0 else if home = true then 3 else 0 }
def ruledR (g : FGame) (r : FRul) (day : Int) : Option FRes :=
  if r.kind = 1 then some (against g day (decide (r.club = g.h)) (decide (r.club = g.a)))
  else if r.kind = 3 then some { res0 with g:=g,day:=day,hg:=r.hg,ag:=r.ag }
  else none
def ofSheet (g : FGame) (x : FScore) : FRes:={ res0 with g:=g,day:=x.day,hg:=x.sh.hg,ag:=x.sh.ag,hp:=x.sh.hp,ap:=x.sh.ap,hc:=cardP x.sh.hc,ac:=cardP x.sh.ac }
def playedR (g : FGame) (x : FScore) (o : List Int × List Int) : FRes :=
  if o.1 = [] ∧ o.2 = [] then ofSheet g x else against g x.day (decide (o.1 ≠ [])) (decide (o.2 ≠ []))
noncomputable def playedF (L : List Fct) (g : FGame) : Option FRes:=if (scoreF L g).kind = 2 then some (playedR g (scoreF L g) (offL L g)) else none
noncomputable def ofF (L : List Fct) (g : FGame) : Option FRes :=
  if GameOk g then (if (ofGame (canonL L) g).2.2 = true then ruledR g (ofGame (canonL L) g).1 (ofGame (canonL L) g).2.1 else playedF L g) else none
def ResOk (r : FRes) : Prop :=
  GameOk r.g ∧ Bel r.hg 100 ∧ Bel r.ag 100 ∧ Bel r.hp 100 ∧ Bel r.ap 100 ∧ Bel r.hc 121 ∧ Bel r.ac 121 ∧ Bel r.day 1048577 ∧
  (r.g.c < 8 → r.hp + r.ap = 0) ∧
  (if r.forf = true then (if r.both = true then r.hg = 0 ∧ r.ag = 0 else (r.hg = 0 ∧ r.ag = 3) ∨ (r.hg = 3 ∧ r.ag = 0)) ∧ r.hp + r.ap + r.hc + r.ac = 0 else r.both = false)
instance (r : FRes) : Decidable (ResOk r):=by unfold ResOk;infer_instance
def LtR (a b : FRes) : Prop:=a.day < b.day ∨ (a.day = b.day ∧ (a.g.h < b.g.h ∨ (a.g.h = b.g.h ∧ a.g.a < b.g.a)))
instance (a b : FRes) : Decidable (LtR a b):=by unfold LtR;infer_instance
theorem LtR.irrefl (a : FRes) : ¬ LtR a a:=by unfold LtR;omega
theorem LtR.trans (a b c : FRes) (h : LtR a b) (k : LtR b c) : LtR a c:=by unfold LtR at *;omega
def InAll (L : List Fct) (s c : Int) (r : FRes) : Prop:=r.g.s = s ∧ r.g.c = c ∧ ofF L r.g = some r
theorem LtR.tri {L : List Fct} {s c : Int} {x y : FRes} (hx : InAll L s c x) (hy : InAll L s c y) : LtR x y ∨ x = y ∨ LtR y x:=by
  by_cases h1 : LtR x y
  · exact .inl h1
  by_cases h2 : LtR y x
  · exact .inr (.inr h2)
  refine .inr (.inl ?_)
  have e : x.g = y.g:=by
    unfold LtR at h1 h2
    exact FGame.ext4 (by rw [hx.1,hy.1]) (by rw [hx.2.1,hy.2.1]) (by omega) (by omega)
  have:=hx.2.2.symm.trans ((congrArg (ofF L) e).trans hy.2.2)
  exact Option.some.inj this
end Go.Hw
set_option linter.unusedVariables false
set_option linter.unusedSimpArgs false
namespace Go.Hw
open Go Go.Lib
structure FTie where
  legs : Int
  away : Bool
deriving DecidableEq,Inhabited
structure FDuel where
  a : Int
  b : Int
  ls : List FRes
deriving DecidableEq,Inhabited
structure FBr where
  t : FTie
  rs : List (List FDuel)
deriving DecidableEq,Inhabited
def tie0 : FTie:=⟨0,false⟩
def br0 : FBr:=⟨tie0,[]⟩
def IsTie (t : FTie) : Prop:=t.legs = 1 ∨ t.legs = 2
instance (t : FTie) : Decidable (IsTie t):=by unfold IsTie;infer_instance
def legA (d : FDuel) (i : Nat) : Int:=if i = 0 then d.a else d.b
def legB (d : FDuel) (i : Nat) : Int:=if i = 0 then d.b else d.a
def SameCup (x y : FRes) : Prop:=x.g.s = y.g.s ∧ x.g.c = y.g.c
instance (x y : FRes) : Decidable (SameCup x y):=by unfold SameCup;infer_instance
def FullD (d : FDuel) (t : FTie) : Prop:=t.legs ≤ d.ls.length
instance (d : FDuel) (t : FTie) : Decidable (FullD d t):=by unfold FullD;infer_instance
structure FLead where
  goals : Int
  away : Int
  pens : Int
deriving DecidableEq
def leadS (l : FLead) (i : Nat) (x : FRes) : FLead:=if i = 0 then ⟨l.goals + (x.hg - x.ag),l.away - x.ag,x.hp - x.ap⟩ else ⟨l.goals + (x.ag - x.hg),l.away + x.ag,x.ap - x.hp⟩
def leadL : Nat → FLead → List FRes → FLead
  | _,l,[] => l
  | i,l,x :: r => leadL (i + 1) (leadS l i x) r
def leadD (d : FDuel) : FLead:=leadL 0 ⟨0,0,0⟩ d.ls
def leadN (d : FDuel) (t : FTie) : Int :=
  if (leadD d).goals ≠ 0 then (leadD d).goals
  else if t.legs = 2 ∧ t.away = true ∧ (leadD d).away ≠ 0 then (leadD d).away
  else (leadD d).pens
def winD (d : FDuel) (t : FTie) : Option Int:=if FullD d t then (if 0 < leadN d t then some d.a else if leadN d t < 0 then some d.b else none) else none
def DuelOk0 (d : FDuel) (t : FTie) : Prop:=IsTie t ∧ Bel d.a 192 ∧ Bel d.b 192 ∧ d.a ≠ d.b ∧ (d.ls.length : Int) ≤ t.legs
instance (d : FDuel) (t : FTie) : Decidable (DuelOk0 d t):=by unfold DuelOk0;infer_instance
def LegOk (d : FDuel) (i : Nat) (x : FRes) : Prop:=x.g.h = legA d i ∧ x.g.a = legB d i ∧ 8 ≤ x.g.c ∧ SameCup x (d.ls.headD res0)
instance (d : FDuel) (i : Nat) (x : FRes) : Decidable (LegOk d i x):=by unfold LegOk;infer_instance
def LegsOk (d : FDuel) : Prop:=∀ i,i < d.ls.length → LegOk d i (d.ls.getD i res0)
noncomputable def checkD (d : FDuel) (t : FTie) : Int:=open Classical in
  if DuelOk0 d t then (if ∀ x ∈ d.ls,ResOk x then (if LegsOk d then 0 else 210) else 1) else 210
structure DuelOk (d : FDuel) (t : FTie) : Prop where
  ok0 : DuelOk0 d t
  res : ∀ x ∈ d.ls,ResOk x
  legs : LegsOk d
theorem checkD_zero {d : FDuel} {t : FTie} : checkD d t = 0 ↔ DuelOk d t:=by
  unfold checkD
  by_cases h1 : DuelOk0 d t
  · by_cases h2 : ∀ x ∈ d.ls,ResOk x
    · by_cases h3 : LegsOk d
      · rw [if_pos h1,if_pos h2,if_pos h3];exact ⟨fun _ => ⟨h1,h2,h3⟩,fun _ => rfl⟩
      · rw [if_pos h1,if_pos h2,if_neg h3];exact ⟨fun h => absurd h (by decide),fun h => absurd h.legs h3⟩
    · rw [if_pos h1,if_neg h2];exact ⟨fun h => absurd h (by decide),fun h => absurd h.res h2⟩
  · rw [if_neg h1];exact ⟨fun h => absurd h (by decide),fun h => absurd h.ok0 h1⟩
noncomputable def winnerE (d : FDuel) (t : FTie) : Int × Int:=if checkD d t ≠ 0 then (0,checkD d t) else match winD d t with
  | none => (0,210)
  | some c => (c,0)
def pairD : List Int → List FDuel
  | a :: b :: r => ⟨a,b,[]⟩ :: pairD r
  | _ => []
def IsPow (n : Nat) : Prop:=n = 2 ∨ n = 4 ∨ n = 8 ∨ n = 16 ∨ n = 32 ∨ n = 64 ∨ n = 128
instance (n : Nat) : Decidable (IsPow n):=by unfold IsPow;infer_instance
def ClubsOk (cs : List Int) : Prop:=(∀ c ∈ cs,Bel c 192) ∧ cs.Nodup
instance (cs : List Int) : Decidable (ClubsOk cs):=by unfold ClubsOk;infer_instance
def newB (cs : List Int) (t : FTie) : FBr × Int:=if IsTie t then (if IsPow cs.length ∧ ClubsOk cs then (⟨t,[pairD cs]⟩,0) else (br0,190)) else (br0,210)
def winsR (l : List FDuel) (t : FTie) : Option (List Int):=match l with
  | [] => some []
  | d :: r => match winD d t,winsR r t with
    | some c,some cs => some (c :: cs)
    | _,_ => none
def nextR (l : List FDuel) (t : FTie) : Option (List FDuel):=match winsR l t with
  | some cs => if 2 ≤ cs.length then some (pairD cs) else none
  | none => none
def sameR (x y : List FDuel) : Prop:=x.map (fun d => (d.a,d.b)) = y.map fun d => (d.a,d.b)
instance (x y : List FDuel) : Decidable (sameR x y):=by unfold sameR;infer_instance
def RoundOk (l : List FDuel) (t : FTie) : Prop:=∀ d ∈ l,DuelOk d t ∧ (FullD d t → (d.ls.length : Int) = t.legs → winD d t ≠ none)
def ChainOk (t : FTie) : List (List FDuel) → Prop
  | [] => True
  | [l] => nextR l t = none
  | l :: m :: r => (∃ n,nextR l t = some n ∧ sameR n m) ∧ ChainOk t (m :: r)
def allLegs (b : FBr) : List FRes:=b.rs.flatMap fun l => l.flatMap fun d => d.ls
structure BrOk (b : FBr) : Prop where
  tie : IsTie b.t
  some : b.rs ≠ []
  clubs : ∃ l r,b.rs = l :: r ∧ IsPow (2 * l.length) ∧ ClubsOk (l.flatMap fun d => [d.a,d.b])
  rounds : ∀ l ∈ b.rs,RoundOk l b.t
  chain : ChainOk b.t b.rs
  cup : ∀ x ∈ allLegs b,∀ y ∈ allLegs b,SameCup x y
def WaitD (d : FDuel) (t : FTie) (x : FRes) : Prop:=¬ FullD d t ∧ x.g.h = legA d d.ls.length ∧ x.g.a = legB d d.ls.length
instance (d : FDuel) (t : FTie) (x : FRes) : Decidable (WaitD d t x):=by unfold WaitD;infer_instance
def enterR (l : List FDuel) (t : FTie) (x : FRes) : Option (List FDuel × FDuel):=match l with
  | [] => none
  | d :: r => if WaitD d t x then some (⟨d.a,d.b,d.ls ++ [x]⟩ :: r,⟨d.a,d.b,d.ls ++ [x]⟩) else match enterR r t x with
    | none => none
    | some (q,e) => some (d :: q,e)
noncomputable def enterB (b : FBr) (x : FRes) : FBr × Int:=open Classical in
  if BrOk b then (if ResOk x then (match enterR (b.rs.getLastD []) b.t x with
    | none => (br0,210)
    | some (q,d) => if 8 ≤ x.g.c ∧ (∀ y ∈ allLegs b,SameCup y x) ∧ ¬ (FullD d b.t ∧ winD d b.t = none) then
        (⟨b.t,b.rs.dropLast ++ (q :: (match nextR q b.t with|none => []|some n => [n]))⟩,0) else (br0,210)) else (br0,1)) else (br0,210)
noncomputable def champB (b : FBr) : Int × Bool × Int:=open Classical in
  if BrOk b then (match b.rs.getLastD [] with
    | [d] => (match winD d b.t with|none => (0,false,0)|some c => (c,true,0))
    | _ => (0,false,0)) else (0,false,210)
theorem leadS_bd {l : FLead} {i : Nat} {x : FRes} (hx : ResOk x) (n : Int) (hl : -n ≤ l.goals ∧ l.goals ≤ n ∧ -n ≤ l.away ∧ l.away ≤ n ∧ -99 ≤ l.pens ∧ l.pens ≤ 99) :
    -(n + 99) ≤ (leadS l i x).goals ∧ (leadS l i x).goals ≤ n + 99 ∧ -(n + 99) ≤ (leadS l i x).away ∧ (leadS l i x).away ≤ n + 99 ∧ -99 ≤ (leadS l i x).pens ∧ (leadS l i x).pens ≤ 99:=by
  obtain ⟨_,h1,h2,h3,h4,_⟩:=hx
  unfold Bel at h1 h2 h3 h4
  unfold leadS
  split <;> (dsimp only;omega)
theorem win_club {d : FDuel} {t : FTie} {c : Int} (h : winD d t = some c) : c = d.a ∨ c = d.b:=by
  unfold winD at h
  split at h
  · split at h
    · cases h;exact .inl rfl
    · split at h
      · cases h;exact .inr rfl
      · cases h
  · cases h
end Go.Hw
set_option linter.unusedVariables false
set_option linter.unusedSimpArgs false
namespace Go.Hw
open Go Go.Lib
theorem nodup_perm {α : Type} : ∀ {a b : List α},a.Nodup → b.Nodup → (∀ x,x ∈ a ↔ x ∈ b) → a.Perm b
  | [],b,_,_,h => by
    cases b with
    | nil => exact .nil
    | cons y r => exact absurd ((h y).2 List.mem_cons_self) (by simp)
  | x :: a,b,ha,hb,h => by
    obtain ⟨p,q,rfl⟩:=List.append_of_mem ((h x).1 List.mem_cons_self)
    rw [List.nodup_cons] at ha
    have hb2 : (x :: (p ++ q)).Nodup:=(List.perm_middle (a:=x) (l₁:=p) (l₂:=q)).nodup_iff.1 hb
    rw [List.nodup_cons] at hb2
    refine (List.Perm.cons x (nodup_perm ha.2 hb2.2 fun y => ?_)).trans List.perm_middle.symm
    have:=h y
    rw [List.mem_cons,List.mem_append,List.mem_cons] at this
    rw [List.mem_append]
    constructor
    · intro hy
      rcases this.1 (.inr hy) with w|w|w
      · exact .inl w
      · subst w;exact absurd hy ha.1
      · exact .inr w
    · intro hy
      have hy2 : y ∈ p ∨ y = x ∨ y ∈ q:=hy.elim .inl fun w => .inr (.inr w)
      rcases this.2 hy2 with w|w
      · subst w;exact absurd (List.mem_append.2 hy) hb2.1
      · exact w
theorem IsDec.perm {L : List Fct} {s c : Int} {ds xs : List FScore} (h : IsDec L s c ds) (hn : xs.Nodup) (hx : ∀ x,x ∈ xs ↔ ∃ g : FGame,g.s = s ∧ g.c = c ∧ scoreF L g = x ∧ x.kind = 2) : xs.Perm ds :=
  nodup_perm hn (h.1.imp fun {a b} hab e => by subst e;exact LtS.irrefl _ hab) fun x => (hx x).trans (h.2 x).symm
end Go.Hw
set_option linter.unusedVariables false
set_option linter.unusedSimpArgs false
namespace Go.Hw
open Go Go.Lib
def clubsR (l : List FDuel) : List Int:=l.flatMap fun d => [d.a,d.b]
theorem clubsR_cons (d : FDuel) (l : List FDuel) : clubsR (d :: l) = d.a :: d.b :: clubsR l:=rfl
theorem clubsR_len (l : List FDuel) : (clubsR l).length = 2 * l.length:=by
  induction l with
  | nil => rfl
  | cons d r ih => rw [clubsR_cons,List.length_cons,List.length_cons,ih,List.length_cons];omega
theorem clubsR_same {x y : List FDuel} (h : sameR x y) : clubsR x = clubsR y:=by
  unfold sameR at h
  induction x generalizing y with
  | nil => cases y with
    | nil => rfl
    | cons d r => cases h
  | cons e q ih => cases y with
    | nil => cases h
    | cons d r =>
      rw [List.map_cons,List.map_cons,List.cons.injEq,Prod.mk.injEq] at h
      rw [clubsR_cons,clubsR_cons,h.1.1,h.1.2,ih h.2]
theorem sameR_len {x y : List FDuel} (h : sameR x y) : x.length = y.length:=by
  have:=congrArg List.length h
  simpa using this
theorem pairD_len : ∀ (cs : List Int),(pairD cs).length = cs.length / 2
  | [] => rfl
  | [_] => by simp [pairD]
  | a :: b :: r => by
    unfold pairD
    rw [List.length_cons,pairD_len r,List.length_cons,List.length_cons];omega
theorem pairD_clubs : ∀ (cs : List Int),cs.length % 2 = 0 → clubsR (pairD cs) = cs
  | [],_ => rfl
  | [_],h => absurd h (by simp)
  | a :: b :: r,h => by
    unfold pairD
    rw [clubsR_cons,pairD_clubs r (by simp only [List.length_cons] at h;omega)]
theorem pairD_ls : ∀ (cs : List Int),∀ d ∈ pairD cs,d.ls = []
  | [],_,h => by cases h
  | [_],_,h => by cases h
  | a :: b :: r,d,h => by
    unfold pairD at h
    rcases List.mem_cons.1 h with e|e
    · rw [e]
    · exact pairD_ls r d e
theorem winsR_len {t : FTie} : ∀ {l : List FDuel} {cs : List Int},winsR l t = some cs → cs.length = l.length
  | [],cs,h => by cases h;rfl
  | d :: r,cs,h => by
    unfold winsR at h
    cases hd : winD d t with
    | none => rw [hd] at h;cases h
    | some c =>
      cases hr : winsR r t with
      | none => rw [hd,hr] at h;cases h
      | some q =>
        rw [hd,hr] at h
        cases h
        rw [List.length_cons,List.length_cons,winsR_len hr]
def loseD (d : FDuel) (t : FTie) : Int:=match winD d t with|some c => d.a + d.b - c|none => 0
theorem winsR_perm {t : FTie} : ∀ {l : List FDuel} {cs : List Int},winsR l t = some cs → (clubsR l).Perm (cs ++ l.map fun d => loseD d t)
  | [],cs,h => by cases h;exact .nil
  | d :: r,cs,h => by
    unfold winsR at h
    cases hd : winD d t with
    | none => rw [hd] at h;cases h
    | some c =>
      cases hr : winsR r t with
      | none => rw [hd,hr] at h;cases h
      | some q =>
        rw [hd,hr] at h
        cases h
        have ih:=winsR_perm hr
        rw [clubsR_cons,List.map_cons,List.cons_append]
        have hl : loseD d t = d.a + d.b - c:=by unfold loseD;rw [hd]
        rw [hl]
        have h2 : (d.a :: d.b :: clubsR r).Perm (c :: (d.a + d.b - c) :: clubsR r):=by
          rcases win_club hd with e|e
          · rw [e,show d.a + d.b - d.a = d.b by omega]
          · rw [e,show d.a + d.b - d.b = d.a by omega];exact List.Perm.swap _ _ _
        refine h2.trans (List.Perm.cons c ?_)
        exact (List.Perm.cons _ ih).trans List.perm_middle.symm
theorem winsR_mem {t : FTie} {l : List FDuel} {cs : List Int} (h : winsR l t = some cs) : ∀ c ∈ cs,c ∈ clubsR l:=fun c hc => (winsR_perm h).mem_iff.2 (List.mem_append_left _ hc)
theorem winsR_clubs {t : FTie} {l : List FDuel} {cs : List Int} (h : winsR l t = some cs) (hc : ClubsOk (clubsR l)) : ClubsOk cs:=by
  refine ⟨fun c hm => hc.1 c (winsR_mem h c hm),?_⟩
  have:=(winsR_perm h).nodup_iff.1 hc.2
  rw [List.nodup_append] at this
  exact this.1
theorem nextR_some {t : FTie} {l n : List FDuel} (h : nextR l t = some n) : ∃ cs,winsR l t = some cs ∧ 2 ≤ cs.length ∧ n = pairD cs:=by
  unfold nextR at h
  cases hw : winsR l t with
  | none => rw [hw] at h;cases h
  | some cs =>
    rw [hw] at h
    dsimp only at h
    split at h
    · cases h;exact ⟨cs,rfl,by assumption,rfl⟩
    · cases h
def IsPow1 (n : Nat) : Prop:=n = 1 ∨ n = 2 ∨ n = 4 ∨ n = 8 ∨ n = 16 ∨ n = 32 ∨ n = 64
theorem pow_half {n : Nat} (h : IsPow (2 * n)) : IsPow1 n:=by unfold IsPow at h;unfold IsPow1;omega
structure RndOk (l : List FDuel) : Prop where
  clubs : ClubsOk (clubsR l)
  pow : IsPow1 l.length
theorem rnd_next {t : FTie} {l n m : List FDuel} (h : RndOk l) (hn : nextR l t = some n) (hs : sameR n m) : RndOk m ∧ 2 * m.length = l.length:=by
  obtain ⟨cs,hw,h2,rfl⟩:=nextR_some hn
  have hl:=winsR_len hw
  have hp:=h.pow
  have hm:=sameR_len hs
  rw [pairD_len] at hm
  unfold IsPow1 at hp
  have he : cs.length % 2 = 0:=by omega
  have hc : clubsR m = cs:=by rw [← clubsR_same hs,pairD_clubs cs he]
  refine ⟨⟨by rw [hc];exact winsR_clubs hw h.clubs,by unfold IsPow1;omega⟩,by omega⟩
theorem chain_rnd {t : FTie} : ∀ {rs : List (List FDuel)},ChainOk t rs → (∀ l r,rs = l :: r → RndOk l) → ∀ l ∈ rs,RndOk l
  | [],_,_,_,hl => by cases hl
  | [l],_,h0,m,hm => by rw [List.mem_singleton] at hm;rw [hm];exact h0 l [] rfl
  | l :: m :: r,hc,h0,x,hx => by
    unfold ChainOk at hc
    obtain ⟨⟨n,hn,hs⟩,hc2⟩:=hc
    rcases List.mem_cons.1 hx with e|e
    · rw [e];exact h0 l _ rfl
    · exact chain_rnd hc2 (fun a b e2 => by
        rw [List.cons.injEq] at e2
        rw [← e2.1]
        exact (rnd_next (h0 l _ rfl) hn hs).1) x e
theorem BrOk.rnd {b : FBr} (h : BrOk b) : ∀ l ∈ b.rs,RndOk l:=by
  obtain ⟨l,r,e,h1,h2⟩:=h.clubs
  refine chain_rnd h.chain fun l' r' e' => ?_
  rw [e,List.cons.injEq] at e'
  rw [← e'.1]
  exact ⟨h2,pow_half h1⟩
theorem chain_sum {t : FTie} : ∀ {rs : List (List FDuel)},ChainOk t rs → (∀ l ∈ rs,RndOk l) → (rs.flatMap id).length + 1 ≤ 2 * (rs.headD []).length ∨ rs = []
  | [],_,_ => .inr rfl
  | [l],_,h => .inl (by
    have:=(h l (by simp)).pow
    unfold IsPow1 at this
    simp;omega)
  | l :: m :: r,hc,h => .inl (by
    unfold ChainOk at hc
    obtain ⟨⟨n,hn,hs⟩,hc2⟩:=hc
    have ih:=chain_sum hc2 fun x hx => h x (List.mem_cons_of_mem _ hx)
    have h2:=(rnd_next (h l (by simp)) hn hs).2
    rcases ih with ih|ih
    · rw [List.flatMap_cons,List.length_append]
      simp only [List.headD_cons,id] at ih ⊢
      omega
    · cases ih)
theorem legs_le (b : FBr) (h : BrOk b) : ((allLegs b).length : Int) ≤ b.t.legs * ((b.rs.flatMap id).length : Int):=by
  have key : ∀ ds : List FDuel,(∀ d ∈ ds,(d.ls.length : Int) ≤ b.t.legs) → ((ds.flatMap fun d => d.ls).length : Int) ≤ b.t.legs * (ds.length : Int):=by
    intro ds
    induction ds with
    | nil => intro _;simp
    | cons d r ih =>
      intro hd
      have h1:=hd d (by simp)
      have h2:=ih fun x hx => hd x (by simp [hx])
      rw [List.flatMap_cons,List.length_append,List.length_cons]
      have : b.t.legs * ((r.length + 1 : Nat) : Int) = b.t.legs * (r.length : Int) + b.t.legs:=by rw [show ((r.length + 1 : Nat) : Int) = (r.length : Int) + 1 by omega,Int.mul_add,Int.mul_one]
      omega
  have e : allLegs b = (b.rs.flatMap id).flatMap fun d => d.ls:=by
    unfold allLegs
    rw [List.flatMap_assoc];rfl
  rw [e]
  refine key _ fun d hd => ?_
  obtain ⟨l,hl,hd2⟩:=List.mem_flatMap.1 hd
  exact ((h.rounds l hl d hd2).1.ok0).2.2.2.2
theorem legs_lt {b : FBr} (h : BrOk b) : (allLegs b).length + 2 ≤ 2 * (clubsR (b.rs.headD [])).length:=by
  have h1:=legs_le b h
  have h2:=chain_sum h.chain h.rnd
  have h3:=h.tie
  rw [clubsR_len]
  rcases h2 with h2|h2
  · rcases h3 with e|e
    · rw [e] at h1;omega
    · rw [e] at h1;omega
  · exact absurd h2 h.some
end Go.Hw
set_option linter.unusedVariables false
set_option linter.unusedSimpArgs false
namespace Go.Hw
open Go Go.Lib
theorem enterR_some {t : FTie} {x : FRes} : ∀ {l m : List FDuel} {e : FDuel},enterR l t x = some (m,e) → ∃ p d q,l = p ++ d :: q ∧ m = p ++ e :: q ∧ e = ⟨d.a,d.b,d.ls ++ [x]⟩ ∧ WaitD d t x
  | [],_,_,h => by unfold enterR at h;cases h
  | d :: r,m,e,h => by
    unfold enterR at h
    split at h
    · rename_i hw
      cases h
      exact ⟨[],d,r,rfl,rfl,rfl,hw⟩
    · cases hr : enterR r t x with
      | none => rw [hr] at h;cases h
      | some w =>
        obtain ⟨m2,e2⟩:=w
        rw [hr] at h
        cases h
        obtain ⟨p,d2,q,h1,h2,h3,h4⟩:=enterR_some hr
        exact ⟨d :: p,d2,q,by rw [h1];rfl,by rw [h2];rfl,h3,h4⟩
theorem sameR_upd {p q : List FDuel} {d : FDuel} {x : FRes} : sameR (p ++ ⟨d.a,d.b,d.ls ++ [x]⟩ :: q) (p ++ d :: q):=by
  unfold sameR
  rw [List.map_append,List.map_append,List.map_cons,List.map_cons]
theorem duel_upd {d : FDuel} {t : FTie} {x : FRes} (h : DuelOk d t) (hw : WaitD d t x) (hx : ResOk x) (hc : 8 ≤ x.g.c) (hcup : ∀ y ∈ d.ls,SameCup y x) : DuelOk ⟨d.a,d.b,d.ls ++ [x]⟩ t:=by
  obtain ⟨⟨o1,o2,o3,o4,o5⟩,h2,h3⟩:=h
  obtain ⟨w1,w2,w3⟩:=hw
  unfold FullD at w1
  refine ⟨⟨o1,o2,o3,o4,by show (((d.ls ++ [x]).length : Nat) : Int) ≤ t.legs;rw [List.length_append,List.length_singleton];omega⟩,fun y hy => ?_,fun i hi => ?_⟩
  · rcases List.mem_append.1 hy with w|w
    · exact h2 y w
    · rw [List.mem_singleton] at w;rw [w];exact hx
  · show LegOk ⟨d.a,d.b,d.ls ++ [x]⟩ i ((d.ls ++ [x]).getD i res0)
    have hi : i < (d.ls ++ [x]).length:=hi
    rw [List.length_append,List.length_singleton] at hi
    by_cases hl : i < d.ls.length
    · have h4:=h3 i hl
      have e1 : (d.ls ++ [x]).getD i res0 = d.ls.getD i res0:=by
        rw [List.getD_eq_getElem?_getD,List.getD_eq_getElem?_getD,List.getElem?_append_left hl]
      have e2 : (d.ls ++ [x]).headD res0 = d.ls.headD res0:=by
        cases hd : d.ls with
        | nil => rw [hd] at hl;exact absurd hl (by simp)
        | cons a r => rfl
      rw [e1]
      obtain ⟨q1,q2,q3,q4⟩:=h4
      exact ⟨q1,q2,q3,by rw [show (FDuel.mk d.a d.b (d.ls ++ [x])).ls.headD res0 = d.ls.headD res0 from e2];exact q4⟩
    · have he : i = d.ls.length:=by omega
      subst he
      have e1 : (d.ls ++ [x]).getD d.ls.length res0 = x:=by simp [List.getD]
      rw [e1]
      refine ⟨w2,w3,hc,?_⟩
      show SameCup x ((d.ls ++ [x]).headD res0)
      cases hd : d.ls with
      | nil => exact ⟨rfl,rfl⟩
      | cons a r =>
        have:=hcup a (by rw [hd];simp)
        exact ⟨this.1.symm,this.2.symm⟩
theorem pairD_mem : ∀ {cs : List Int} {d : FDuel},d ∈ pairD cs → d.a ∈ cs ∧ d.b ∈ cs
  | [],_,h => by cases h
  | [_],_,h => by cases h
  | a :: b :: r,d,h => by
    unfold pairD at h
    rcases List.mem_cons.1 h with e|e
    · rw [e];exact ⟨by simp,by simp⟩
    · have:=pairD_mem e
      exact ⟨by simp [this.1],by simp [this.2]⟩
theorem pairD_ne : ∀ {cs : List Int} {d : FDuel},cs.Nodup → d ∈ pairD cs → d.a ≠ d.b
  | [],_,_,h => by cases h
  | [_],_,_,h => by cases h
  | a :: b :: r,d,hn,h => by
    unfold pairD at h
    rw [List.nodup_cons,List.nodup_cons] at hn
    rcases List.mem_cons.1 h with e|e
    · rw [e];exact fun w => hn.1 (by show a ∈ b :: r;rw [show a = b from w];simp)
    · exact pairD_ne hn.2.2 e
theorem new_round {t : FTie} (ht : IsTie t) {cs : List Int} (hc : ClubsOk cs) : RoundOk (pairD cs) t:=fun d hd => by
  have hm:=pairD_mem hd
  have hl:=pairD_ls cs d hd
  have hn:=pairD_ne hc.2 hd
  refine ⟨⟨⟨ht,hc.1 _ hm.1,hc.1 _ hm.2,hn,by rw [hl];rcases ht with e|e <;> (rw [e];decide)⟩,by rw [hl];simp,fun i hi => absurd hi (by rw [hl];simp)⟩,fun hf _ => ?_⟩
  unfold FullD at hf
  rw [hl] at hf
  rcases ht with e|e
  · rw [e] at hf;exact absurd hf (by decide)
  · rw [e] at hf;exact absurd hf (by decide)
theorem new_open {t : FTie} (ht : IsTie t) {cs : List Int} (h2 : 2 ≤ cs.length) : nextR (pairD cs) t = none:=by
  match cs,h2 with
  | a :: b :: r,_ =>
    have hw : winsR (pairD (a :: b :: r)) t = none:=by
      unfold pairD winsR
      have : winD ⟨a,b,[]⟩ t = none:=by
        unfold winD
        rw [if_neg]
        unfold FullD
        rcases ht with e|e <;> (rw [e];simp)
      rw [this]
    unfold nextR
    rw [hw]
theorem chain_upd {t : FTie} {q : List FDuel} (n : List (List FDuel)) (hn : (nextR q t = none ∧ n = []) ∨ ∃ m,nextR q t = some m ∧ n = [m] ∧ nextR m t = none) : ∀ {rs : List (List FDuel)} {l : List FDuel},ChainOk t (rs ++ [l]) → sameR q l → ChainOk t (rs ++ q :: n)
  | [],l,_,hs => by
    rw [List.nil_append]
    rcases hn with ⟨h1,rfl⟩|⟨m,h1,rfl,h2⟩
    · exact h1
    · exact ⟨⟨m,h1,rfl⟩,h2⟩
  | [a],l,hc,hs => by
    unfold ChainOk at hc
    obtain ⟨⟨m,h1,h2⟩,_⟩:=hc
    refine ⟨⟨m,h1,h2.trans hs.symm⟩,?_⟩
    exact chain_upd n hn (rs:=[]) (l:=l) (by assumption) hs
  | a :: b :: r,l,hc,hs => by
    have hc' : ChainOk t (a :: b :: (r ++ [l])):=hc
    unfold ChainOk at hc'
    exact ⟨hc'.1,chain_upd n hn (rs:=b :: r) (l:=l) hc'.2 hs⟩
theorem nextR_new {t : FTie} {q m : List FDuel} (ht : IsTie t) (h : nextR q t = some m) : nextR m t = none:=by
  obtain ⟨cs,_,h2,rfl⟩:=nextR_some h
  exact new_open ht h2
theorem enter_ok {b : FBr} (hb : BrOk b) {x : FRes} (hx : ResOk x) {m : List FDuel} {e : FDuel} (he : enterR (b.rs.getLastD []) b.t x = some (m,e)) (hc : 8 ≤ x.g.c) (hcup : ∀ y ∈ allLegs b,SameCup y x) (hw : ¬ (FullD e b.t ∧ winD e b.t = none)) :
    BrOk ⟨b.t,b.rs.dropLast ++ (m :: (match nextR m b.t with|none => []|some n => [n]))⟩ ∧ (allLegs ⟨b.t,b.rs.dropLast ++ (m :: (match nextR m b.t with|none => []|some n => [n]))⟩).length = (allLegs b).length + 1:=by
  have hne:=hb.some
  obtain ⟨rs,l,hrs⟩ : ∃ rs l,b.rs = rs ++ [l]:=⟨b.rs.dropLast,b.rs.getLast hne,(List.dropLast_concat_getLast hne).symm⟩
  obtain ⟨t,brs⟩:=b
  dsimp only at hrs he hw hne ⊢
  subst hrs
  have hld : (rs ++ [l]).getLastD [] = l:=by simp
  have hdl : (rs ++ [l]).dropLast = rs:=by simp
  rw [hld] at he
  rw [hdl]
  obtain ⟨p,d,q,e1,e2,e3,hwd⟩:=enterR_some he
  have hsame : sameR m l:=by rw [e1,e2,e3];exact sameR_upd
  have hrl:=hb.rounds l (by simp)
  have hdm : d ∈ l:=by rw [e1];simp
  have hdl2 : ∀ y ∈ d.ls,y ∈ allLegs ⟨t,rs ++ [l]⟩:=fun y hy => List.mem_flatMap.2 ⟨l,by simp,List.mem_flatMap.2 ⟨d,hdm,hy⟩⟩
  have hde : DuelOk e t:=by rw [e3];exact duel_upd (hrl d hdm).1 hwd hx hc fun y hy => hcup y (hdl2 y hy)
  have hrm : RoundOk m t:=fun y hy => by
    rw [e2] at hy
    rcases List.mem_append.1 hy with w|w
    · exact hrl y (by rw [e1];simp [w])
    · rcases List.mem_cons.1 w with w|w
      · rw [w];exact ⟨hde,fun hf _ hn => hw ⟨hf,hn⟩⟩
      · exact hrl y (by rw [e1];simp [w])
  have hclm : clubsR m = clubsR l:=clubsR_same hsame
  have hrnd:=hb.rnd l (by simp)
  have hlegs : (m.flatMap fun d => d.ls).length = (l.flatMap fun d => d.ls).length + 1:=by
    rw [e1,e2,e3,List.flatMap_append,List.flatMap_append,List.flatMap_cons,List.flatMap_cons]
    simp only [List.length_append,List.length_singleton]
    omega
  obtain ⟨n,hn⟩ : ∃ n,n = (match nextR m t with|none => []|some n => [n]):=⟨_,rfl⟩
  rw [← hn]
  have hn2 : (nextR m t = none ∧ n = []) ∨ ∃ k,nextR m t = some k ∧ n = [k] ∧ nextR k t = none:=by
    cases hk : nextR m t with
    | none => rw [hk] at hn;exact .inl ⟨rfl,hn⟩
    | some k => rw [hk] at hn;exact .inr ⟨k,rfl,hn,nextR_new hb.tie hk⟩
  have hnr : ∀ y ∈ n,RoundOk y t:=fun y hy => by
    rcases hn2 with ⟨_,h1⟩|⟨k,h1,h2,_⟩
    · rw [h1] at hy;cases hy
    · rw [h2,List.mem_singleton] at hy
      obtain ⟨cs,hw2,_,hk⟩:=nextR_some h1
      rw [hy,hk]
      exact new_round hb.tie (winsR_clubs hw2 (by rw [hclm];exact hrnd.clubs))
  have hnl : n.flatMap (fun l => l.flatMap fun d => d.ls) = []:=by
    rcases hn2 with ⟨_,h1⟩|⟨k,h1,h2,_⟩
    · rw [h1];rfl
    · obtain ⟨cs,_,_,hk⟩:=nextR_some h1
      rw [h2,hk,List.flatMap_cons,List.flatMap_nil,List.append_nil,List.flatMap_eq_nil_iff]
      exact fun d hd => pairD_ls cs d hd
  refine ⟨⟨hb.tie,by simp,?_,fun y hy => ?_,chain_upd n hn2 hb.chain hsame,?_⟩,?_⟩
  · obtain ⟨f,r,h1,h2,h3⟩:=hb.clubs
    dsimp only at h1 ⊢
    cases rs with
    | nil =>
      rw [List.nil_append,List.cons.injEq] at h1
      refine ⟨m,n,rfl,by rw [sameR_len hsame,h1.1];exact h2,?_⟩
      have:=hclm
      unfold clubsR at this
      rw [this,h1.1];exact h3
    | cons a r' =>
      rw [List.cons_append,List.cons.injEq] at h1
      refine ⟨a,r' ++ m :: n,rfl,by rw [h1.1];exact h2,by rw [h1.1];exact h3⟩
  · rcases List.mem_append.1 hy with w|w
    · exact hb.rounds y (by simp [w])
    · rcases List.mem_cons.1 w with w|w
      · rw [w];exact hrm
      · exact hnr y w
  · have hall : ∀ y ∈ allLegs ⟨t,rs ++ m :: n⟩,SameCup y x:=fun y hy => by
      unfold allLegs at hy
      dsimp only at hy
      rw [List.flatMap_append,List.flatMap_cons,hnl,List.append_nil,List.mem_append] at hy
      rcases hy with w|w
      · refine hcup y ?_
        unfold allLegs
        dsimp only
        rw [List.flatMap_append,List.mem_append];exact .inl w
      · obtain ⟨d2,hd2,hy2⟩:=List.mem_flatMap.1 w
        rw [e2,List.mem_append,List.mem_cons] at hd2
        rcases hd2 with w2|w2|w2
        · exact hcup y (List.mem_flatMap.2 ⟨l,by simp,List.mem_flatMap.2 ⟨d2,by rw [e1];simp [w2],hy2⟩⟩)
        · rw [w2,e3] at hy2
          rcases List.mem_append.1 hy2 with w3|w3
          · exact hcup y (hdl2 y w3)
          · rw [List.mem_singleton] at w3;rw [w3];exact ⟨rfl,rfl⟩
        · exact hcup y (List.mem_flatMap.2 ⟨l,by simp,List.mem_flatMap.2 ⟨d2,by rw [e1];simp [w2],hy2⟩⟩)
    intro y hy z hz
    have h1:=hall y hy
    have h2:=hall z hz
    exact ⟨h1.1.trans h2.1.symm,h1.2.trans h2.2.symm⟩
  · unfold allLegs
    dsimp only
    rw [List.flatMap_append,List.flatMap_append,List.flatMap_cons,List.flatMap_cons,List.flatMap_nil,hnl,List.length_append,List.length_append,List.length_append,List.length_append,hlegs]
    simp;omega
end Go.Hw
set_option linter.unusedVariables false
set_option linter.unusedSimpArgs false
namespace Go.Hw
open Go Go.Lib
def Cup8 (b : FBr) : Prop:=∀ y ∈ allLegs b,y.g.s = 0 ∧ y.g.c = 8
theorem leadL_snoc : ∀ (ls : List FRes) (i : Nat) (l : FLead) (x : FRes),leadL i l (ls ++ [x]) = leadS (leadL i l ls) (i + ls.length) x
  | [],i,l,x => rfl
  | y :: r,i,l,x => by
    rw [List.cons_append]
    unfold leadL
    rw [leadL_snoc r (i + 1) (leadS l i y) x,List.length_cons]
    congr 1
    omega
theorem last_in {b : FBr} (hb : BrOk b) : b.rs.getLastD [] ∈ b.rs:=by
  have hne:=hb.some
  rw [List.getLastD_eq_getLast?,List.getLast?_eq_some_getLast hne,Option.getD_some]
  exact List.getLast_mem hne
structure Played (b y : FBr) (x : FRes) : Prop where
  ok : BrOk y
  t : y.t = b.t
  legs : (allLegs y).length = (allLegs b).length + 1
  first : clubsR (y.rs.headD []) = clubsR (b.rs.headD [])
  grow : b.rs.length ≤ y.rs.length ∧ y.rs.length ≤ b.rs.length + 1
  same : ∀ i,i + 1 < b.rs.length → y.rs.getD i [] = b.rs.getD i []
  mem : ∀ z ∈ allLegs y,z = x ∨ z ∈ allLegs b
theorem enter_played {b : FBr} {x : FRes} (h : (enterB b x).2 = 0) : BrOk b ∧ Played b (enterB b x).1 x:=by
  unfold enterB at h ⊢
  by_cases hb : BrOk b
  · rw [if_pos hb] at h ⊢
    by_cases hx : ResOk x
    · rw [if_pos hx] at h ⊢
      cases he : enterR (b.rs.getLastD []) b.t x with
      | none => rw [he] at h;exact absurd (show (210 : Int) = 0 from h) (by decide)
      | some w =>
        obtain ⟨m,e⟩:=w
        rw [he] at h
        dsimp only at h ⊢
        by_cases hw : 8 ≤ x.g.c ∧ (∀ y ∈ allLegs b,SameCup y x) ∧ ¬ (FullD e b.t ∧ winD e b.t = none)
        · rw [if_pos hw]
          have k:=enter_ok hb hx he hw.1 hw.2.1 hw.2.2
          obtain ⟨p,d,q,e1,e2,e3,hwd⟩:=enterR_some he
          have hne:=hb.some
          have key : ∀ n : List (List FDuel),n.length ≤ 1 → n.flatMap (fun l => l.flatMap fun d => d.ls) = [] → (BrOk ⟨b.t,b.rs.dropLast ++ (m :: n)⟩ ∧ (allLegs ⟨b.t,b.rs.dropLast ++ (m :: n)⟩).length = (allLegs b).length + 1) → BrOk b ∧ Played b ⟨b.t,b.rs.dropLast ++ (m :: n)⟩ x:=by
            intro n hnl hnz k
            obtain ⟨rs,l,hrs⟩ : ∃ rs l,b.rs = rs ++ [l]:=⟨b.rs.dropLast,b.rs.getLast hne,(List.dropLast_concat_getLast hne).symm⟩
            have hld : b.rs.getLastD [] = l:=by rw [hrs];simp
            have hdl : b.rs.dropLast = rs:=by rw [hrs];simp
            rw [hld] at e1
            rw [hdl] at k ⊢
            have hsame : sameR m l:=by rw [e1,e2,e3];exact sameR_upd
            refine ⟨hb,k.1,rfl,k.2,?_,?_,?_,?_⟩
            · dsimp only
              rw [hrs]
              cases rs with
              | nil => exact clubsR_same hsame
              | cons a r => rfl
            · dsimp only
              rw [hrs,List.length_append,List.length_append,List.length_cons,List.length_cons,List.length_nil]
              omega
            · intro i hi
              rw [hrs,List.length_append,List.length_singleton] at hi
              dsimp only
              rw [hrs,List.getD_eq_getElem?_getD,List.getD_eq_getElem?_getD,List.getElem?_append_left (by omega),List.getElem?_append_left (by omega)]
            · intro z hz
              unfold allLegs at hz
              dsimp only at hz
              rw [List.flatMap_append,List.flatMap_cons,hnz,List.append_nil,List.mem_append] at hz
              have hin : ∀ d2 ∈ l,∀ z ∈ d2.ls,z ∈ allLegs b:=fun d2 hd2 z hz => List.mem_flatMap.2 ⟨l,by rw [hrs];simp,List.mem_flatMap.2 ⟨d2,hd2,hz⟩⟩
              rcases hz with w|w
              · refine .inr ?_
                unfold allLegs
                rw [hrs,List.flatMap_append,List.mem_append];exact .inl w
              · obtain ⟨d2,hd2,hz2⟩:=List.mem_flatMap.1 w
                rw [e2,List.mem_append,List.mem_cons] at hd2
                rcases hd2 with w2|w2|w2
                · exact .inr (hin d2 (by rw [e1];simp [w2]) z hz2)
                · rw [w2,e3] at hz2
                  rcases List.mem_append.1 hz2 with w3|w3
                  · exact .inr (hin d (by rw [e1];simp) z w3)
                  · rw [List.mem_singleton] at w3;exact .inl w3
                · exact .inr (hin d2 (by rw [e1];simp [w2]) z hz2)
          refine key _ ?_ ?_ k
          · split <;> simp
          · cases hk : nextR m b.t with
            | none => rfl
            | some r =>
              obtain ⟨cs,_,_,hk2⟩:=nextR_some hk
              dsimp only
              rw [hk2,List.flatMap_cons,List.flatMap_nil,List.append_nil,List.flatMap_eq_nil_iff]
              exact fun d hd => pairD_ls cs d hd
        · rw [if_neg hw] at h;exact absurd (show (210 : Int) = 0 from h) (by decide)
    · rw [if_neg hx] at h;exact absurd (show (1 : Int) = 0 from h) (by decide)
  · rw [if_neg hb] at h;exact absurd (show (210 : Int) = 0 from h) (by decide)
end Go.Hw
set_option linter.unusedVariables false
set_option linter.unusedSimpArgs false
namespace Go.Hw
theorem enterB_some {b : FBr} {x : FRes} (h : (enterB b x).2 = 0) : BrOk b ∧ ResOk x ∧ ∃ m e,enterR (b.rs.getLastD []) b.t x = some (m,e) ∧ (enterB b x).1 = ⟨b.t,b.rs.dropLast ++ (m :: (nextR m b.t).toList)⟩:=by
  unfold enterB at h ⊢
  by_cases hb : BrOk b
  · rw [if_pos hb] at h ⊢
    by_cases hx : ResOk x
    · rw [if_pos hx] at h ⊢
      cases he : enterR (b.rs.getLastD []) b.t x with
      | none => rw [he] at h;exact absurd (show (210 : Int) = 0 from h) (by decide)
      | some w =>
        obtain ⟨m,e⟩:=w
        rw [he] at h
        dsimp only at h ⊢
        by_cases hw : 8 ≤ x.g.c ∧ (∀ y ∈ allLegs b,SameCup y x) ∧ ¬ (FullD e b.t ∧ winD e b.t = none)
        · rw [if_pos hw]
          refine ⟨hb,hx,m,e,rfl,?_⟩
          cases nextR m b.t <;> rfl
        · rw [if_neg hw] at h;exact absurd (show (210 : Int) = 0 from h) (by decide)
    · rw [if_neg hx] at h;exact absurd (show (1 : Int) = 0 from h) (by decide)
  · rw [if_neg hb] at h;exact absurd (show (210 : Int) = 0 from h) (by decide)
theorem winsR_all {t : FTie} : ∀ {l : List FDuel} {cs : List Int},winsR l t = some cs → ∀ d ∈ l,winD d t ≠ none
  | [],_,_,d,hd => by cases hd
  | e :: r,cs,h,d,hd => by
    unfold winsR at h
    cases he : winD e t with
    | none => rw [he] at h;cases h
    | some c =>
      cases hr : winsR r t with
      | none => rw [he,hr] at h;cases h
      | some q =>
        rcases List.mem_cons.1 hd with w|w
        · rw [w,he];simp
        · exact winsR_all hr d w
end Go.Hw
set_option linter.unusedVariables false
set_option linter.unusedSimpArgs false
namespace Go.Hw
theorem winner_some {d : FDuel} {t : FTie} {w : Int} : winnerE d t = (w,0) ↔ DuelOk d t ∧ winD d t = some w:=by
  unfold winnerE
  by_cases h : checkD d t = 0
  · rw [if_neg (fun k => k h),checkD_zero.symm]
    cases hw : winD d t with
    | none => exact ⟨fun k => (by cases k),fun k => (by cases k.2)⟩
    | some c => exact ⟨fun k => (by cases k;exact ⟨h,rfl⟩),fun k => (by cases k.2;rfl)⟩
  · rw [if_pos h]
    exact ⟨fun k => absurd (congrArg Prod.snd k) h,fun k => absurd (checkD_zero.2 k.1) h⟩
end Go.Hw
set_option linter.unusedVariables false
set_option linter.unusedSimpArgs false
namespace Go.Hw
structure PlayI (cs : List Int) (t : FTie) (k : Nat) (b : FBr) : Prop where
  ok : BrOk b
  t : b.t = t
  cup : Cup8 b
  first : clubsR (b.rs.headD []) = cs
  legs : (allLegs b).length = k
theorem new_err {cs : List Int} {t : FTie} (h : (newB cs t).2 ≠ 0) : (newB cs t).1.rs = []:=by
  unfold newB at h ⊢
  by_cases h1 : IsTie t
  · by_cases h2 : IsPow cs.length ∧ ClubsOk cs
    · rw [if_pos h1,if_pos h2] at h;exact absurd rfl h
    · rw [if_pos h1,if_neg h2];rfl
  · rw [if_neg h1];rfl
theorem new_playI {cs : List Int} {t : FTie} (h : (newB cs t).2 = 0) : PlayI cs t 0 (newB cs t).1:=by
  unfold newB at h ⊢
  by_cases h1 : IsTie t
  · by_cases h2 : IsPow cs.length ∧ ClubsOk cs
    · rw [if_pos h1,if_pos h2]
      have hp:=h2.1
      unfold IsPow at hp
      have hcl : clubsR (pairD cs) = cs:=pairD_clubs cs (by omega)
      have hal : allLegs ⟨t,[pairD cs]⟩ = []:=by
        unfold allLegs
        rw [List.flatMap_cons,List.flatMap_nil,List.append_nil,List.flatMap_eq_nil_iff]
        exact fun d hd => pairD_ls cs d hd
      refine ⟨⟨h1,by simp,⟨pairD cs,[],rfl,?_,?_⟩,?_,?_,?_⟩,rfl,?_,hcl,by rw [hal];rfl⟩
      · rw [pairD_len];unfold IsPow;omega
      · have : (pairD cs).flatMap (fun d => [d.a,d.b]) = cs:=hcl
        rw [this];exact h2.2
      · intro l hl
        rw [List.mem_singleton] at hl
        rw [hl];exact new_round h1 h2.2
      · exact new_open h1 (by omega)
      · intro x hx;rw [hal] at hx;cases hx
      · intro x hx;rw [hal] at hx;cases hx
    · rw [if_pos h1,if_neg h2] at h;exact absurd (show (190 : Int) = 0 from h) (by decide)
  · rw [if_neg h1] at h;exact absurd (show (210 : Int) = 0 from h) (by decide)
theorem PlayI.le {cs : List Int} {t : FTie} {k : Nat} {b : FBr} (h : PlayI cs t k b) : k + 2 ≤ 2 * cs.length:=by
  have:=legs_lt h.ok
  rw [h.first,h.legs] at this
  exact this
theorem chain_len {t : FTie} : ∀ {rs : List (List FDuel)},ChainOk t rs → (∀ l ∈ rs,RndOk l) → ∀ i,i < rs.length → (rs.getD i []).length * 2 ^ i = (rs.headD []).length
  | [],_,_,i,h => by simp at h
  | [l],_,_,i,h => by
    have : i = 0:=by simpa using h
    rw [this];simp
  | l :: m :: r,hc,h0,0,_ => by simp
  | l :: m :: r,hc,h0,i + 1,h => by
    unfold ChainOk at hc
    obtain ⟨⟨n,hn,hs⟩,hc2⟩:=hc
    have ih:=chain_len hc2 (fun x hx => h0 x (List.mem_cons_of_mem _ hx)) i (by simpa using h)
    have h2:=(rnd_next (h0 l (by simp)) hn hs).2
    rw [List.getD_cons_succ,Nat.pow_succ,← Nat.mul_assoc,ih]
    show m.length * 2 = l.length
    omega
end Go.Hw
set_option linter.unusedVariables false
set_option linter.unusedSimpArgs false
namespace Go.Hw
open Classical in
noncomputable def ordC (o : List Int) (cs : List Int) : List Int:=if o.Perm cs then o else cs
structure ViewI (cs : List Int) (t : FTie) (l : List FRes) (k : Nat) (b : FBr) : Prop where
  ok : BrOk b
  t : b.t = t
  first : clubsR (b.rs.headD []) = cs
  legs : (allLegs b).length = k
  mem : ∀ y ∈ allLegs b,y ∈ l
theorem ViewI.le {cs : List Int} {t : FTie} {l : List FRes} {k : Nat} {b : FBr} (h : ViewI cs t l k b) : k + 2 ≤ 2 * cs.length:=by
  have:=legs_lt h.ok
  rw [h.first,h.legs] at this
  exact this
end Go.Hw
set_option linter.unusedVariables false
set_option linter.unusedSimpArgs false
namespace Go.Hw
structure FSides where
  f : Int
  s : Int
  af : Int
  as' : Int
  pf : Int
  ps : Int
deriving DecidableEq
def sides0 : FSides:=⟨0,0,0,0,0,0⟩
def sideS (l : FSides) (i : Nat) (x : FRes) : FSides:=if i = 0 then ⟨l.f + x.hg,l.s + x.ag,l.af,l.as' + x.ag,x.hp,x.ap⟩ else ⟨l.f + x.ag,l.s + x.hg,l.af + x.ag,l.as',x.ap,x.hp⟩
def sideL : Nat → FSides → List FRes → FSides
  | _,l,[] => l
  | i,l,x :: r => sideL (i + 1) (sideS l i x) r
def sideD (d : FDuel) : FSides:=sideL 0 sides0 d.ls
theorem sideL_snoc : ∀ (ls : List FRes) (i : Nat) (l : FSides) (x : FRes),sideL i l (ls ++ [x]) = sideS (sideL i l ls) (i + ls.length) x
  | [],i,l,x => rfl
  | y :: r,i,l,x => by
    rw [List.cons_append]
    unfold sideL
    rw [sideL_snoc r,List.length_cons,show i + 1 + r.length = i + (r.length + 1) by omega]
def Leads (a : FLead) (b : FSides) : Prop:=a.goals = b.f - b.s ∧ a.away = b.af - b.as' ∧ a.pens = b.pf - b.ps
theorem leads_step {a : FLead} {b : FSides} (h : Leads a b) (i : Nat) (x : FRes) : Leads (leadS a i x) (sideS b i x):=by
  obtain ⟨h1,h2,h3⟩:=h
  unfold Leads leadS sideS
  by_cases hi : i = 0
  · rw [if_pos hi,if_pos hi];dsimp only;omega
  · rw [if_neg hi,if_neg hi];dsimp only;omega
theorem leads_all : ∀ (ls : List FRes) (i : Nat) (a : FLead) (b : FSides),Leads a b → Leads (leadL i a ls) (sideL i b ls)
  | [],_,_,_,h => h
  | x :: r,i,a,b,h => by
    unfold leadL sideL
    exact leads_all r (i + 1) _ _ (leads_step h i x)
theorem leads_d (d : FDuel) : Leads (leadD d) (sideD d):=leads_all d.ls 0 _ _ ⟨rfl,rfl,rfl⟩
def sideA (d : FDuel) (t : FTie) : Int × Int:=if (sideD d).f = (sideD d).s ∧ t.legs = 2 ∧ t.away = true then ((sideD d).af,(sideD d).as') else ((sideD d).f,(sideD d).s)
def sideP (d : FDuel) (t : FTie) : Int × Int:=if (sideA d t).1 = (sideA d t).2 then ((sideD d).pf,(sideD d).ps) else sideA d t
theorem sideP_lead (d : FDuel) (t : FTie) : leadN d t = (sideP d t).1 - (sideP d t).2:=by
  obtain ⟨h1,h2,h3⟩:=leads_d d
  unfold leadN sideP sideA
  generalize leadD d = a at *
  generalize sideD d = b at *
  by_cases k1 : a.goals = 0
  · have e1 : ¬ a.goals ≠ 0:=fun w => w k1
    by_cases k2 : t.legs = 2 ∧ t.away = true
    · have e2 : b.f = b.s ∧ t.legs = 2 ∧ t.away = true:=⟨by omega,k2⟩
      rw [if_neg e1,if_pos e2]
      dsimp only
      by_cases k3 : a.away = 0
      · have e3 : ¬ (t.legs = 2 ∧ t.away = true ∧ a.away ≠ 0):=fun w => w.2.2 k3
        have e4 : b.af = b.as':=by omega
        rw [if_neg e3,if_pos e4];exact h3
      · have e3 : t.legs = 2 ∧ t.away = true ∧ a.away ≠ 0:=⟨k2.1,k2.2,k3⟩
        have e4 : ¬ b.af = b.as':=by omega
        rw [if_pos e3,if_neg e4];exact h2
    · have e2 : ¬ (b.f = b.s ∧ t.legs = 2 ∧ t.away = true):=fun w => k2 w.2
      have e3 : ¬ (t.legs = 2 ∧ t.away = true ∧ a.away ≠ 0):=fun w => k2 ⟨w.1,w.2.1⟩
      have e4 : b.f = b.s:=by omega
      rw [if_neg e1,if_neg e2,if_neg e3]
      dsimp only
      rw [if_pos e4];exact h3
  · have e2 : ¬ (b.f = b.s ∧ t.legs = 2 ∧ t.away = true):=fun w => k1 (by omega)
    have e4 : ¬ b.f = b.s:=by omega
    rw [if_pos k1,if_neg e2]
    dsimp only
    rw [if_neg e4];exact h1
theorem decided_win {d : FDuel} {t : FTie} (h : FullD d t) : winD d t = if (sideP d t).2 < (sideP d t).1 then some d.a else if (sideP d t).1 < (sideP d t).2 then some d.b else none:=by
  unfold winD
  rw [if_pos h,sideP_lead]
  by_cases k1 : (sideP d t).2 < (sideP d t).1
  · rw [if_pos k1,if_pos (by omega)]
  · rw [if_neg k1,if_neg (by omega)]
    by_cases k2 : (sideP d t).1 < (sideP d t).2
    · rw [if_pos k2,if_pos (by omega)]
    · rw [if_neg k2,if_neg (by omega)]
theorem open_win {d : FDuel} {t : FTie} (h : ¬ FullD d t) : winD d t = none:=by unfold winD;rw [if_neg h]
theorem clubsOk_snoc {l : List Int} {x : Int} : ClubsOk (l ++ [x]) ↔ ClubsOk l ∧ Bel x 192 ∧ x ∉ l:=by
  unfold ClubsOk
  rw [List.nodup_append]
  constructor
  · rintro ⟨h1,h2,_,h3⟩
    exact ⟨⟨fun c hc => h1 c (by simp [hc]),h2⟩,h1 x (by simp),fun w => h3 x w x (by simp) rfl⟩
  · rintro ⟨⟨h1,h2⟩,h3,h4⟩
    refine ⟨fun c hc => ?_,h2,by simp,fun a ha b hb => ?_⟩
    · rcases List.mem_append.1 hc with w|w
      · exact h1 c w
      · rw [List.mem_singleton.1 w];exact h3
    · rw [List.mem_singleton.1 hb];exact fun w => h4 (w ▸ ha)
theorem clubsOk_pre {l r : List Int} (h : ClubsOk (l ++ r)) : ClubsOk l:=by
  unfold ClubsOk at *
  rw [List.nodup_append] at h
  exact ⟨fun c hc => h.1 c (by simp [hc]),h.2.1⟩
theorem pairD_app : ∀ (l : List Int) (a b : Int),l.length % 2 = 0 → pairD (l ++ [a,b]) = pairD l ++ [⟨a,b,[]⟩]
  | [],a,b,_ => rfl
  | [x],a,b,h => by simp at h
  | x :: y :: r,a,b,h => by
    rw [List.cons_append,List.cons_append]
    unfold pairD
    rw [pairD_app r a b (by simp at h;omega)]
    rfl
theorem pairD_odd : ∀ (l : List Int) (a : Int),l.length % 2 = 0 → pairD (l ++ [a]) = pairD l
  | [],a,_ => rfl
  | [x],a,h => by simp at h
  | x :: y :: r,a,h => by
    rw [List.cons_append,List.cons_append]
    unfold pairD
    rw [pairD_odd r a (by simp at h;omega)]
theorem winsR_snoc {t : FTie} (d : FDuel) : ∀ (l : List FDuel),winsR (l ++ [d]) t = match winsR l t,winD d t with
    | some cs,some c => some (cs ++ [c])
    | _,_ => none
  | [] => by
    rw [List.nil_append]
    unfold winsR
    cases winD d t <;> rfl
  | e :: r => by
    rw [List.cons_append]
    unfold winsR
    rw [winsR_snoc d r]
    cases winD e t <;> cases winsR r t <;> cases winD d t <;> rfl
theorem winsR_stop {t : FTie} {d : FDuel} {l : List FDuel} (hd : d ∈ l) (h : winD d t = none) : winsR l t = none:=by
  cases hw : winsR l t with
  | none => rfl
  | some cs => exact absurd h (winsR_all hw d hd)
theorem enterR_snoc {t : FTie} {x : FRes} (d : FDuel) : ∀ (l : List FDuel),enterR (l ++ [d]) t x = match enterR l t x with
    | some (q,e) => some (q ++ [d],e)
    | none => if WaitD d t x then some (l ++ [⟨d.a,d.b,d.ls ++ [x]⟩],⟨d.a,d.b,d.ls ++ [x]⟩) else none
  | [] => by
    rw [List.nil_append]
    unfold enterR
    split <;> rfl
  | e :: r => by
    rw [List.cons_append]
    unfold enterR
    by_cases h : WaitD e t x
    · rw [if_pos h,if_pos h];rfl
    · rw [if_neg h,if_neg h,enterR_snoc d r]
      cases enterR r t x with
      | some w => rfl
      | none =>
        dsimp only
        by_cases k : WaitD d t x
        · rw [if_pos k,if_pos k];rfl
        · rw [if_neg k,if_neg k]
theorem chain_ix {t : FTie} : ∀ {rs : List (List FDuel)},ChainOk t rs ↔ ∀ i,i < rs.length → (if i + 1 < rs.length then ∃ n,nextR (rs.getD i []) t = some n ∧ sameR n (rs.getD (i + 1) []) else nextR (rs.getD i []) t = none)
  | [] => ⟨fun _ i hi => (by simp at hi),fun _ => trivial⟩
  | [l] => by
    unfold ChainOk
    refine ⟨fun h i hi => ?_,fun h => ?_⟩
    · have : i = 0:=by simpa using hi
      subst this
      rw [if_neg (by simp)];exact h
    · have:=h 0 (by simp)
      rw [if_neg (by simp)] at this;exact this
  | l :: m :: r => by
    unfold ChainOk
    rw [chain_ix (rs:=m :: r)]
    constructor
    · rintro ⟨h1,h2⟩ i hi
      cases i with
      | zero => rw [if_pos (by simp)];exact h1
      | succ i =>
        have:=h2 i (by simpa using hi)
        by_cases k : i + 1 < (m :: r).length
        · rw [if_pos k] at this;rw [if_pos (by simpa using k)];exact this
        · rw [if_neg k] at this;rw [if_neg (by simpa using k)];exact this
    · intro h
      refine ⟨?_,fun i hi => ?_⟩
      · have:=h 0 (by simp)
        rw [if_pos (by simp)] at this;exact this
      · have:=h (i + 1) (by simpa using hi)
        by_cases k : i + 1 < (m :: r).length
        · rw [if_pos (by simpa using k)] at this;rw [if_pos k];exact this
        · rw [if_neg (by simpa using k)] at this;rw [if_neg k];exact this
theorem cup_head {l : List FRes} : (∀ x ∈ l,∀ y ∈ l,SameCup x y) ↔ ∀ x ∈ l,SameCup x (l.headD res0):=by
  cases l with
  | nil => exact ⟨fun _ x hx => (by cases hx),fun _ x hx => (by cases hx)⟩
  | cons a r =>
    refine ⟨fun h x hx => h x hx a (by simp),fun h x hx y hy => ?_⟩
    have h1:=h x hx
    have h2:=h y hy
    exact ⟨h1.1.trans h2.1.symm,h1.2.trans h2.2.symm⟩
end Go.Hw
set_option linter.unusedVariables false
set_option linter.unusedSimpArgs false
namespace Go.Hw
def ResBd (r : FRes) : Prop:=GameOk r.g ∧ Bel r.hg 100 ∧ Bel r.ag 100 ∧ Bel r.hp 100 ∧ Bel r.ap 100 ∧ Bel r.hc 121 ∧ Bel r.ac 121 ∧ Bel r.day 1048577
instance (r : FRes) : Decidable (ResBd r):=by unfold ResBd;infer_instance
def ResBad1 (r : FRes) : Prop:=(r.g.c < 8 ∧ 0 < r.hp + r.ap) ∨ (r.forf = true ∧ 0 < r.hp + r.ap + r.hc + r.ac)
def ResThree (r : FRes) : Prop:=(r.hg = 3 ∧ r.ag = 0) ∨ (r.hg = 0 ∧ r.ag = 3)
def ResBad2 (r : FRes) : Prop:=(r.forf = true ∧ r.both = false ∧ ¬ ResThree r) ∨ (r.both = true ∧ (r.forf = false ∨ 0 < r.hg + r.ag))
theorem resOk_ref (r : FRes) : ResOk r ↔ ResBd r ∧ ¬ ResBad1 r ∧ ¬ ResBad2 r:=by
  unfold ResOk ResBd ResBad1 ResBad2 ResThree
  by_cases hb : GameOk r.g ∧ Bel r.hg 100 ∧ Bel r.ag 100 ∧ Bel r.hp 100 ∧ Bel r.ap 100 ∧ Bel r.hc 121 ∧ Bel r.ac 121 ∧ Bel r.day 1048577
  · obtain ⟨h1,h2,h3,h4,h5,h6,h7,h8⟩:=hb
    simp only [h1,h2,h3,h4,h5,h6,h7,h8,true_and]
    unfold Bel at h2 h3 h4 h5 h6 h7
    cases hf : r.forf <;> cases ho : r.both <;> simp <;> omega
  · constructor
    · rintro ⟨h1,h2,h3,h4,h5,h6,h7,h8,_⟩
      exact absurd ⟨h1,h2,h3,h4,h5,h6,h7,h8⟩ hb
    · exact fun h => absurd h.1 hb
theorem clubsOk_take {l : List Int} {k : Nat} (hk : k < l.length) : ClubsOk (l.take (k + 1)) ↔ ClubsOk (l.take k) ∧ Bel (l.getD k 0) 192 ∧ ∀ i,i < k → l.getD k 0 ≠ l.getD i 0:=by
  have e : l.take (k + 1) = l.take k ++ [l.getD k 0]:=by
    rw [List.take_add_one,List.getElem?_eq_getElem hk,List.getD_eq_getElem?_getD,List.getElem?_eq_getElem hk];rfl
  rw [e,clubsOk_snoc]
  refine and_congr_right fun _ => and_congr_right fun _ => ?_
  constructor
  · intro h i hi w
    refine h ?_
    rw [w,List.getD_eq_getElem?_getD,List.getElem?_eq_getElem (by omega),Option.getD_some]
    exact List.mem_take_iff_getElem.2 ⟨i,by omega,rfl⟩
  · intro h w
    obtain ⟨i,hi,e2⟩:=List.mem_take_iff_getElem.1 w
    refine h i (by omega) ?_
    rw [← e2,List.getD_eq_getElem?_getD,List.getElem?_eq_getElem (by omega),Option.getD_some]
end Go.Hw
set_option linter.unusedVariables false
set_option linter.unusedSimpArgs false
namespace Go.Hw
def wonR (h a x y hp ap : Int) : FRes:={ res0 with g:=⟨0,8,h,a⟩,hg:=x,ag:=y,hp:=hp,ap:=ap }
def tie1 : FTie:=⟨1,false⟩
def tie2 : FTie:=⟨2,true⟩
def exD (hp ap : Int) : FDuel:=⟨1,2,[wonR 1 2 1 2 0 0,wonR 2 1 1 2 hp ap]⟩
theorem exD_ok {hp ap : Int} (h : (hp = 0 ∧ ap = 0) ∨ (hp = 4 ∧ ap = 3)) : DuelOk (exD hp ap) tie2:=by
  rcases h with ⟨rfl,rfl⟩|⟨rfl,rfl⟩
  all_goals
    refine ⟨by decide,fun x hx => ?_,fun i hi => ?_⟩
    · simp only [exD,List.mem_cons,List.not_mem_nil,or_false] at hx
      rcases hx with e|e <;> (rw [e];decide)
    · match i,hi with
      | 0,_ => exact ⟨rfl,rfl,by decide,rfl,rfl⟩
      | 1,_ => exact ⟨rfl,rfl,by decide,rfl,rfl⟩
theorem ex_draw : winnerE (exD 0 0) tie2 = (0,210):=by
  unfold winnerE
  rw [if_neg (fun k => k (checkD_zero.2 (exD_ok (by decide)))),show winD (exD 0 0) tie2 = none by decide]
theorem ex_pens : winnerE (exD 4 3) tie2 = (2,0):=winner_some.2 ⟨exD_ok (by decide),by decide⟩
theorem ex_three : newB [1,2,3] tie1 = (br0,190):=by decide
theorem ex_rules : newB [1,2] ⟨3,false⟩ = (br0,210):=by decide
theorem ex_openD : winnerE ⟨1,2,[]⟩ tie1 = (0,210):=by
  have h : DuelOk ⟨1,2,[]⟩ tie1:=⟨by decide,fun x hx => (by cases hx),fun i hi => (by simp at hi)⟩
  unfold winnerE
  rw [if_neg (fun k => k (checkD_zero.2 h)),show winD ⟨1,2,[]⟩ tie1 = none by decide]
theorem ex_empty : champB br0 = (0,false,210):=by
  unfold champB
  rw [if_neg (fun k => k.some rfl)]
def exB : FBr:=⟨tie1,[[⟨5,3,[]⟩]]⟩
def exY : FBr:=⟨tie1,[[⟨5,3,[wonR 5 3 0 1 0 0]⟩]]⟩
theorem ex_new : newB [5,3] tie1 = (exB,0):=by decide
theorem ex_enter : enterB exB (wonR 5 3 0 1 0 0) = (exY,0):=by
  have hb : BrOk exB:=by
    have:=(new_playI (cs:=[5,3]) (t:=tie1) (by rw [ex_new])).ok
    rw [ex_new] at this;exact this
  unfold enterB
  rw [if_pos hb,if_pos (by decide),show enterR (exB.rs.getLastD []) exB.t (wonR 5 3 0 1 0 0) = some ([⟨5,3,[wonR 5 3 0 1 0 0]⟩],⟨5,3,[wonR 5 3 0 1 0 0]⟩) by decide]
  dsimp only
  rw [if_pos ⟨by decide,fun y hy => (by cases hy),fun w => absurd w.2 (by decide)⟩]
  rfl
theorem ex_champ : champB exY = (3,true,0):=by
  have h:=(enter_played (b:=exB) (x:=wonR 5 3 0 1 0 0) (by rw [ex_enter])).2.ok
  rw [ex_enter] at h
  unfold champB
  rw [if_pos h]
  rfl
end Go.Hw
set_option linter.unusedVariables false
set_option linter.unusedSimpArgs false
namespace Go.Hw
def chunk2 : List Int → List (List Int)
  | a :: b :: r => [a,b] :: chunk2 r
  | [a] => [[a]]
  | [] => []
theorem chunk2_head : ∀ {l : List Int},l ≠ [] → chunk2 l = l.take 2 :: chunk2 (l.drop 2)
  | [],h => absurd rfl h
  | [_],_ => rfl
  | _ :: _ :: _,_ => rfl
theorem chunk2_split : ∀ (j : Nat) (l : List Int),2 * j ≤ l.length → chunk2 l = chunk2 (l.take (2 * j)) ++ chunk2 (l.drop (2 * j))
  | 0,l,_ => by rw [Nat.mul_zero,List.take_zero,List.drop_zero];rfl
  | j + 1,[],h => by simp at h
  | j + 1,[a],h => by simp at h;omega
  | j + 1,a :: b :: r,h => by
    have ih:=chunk2_split j r (by simp at h;omega)
    rw [show 2 * (j + 1) = 2 * j + 1 + 1 by omega,List.take_succ_cons,List.take_succ_cons,List.drop_succ_cons,List.drop_succ_cons]
    show [a,b] :: chunk2 r = ([a,b] :: chunk2 (r.take (2 * j))) ++ chunk2 (r.drop (2 * j))
    rw [ih];rfl
theorem chunk2_len : ∀ {l c : List Int},c ∈ chunk2 l → c.length = 1 ∨ c.length = 2
  | [],c,h => by cases h
  | [a],c,h => by rw [show chunk2 [a] = [[a]] from rfl,List.mem_singleton] at h;rw [h];exact .inl rfl
  | a :: b :: r,c,h => by
    rw [show chunk2 (a :: b :: r) = [a,b] :: chunk2 r from rfl] at h
    rcases List.mem_cons.1 h with e|e
    · rw [e];exact .inr rfl
    · exact chunk2_len e
theorem chunk2_at {l : List Int} {j : Nat} (h : 2 * j < l.length) : chunk2 l = chunk2 (l.take (2 * j)) ++ (l.drop (2 * j)).take 2 :: chunk2 (l.drop (2 * j + 2)):=by
  rw [chunk2_split j l (by omega),chunk2_head (l:=l.drop (2 * j)) (by intro e;have:=congrArg List.length e;rw [List.length_drop] at this;simp at this;omega),List.drop_drop]
theorem chunk2_take {l : List Int} {j : Nat} (h : 2 * j < l.length) : chunk2 (l.take (2 * j + 2)) = chunk2 (l.take (2 * j)) ++ [(l.drop (2 * j)).take 2]:=by
  rw [chunk2_split j (l.take (2 * j + 2)) (by rw [List.length_take];omega)]
  rw [List.take_take,show min (2 * j) (2 * j + 2) = 2 * j by omega,List.drop_take,show 2 * j + 2 - 2 * j = 2 by omega]
  rw [chunk2_head (l:=(l.drop (2 * j)).take 2) (by intro e;have:=congrArg List.length e;rw [List.length_take,List.length_drop] at this;simp at this;omega)]
  rw [List.take_take,show min 2 2 = 2 from rfl,List.drop_take]
  rfl
def joinC1 (c : List Int) : List FDuel:=match c with
  | [a,b] => [⟨a,b,[]⟩]
  | _ => []
def joinC (cs : List (List Int)) : List FDuel:=cs.flatMap joinC1
theorem joinC_snoc (cs : List (List Int)) (c : List Int) : joinC (cs ++ [c]) = joinC cs ++ joinC1 c:=by unfold joinC;rw [List.flatMap_append];simp
theorem joinC_chunk : ∀ l : List Int,joinC (chunk2 l) = pairD l
  | [] => rfl
  | [_] => rfl
  | a :: b :: r => by
    have:=joinC_chunk r
    show [⟨a,b,[]⟩] ++ joinC (chunk2 r) = _
    rw [this];rfl
theorem joinC_len : ∀ cs : List (List Int),(joinC cs).length ≤ cs.length
  | [] => Nat.le_refl _
  | c :: r => by
    have:=joinC_len r
    have h1 : (joinC1 c).length ≤ 1:=by unfold joinC1;split <;> simp
    show (joinC1 c ++ joinC r).length ≤ _
    rw [List.length_append,List.length_cons];omega
theorem chunk2_lenle : ∀ l : List Int,(chunk2 l).length ≤ l.length
  | [] => Nat.le_refl _
  | [_] => Nat.le_refl _
  | a :: b :: r => by
    have:=chunk2_lenle r
    show ([a,b] :: chunk2 r).length ≤ _
    simp only [List.length_cons];omega
end Go.Hw
set_option linter.unusedVariables false
set_option linter.unusedSimpArgs false
namespace Go.Hw
def legsR (l : List FDuel) : List FRes:=l.flatMap fun d => d.ls
theorem legsR_snoc (l : List FDuel) (d : FDuel) : legsR (l ++ [d]) = legsR l ++ d.ls:=by unfold legsR;rw [List.flatMap_append];simp
def legsL (rs : List (List FDuel)) : List FRes:=rs.flatMap legsR
theorem legsL_snoc (rs : List (List FDuel)) (l : List FDuel) : legsL (rs ++ [l]) = legsL rs ++ legsR l:=by unfold legsL;rw [List.flatMap_append];simp
theorem legsL_all (b : FBr) : allLegs b = legsL b.rs:=rfl
def DuelFit (t : FTie) (d : FDuel) : Prop:=DuelOk d t ∧ (FullD d t → (d.ls.length : Int) = t.legs → winD d t ≠ none)
def ChainAt (t : FTie) (rs : List (List FDuel)) (i : Nat) : Prop:=if i + 1 < rs.length then ∃ n,nextR (rs.getD i []) t = some n ∧ sameR n (rs.getD (i + 1) []) else nextR (rs.getD i []) t = none
theorem chain_at {t : FTie} {rs : List (List FDuel)} : ChainOk t rs ↔ ∀ i,i < rs.length → ChainAt t rs i:=chain_ix
theorem brOk_iff (b : FBr) : BrOk b ↔ IsTie b.t ∧ b.rs ≠ [] ∧ (newB (clubsR (b.rs.headD [])) b.t).2 = 0 ∧ (∀ l ∈ b.rs,RoundOk l b.t) ∧ (∀ i,i < b.rs.length → ChainAt b.t b.rs i) ∧ ∀ x ∈ legsL b.rs,SameCup x ((legsL b.rs).headD res0):=by
  have hn : ∀ l : List FDuel,IsTie b.t → ((newB (clubsR l) b.t).2 = 0 ↔ IsPow (2 * l.length) ∧ ClubsOk (clubsR l)):=fun l ht => by
    unfold newB
    rw [if_pos ht,clubsR_len]
    by_cases k : IsPow (2 * l.length) ∧ ClubsOk (clubsR l)
    · rw [if_pos k];exact ⟨fun _ => k,fun _ => rfl⟩
    · rw [if_neg k];exact ⟨fun h => absurd (show (190 : Int) = 0 from h) (by decide),fun h => absurd h k⟩
  constructor
  · intro h
    obtain ⟨l,r,e,h1,h2⟩:=h.clubs
    exact ⟨h.tie,h.some,by rw [e];exact (hn l h.tie).2 ⟨h1,h2⟩,h.rounds,chain_at.1 h.chain,cup_head.1 h.cup⟩
  · rintro ⟨h1,h2,h3,h4,h5,h6⟩
    refine ⟨h1,h2,?_,h4,chain_at.2 h5,cup_head.2 h6⟩
    cases e : b.rs with
    | nil => exact absurd e h2
    | cons l r =>
      rw [e] at h3
      obtain ⟨q1,q2⟩:=(hn l h1).1 h3
      exact ⟨l,r,rfl,q1,q2⟩
theorem newB_zero {cs : List Int} {t : FTie} (ht : IsTie t) : (newB cs t).2 = 0 ↔ IsPow cs.length ∧ ClubsOk cs:=by
  unfold newB
  rw [if_pos ht]
  by_cases k : IsPow cs.length ∧ ClubsOk cs
  · rw [if_pos k];exact ⟨fun _ => k,fun _ => rfl⟩
  · rw [if_neg k];exact ⟨fun h => absurd (show (190 : Int) = 0 from h) (by decide),fun h => absurd h k⟩
theorem legsR_len {l : List FDuel} (h : ∀ d ∈ l,d.ls.length ≤ 2) : (legsR l).length ≤ 2 * l.length:=by
  induction l with
  | nil => exact Nat.le_refl _
  | cons d r ih =>
    have h1:=h d (by simp)
    have h2:=ih fun x hx => h x (by simp [hx])
    show (d.ls ++ legsR r).length ≤ _
    rw [List.length_append,List.length_cons];omega
theorem legsL_len {rs : List (List FDuel)} {m : Nat} (h : ∀ l ∈ rs,∀ d ∈ l,d.ls.length ≤ 2) (hm : ∀ l ∈ rs,l.length ≤ m) : (legsL rs).length ≤ 2 * m * rs.length:=by
  induction rs with
  | nil => exact Nat.zero_le _
  | cons l r ih =>
    have h1:=legsR_len (h l (by simp))
    have h2:=ih (fun x hx => h x (by simp [hx])) fun x hx => hm x (by simp [hx])
    have h3:=hm l (by simp)
    show (legsR l ++ legsL r).length ≤ _
    rw [List.length_append,List.length_cons,Nat.mul_succ]
    have : 2 * l.length ≤ 2 * m:=Nat.mul_le_mul_left _ h3
    omega
theorem duelOk_len {d : FDuel} {t : FTie} (h : DuelOk d t) : d.ls.length ≤ 2:=by
  have h1:=h.ok0.1
  have h2:=h.ok0.2.2.2.2
  unfold IsTie at h1
  omega
end Go.Hw
set_option linter.unusedVariables false
set_option linter.unusedSimpArgs false
namespace Go.Hw
def waitAt (t : FTie) (x : FRes) : List FDuel → Nat → Int
  | [],_ => -1
  | d :: r,k => if WaitD d t x then k else waitAt t x r (k + 1)
theorem waitAt_none {t : FTie} {x : FRes} : ∀ {l : List FDuel} (k : Nat),enterR l t x = none → waitAt t x l k = -1
  | [],k,_ => rfl
  | d :: r,k,h => by
    unfold enterR at h
    unfold waitAt
    by_cases hw : WaitD d t x
    · rw [if_pos hw] at h;cases h
    · rw [if_neg hw] at h ⊢
      cases hr : enterR r t x with
      | none => exact waitAt_none (k + 1) hr
      | some w => rw [hr] at h;cases h
theorem waitAt_some {t : FTie} {x : FRes} : ∀ {l m : List FDuel} {e : FDuel} (k : Nat),enterR l t x = some (m,e) → ∃ i d,i < l.length ∧ waitAt t x l k = ((k + i : Nat) : Int) ∧ l[i]? = some d ∧ WaitD d t x ∧ e = ⟨d.a,d.b,d.ls ++ [x]⟩ ∧ m = l.set i e
  | [],_,_,k,h => by cases h
  | d :: r,m,e,k,h => by
    unfold enterR at h
    by_cases hw : WaitD d t x
    · rw [if_pos hw] at h
      cases h
      exact ⟨0,d,by simp,by unfold waitAt;rw [if_pos hw];rfl,rfl,hw,rfl,rfl⟩
    · rw [if_neg hw] at h
      cases hr : enterR r t x with
      | none => rw [hr] at h;cases h
      | some w =>
        obtain ⟨m2,e2⟩:=w
        rw [hr] at h
        cases h
        obtain ⟨i,d2,h1,h2,h3,h4,h5,h6⟩:=waitAt_some (k + 1) hr
        refine ⟨i + 1,d2,by simp;omega,?_,by simpa using h3,h4,h5,by rw [h6];rfl⟩
        unfold waitAt
        rw [if_neg hw,h2]
        congr 1;omega
theorem take_last {α : Type} {l : List (List α)} {n : Nat} (h : l.length = n) (h0 : 0 < n) : l.getLastD [] = l.getD (n - 1) [] ∧ l.dropLast = l.take (n - 1):=by
  subst h
  refine ⟨?_,List.dropLast_eq_take⟩
  rw [List.getLastD_eq_getLast?,List.getLast?_eq_getElem?,List.getD_eq_getElem?_getD]
theorem heads_all {rs : List (List FDuel)} {x : FRes} (hc : ∀ y ∈ legsL rs,∀ z ∈ legsL rs,SameCup y z) (hh : ∀ l ∈ rs,∀ d ∈ l,d.ls ≠ [] → SameCup (d.ls.headD res0) x) : ∀ y ∈ legsL rs,SameCup y x:=by
  intro y hy
  obtain ⟨l,hl,hy2⟩:=List.mem_flatMap.1 hy
  obtain ⟨d,hd,hy3⟩:=List.mem_flatMap.1 hy2
  have hne : d.ls ≠ []:=fun e => by rw [e] at hy3;cases hy3
  have h1:=hh l hl d hd hne
  have hm : d.ls.headD res0 ∈ d.ls:=by
    cases e : d.ls with
    | nil => exact absurd e hne
    | cons a r => simp
  have h2:=hc y hy (d.ls.headD res0) (List.mem_flatMap.2 ⟨l,hl,List.mem_flatMap.2 ⟨d,hd,hm⟩⟩)
  exact ⟨h2.1.trans h1.1,h2.2.trans h1.2⟩
theorem head_mem {rs : List (List FDuel)} {l : List FDuel} {d : FDuel} (hl : l ∈ rs) (hd : d ∈ l) (h : d.ls ≠ []) : d.ls.headD res0 ∈ legsL rs:=by
  refine List.mem_flatMap.2 ⟨l,hl,List.mem_flatMap.2 ⟨d,hd,?_⟩⟩
  cases e : d.ls with
  | nil => exact absurd e h
  | cons a r => simp
theorem enterB_bad {b : FBr} {x : FRes} (h : ¬ BrOk b) : enterB b x = (br0,210):=by unfold enterB;rw [if_neg h]
theorem enterB_res {b : FBr} {x : FRes} (h : BrOk b) (k : ¬ ResOk x) : enterB b x = (br0,1):=by unfold enterB;rw [if_pos h,if_neg k]
theorem enterB_none {b : FBr} {x : FRes} (h : BrOk b) (k : ResOk x) (e : enterR (b.rs.getLastD []) b.t x = none) : enterB b x = (br0,210):=by unfold enterB;rw [if_pos h,if_pos k,e]
theorem enterB_no {b : FBr} {x : FRes} (h : BrOk b) (k : ResOk x) {m : List FDuel} {d : FDuel} (e : enterR (b.rs.getLastD []) b.t x = some (m,d)) (c : ¬ (8 ≤ x.g.c ∧ (∀ y ∈ allLegs b,SameCup y x) ∧ ¬ (FullD d b.t ∧ winD d b.t = none))) : enterB b x = (br0,210):=by
  unfold enterB;rw [if_pos h,if_pos k,e];dsimp only;rw [if_neg c]
theorem enterB_yes {b : FBr} {x : FRes} (h : BrOk b) (k : ResOk x) {m : List FDuel} {d : FDuel} (e : enterR (b.rs.getLastD []) b.t x = some (m,d)) (c : 8 ≤ x.g.c ∧ (∀ y ∈ allLegs b,SameCup y x) ∧ ¬ (FullD d b.t ∧ winD d b.t = none)) : enterB b x = (⟨b.t,b.rs.dropLast ++ (m :: (nextR m b.t).toList)⟩,0):=by
  unfold enterB;rw [if_pos h,if_pos k,e];dsimp only;rw [if_pos c];cases nextR m b.t <;> rfl
end Go.Hw
