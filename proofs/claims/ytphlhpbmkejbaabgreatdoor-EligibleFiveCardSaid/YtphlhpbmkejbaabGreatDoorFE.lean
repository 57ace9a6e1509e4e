import Derived.Test.YtphlhpbmkejbaabGreatDoorFD
import Derived.Test.YtphlhpbmkejbaabGreatDoorFC
import Derived.Test.YtphlhpbmkejbaabGreatDoorFA
set_option linter.unusedVariables false
set_option linter.unusedSimpArgs false
namespace Go.Hw
open Go Go.Lib
structure FRes where
  g : FGame
  hg : Int
  ag : Int
  hp : Int
  ap : Int
  hc : Int
  ac : Int
  day : Int
  forf : Bool
  both : Bool
deriving DecidableEq,Inhabited
def res0 : FRes:=⟨game0,0,0,0,0,0,0,0,false,false⟩
def ResOk (r : FRes) : Prop :=
  GameOk r.g ∧ Bel r.hg 100 ∧ Bel r.ag 100 ∧ Bel r.hp 100 ∧ Bel r.ap 100 ∧ Bel r.hc 121 ∧ Bel r.ac 121 ∧ Bel r.day 1048577 ∧
  (r.g.c < 8 → r.hp + r.ap = 0) ∧
  (if r.forf = true then (if r.both = true then r.hg = 0 ∧ r.ag = 0 else (r.hg = 0 ∧ r.ag = 3) ∨ (r.hg = 3 ∧ r.ag = 0)) ∧ r.hp + r.ap + r.hc + r.ac = 0 else r.both = false)
instance (r : FRes) : Decidable (ResOk r):=by unfold ResOk;infer_instance
def LtR (a b : FRes) : Prop:=a.day < b.day ∨ (a.day = b.day ∧ (a.g.h < b.g.h ∨ (a.g.h = b.g.h ∧ a.g.a < b.g.a)))
instance (a b : FRes) : Decidable (LtR a b):=by unfold LtR;infer_instance
theorem LtR.trans (a b c : FRes) (h : LtR a b) (k : LtR b c) : LtR a c:=by unfold LtR at *;omega
end Go.Hw
set_option linter.unusedVariables false
set_option linter.unusedSimpArgs false
namespace Go.Hw
open Go Go.Lib
structure FTie where
  legs : Int
  away : Bool
deriving DecidableEq,Inhabited
structure FDuel where
  a : Int
  b : Int
  ls : List FRes
deriving DecidableEq,Inhabited
structure FBr where
  t : FTie
  rs : List (List FDuel)
deriving DecidableEq,Inhabited
def IsTie (t : FTie) : Prop:=t.legs = 1 ∨ t.legs = 2
instance (t : FTie) : Decidable (IsTie t):=by unfold IsTie;infer_instance
def legA (d : FDuel) (i : Nat) : Int:=if i = 0 then d.a else d.b
def legB (d : FDuel) (i : Nat) : Int:=if i = 0 then d.b else d.a
def SameCup (x y : FRes) : Prop:=x.g.s = y.g.s ∧ x.g.c = y.g.c
instance (x y : FRes) : Decidable (SameCup x y):=by unfold SameCup;infer_instance
def FullD (d : FDuel) (t : FTie) : Prop:=t.legs ≤ d.ls.length
instance (d : FDuel) (t : FTie) : Decidable (FullD d t):=by unfold FullD;infer_instance
structure FLead where
  goals : Int
  away : Int
  pens : Int
deriving DecidableEq
def leadS (l : FLead) (i : Nat) (x : FRes) : FLead:=if i = 0 then ⟨l.goals + (x.hg - x.ag),l.away - x.ag,x.hp - x.ap⟩ else ⟨l.goals + (x.ag - x.hg),l.away + x.ag,x.ap - x.hp⟩
def leadL : Nat → FLead → List FRes → FLead
  | _,l,[] => l
  | i,l,x :: r => leadL (i + 1) (leadS l i x) r
def leadD (d : FDuel) : FLead:=leadL 0 ⟨0,0,0⟩ d.ls
def leadN (d : FDuel) (t : FTie) : Int :=
  if (leadD d).goals ≠ 0 then (leadD d).goals
  else if t.legs = 2 ∧ t.away = true ∧ (leadD d).away ≠ 0 then (leadD d).away
  else (leadD d).pens
def winD (d : FDuel) (t : FTie) : Option Int:=if FullD d t then (if 0 < leadN d t then some d.a else if leadN d t < 0 then some d.b else none) else none
def DuelOk0 (d : FDuel) (t : FTie) : Prop:=IsTie t ∧ Bel d.a 192 ∧ Bel d.b 192 ∧ d.a ≠ d.b ∧ (d.ls.length : Int) ≤ t.legs
instance (d : FDuel) (t : FTie) : Decidable (DuelOk0 d t):=by unfold DuelOk0;infer_instance
def LegOk (d : FDuel) (i : Nat) (x : FRes) : Prop:=x.g.h = legA d i ∧ x.g.a = legB d i ∧ 8 ≤ x.g.c ∧ SameCup x (d.ls.headD res0)
instance (d : FDuel) (i : Nat) (x : FRes) : Decidable (LegOk d i x):=by unfold LegOk;infer_instance
def LegsOk (d : FDuel) : Prop:=∀ i,i < d.ls.length → LegOk d i (d.ls.getD i res0)
structure DuelOk (d : FDuel) (t : FTie) : Prop where
  ok0 : DuelOk0 d t
  res : ∀ x ∈ d.ls,ResOk x
  legs : LegsOk d
def pairD : List Int → List FDuel
  | a :: b :: r => ⟨a,b,[]⟩ :: pairD r
  | _ => []
def IsPow (n : Nat) : Prop:=n = 2 ∨ n = 4 ∨ n = 8 ∨ n = 16 ∨ n = 32 ∨ n = 64 ∨ n = 128
instance (n : Nat) : Decidable (IsPow n):=by unfold IsPow;infer_instance
def ClubsOk (cs : List Int) : Prop:=(∀ c ∈ cs,Bel c 192) ∧ cs.Nodup
instance (cs : List Int) : Decidable (ClubsOk cs):=by unfold ClubsOk;infer_instance
def winsR (l : List FDuel) (t : FTie) : Option (List Int):=match l with
  | [] => some []
  | d :: r => match winD d t,winsR r t with
    | some c,some cs => some (c :: cs)
    | _,_ => none
def nextR (l : List FDuel) (t : FTie) : Option (List FDuel):=match winsR l t with
  | some cs => if 2 ≤ cs.length then some (pairD cs) else none
  | none => none
def sameR (x y : List FDuel) : Prop:=x.map (fun d => (d.a,d.b)) = y.map fun d => (d.a,d.b)
instance (x y : List FDuel) : Decidable (sameR x y):=by unfold sameR;infer_instance
def RoundOk (l : List FDuel) (t : FTie) : Prop:=∀ d ∈ l,DuelOk d t ∧ (FullD d t → (d.ls.length : Int) = t.legs → winD d t ≠ none)
def ChainOk (t : FTie) : List (List FDuel) → Prop
  | [] => True
  | [l] => nextR l t = none
  | l :: m :: r => (∃ n,nextR l t = some n ∧ sameR n m) ∧ ChainOk t (m :: r)
def allLegs (b : FBr) : List FRes:=b.rs.flatMap fun l => l.flatMap fun d => d.ls
structure BrOk (b : FBr) : Prop where
  tie : IsTie b.t
  some : b.rs ≠ []
  clubs : ∃ l r,b.rs = l :: r ∧ IsPow (2 * l.length) ∧ ClubsOk (l.flatMap fun d => [d.a,d.b])
  rounds : ∀ l ∈ b.rs,RoundOk l b.t
  chain : ChainOk b.t b.rs
  cup : ∀ x ∈ allLegs b,∀ y ∈ allLegs b,SameCup x y
def WaitD (d : FDuel) (t : FTie) (x : FRes) : Prop:=¬ FullD d t ∧ x.g.h = legA d d.ls.length ∧ x.g.a = legB d d.ls.length
instance (d : FDuel) (t : FTie) (x : FRes) : Decidable (WaitD d t x):=by unfold WaitD;infer_instance
theorem win_club {d : FDuel} {t : FTie} {c : Int} (h : winD d t = some c) : c = d.a ∨ c = d.b:=by
  unfold winD at h
  split at h
  · split at h
    · cases h;exact .inl rfl
    · split at h
      · cases h;exact .inr rfl
      · cases h
  · cases h
end Go.Hw
set_option linter.unusedVariables false
set_option linter.unusedSimpArgs false
namespace Go.Hw
open Go Go.Lib
theorem foldl_perm {α β : Type} (f : β → α → β) (hf : ∀ z x y,f (f z x) y = f (f z y) x) {a b : List α} (h : a.Perm b) : ∀ z,a.foldl f z = b.foldl f z:=by
  induction h with
  | nil => intro z;rfl
  | cons x _ ih => intro z;rw [List.foldl_cons,List.foldl_cons];exact ih _
  | swap x y l => intro z;rw [List.foldl_cons,List.foldl_cons,List.foldl_cons,List.foldl_cons,hf]
  | trans _ _ i1 i2 => intro z;rw [i1,i2]
theorem yelC_perm {a b : List FScore} (h : a.Perm b) (p : Int) : yelC a p = yelC b p:=by
  unfold yelC
  exact foldl_perm _ (fun z x y => by omega) h 0
theorem redC_perm {a b : List FScore} (h : a.Perm b) (p : Int) : redC a p = redC b p:=by
  unfold redC
  exact foldl_perm _ (fun z x y => by split <;> split <;> rfl) h 0
theorem nodup_perm {α : Type} : ∀ {a b : List α},a.Nodup → b.Nodup → (∀ x,x ∈ a ↔ x ∈ b) → a.Perm b
  | [],b,_,_,h => by
    cases b with
    | nil => exact .nil
    | cons y r => exact absurd ((h y).2 List.mem_cons_self) (by simp)
  | x :: a,b,ha,hb,h => by
    obtain ⟨p,q,rfl⟩:=List.append_of_mem ((h x).1 List.mem_cons_self)
    rw [List.nodup_cons] at ha
    have hb2 : (x :: (p ++ q)).Nodup:=(List.perm_middle (a:=x) (l₁:=p) (l₂:=q)).nodup_iff.1 hb
    rw [List.nodup_cons] at hb2
    refine (List.Perm.cons x (nodup_perm ha.2 hb2.2 fun y => ?_)).trans List.perm_middle.symm
    have:=h y
    rw [List.mem_cons,List.mem_append,List.mem_cons] at this
    rw [List.mem_append]
    constructor
    · intro hy
      rcases this.1 (.inr hy) with w|w|w
      · exact .inl w
      · subst w;exact absurd hy ha.1
      · exact .inr w
    · intro hy
      have hy2 : y ∈ p ∨ y = x ∨ y ∈ q:=hy.elim .inl fun w => .inr (.inr w)
      rcases this.2 hy2 with w|w
      · subst w;exact absurd (List.mem_append.2 hy) hb2.1
      · exact w
theorem IsDec.perm {L : List Fct} {s c : Int} {ds xs : List FScore} (h : IsDec L s c ds) (hn : xs.Nodup) (hx : ∀ x,x ∈ xs ↔ ∃ g : FGame,g.s = s ∧ g.c = c ∧ scoreF L g = x ∧ x.kind = 2) : xs.Perm ds :=
  nodup_perm hn (h.1.imp fun {a b} hab e => by subst e;exact LtS.irrefl _ hab) fun x => (hx x).trans (h.2 x).symm
theorem redC_bd (ds : List FScore) (p : Int) : 0 ≤ redC ds p ∧ redC ds p ≤ (ds.length : Int):=by
  refine snocI (P:=fun ds => 0 ≤ redC ds p ∧ redC ds p ≤ (ds.length : Int)) ⟨by simp [redC],by simp [redC]⟩ (fun l x ih => ?_) ds
  rw [redC_snoc,List.length_append,List.length_singleton]
  split <;> omega
def timesC (S : List FSusp) (p : Int) : Int:=S.foldl (fun n t => if t.p = p then n + 1 else n) 0
theorem timesC_snoc (S : List FSusp) (t : FSusp) (p : Int) : timesC (S ++ [t]) p = if t.p = p then timesC S p + 1 else timesC S p:=by unfold timesC;rw [List.foldl_append];rfl
theorem timesC_eq (S : List FSusp) (p : Int) : timesC S p = ((S.filter fun t => decide (t.p = p)).length : Nat):=by
  refine snocI (P:=fun S => timesC S p = ((S.filter fun t => decide (t.p = p)).length : Nat)) rfl (fun l x ih => ?_) S
  rw [timesC_snoc,List.filter_append,List.length_append,ih]
  by_cases h : x.p = p <;> simp [h]
def EarlyB (L : List Fct) (t : FSusp) (g : FGame) : Prop:=(scoreF L g).kind = 2 ∧ (0 < (cardsF (scoreF L g).sh t.p).1 ∨ (cardsF (scoreF L g).sh t.p).2 = true) ∧ g ≠ t.g ∧ (scoreF L g).day ≤ (scoreF L t.g).day
theorem five_law {L : List Fct} (h32 : In32 L) {s c : Int} {ds xs : List FScore} (h : IsDec L s c ds) (hm : ∀ x ∈ ds,IsMem x.sh (memS x.sh)) (hn : xs.Nodup) (hx : ∀ x,x ∈ xs ↔ ∃ g : FGame,g.s = s ∧ g.c = c ∧ scoreF L g = x ∧ x.kind = 2) (p : Int) : timesC (suspC ds) p ≤ redC xs p + yelC xs p / 5:=by
  have k:=five_count h32 h hm p ds.length (Nat.le_refl _)
  rw [List.take_of_length_le (Nat.le_refl _)] at k
  have hp:=h.perm hn hx
  rw [redC_perm hp,yelC_perm hp,timesC_eq]
  exact k
end Go.Hw
set_option linter.unusedVariables false
set_option linter.unusedSimpArgs false
namespace Go.Hw
open Go Go.Lib
def clubsR (l : List FDuel) : List Int:=l.flatMap fun d => [d.a,d.b]
theorem clubsR_cons (d : FDuel) (l : List FDuel) : clubsR (d :: l) = d.a :: d.b :: clubsR l:=rfl
theorem clubsR_len (l : List FDuel) : (clubsR l).length = 2 * l.length:=by
  induction l with
  | nil => rfl
  | cons d r ih => rw [clubsR_cons,List.length_cons,List.length_cons,ih,List.length_cons];omega
theorem clubsR_same {x y : List FDuel} (h : sameR x y) : clubsR x = clubsR y:=by
  unfold sameR at h
  induction x generalizing y with
  | nil => cases y with
    | nil => rfl
    | cons d r => cases h
  | cons e q ih => cases y with
    | nil => cases h
    | cons d r =>
      rw [List.map_cons,List.map_cons,List.cons.injEq,Prod.mk.injEq] at h
      rw [clubsR_cons,clubsR_cons,h.1.1,h.1.2,ih h.2]
theorem sameR_len {x y : List FDuel} (h : sameR x y) : x.length = y.length:=by
  have:=congrArg List.length h
  simpa using this
theorem pairD_len : ∀ (cs : List Int),(pairD cs).length = cs.length / 2
  | [] => rfl
  | [_] => by simp [pairD]
  | a :: b :: r => by
    unfold pairD
    rw [List.length_cons,pairD_len r,List.length_cons,List.length_cons];omega
theorem pairD_clubs : ∀ (cs : List Int),cs.length % 2 = 0 → clubsR (pairD cs) = cs
  | [],_ => rfl
  | [_],h => absurd h (by simp)
  | a :: b :: r,h => by
    unfold pairD
    rw [clubsR_cons,pairD_clubs r (by simp only [List.length_cons] at h;omega)]
theorem winsR_len {t : FTie} : ∀ {l : List FDuel} {cs : List Int},winsR l t = some cs → cs.length = l.length
  | [],cs,h => by cases h;rfl
  | d :: r,cs,h => by
    unfold winsR at h
    cases hd : winD d t with
    | none => rw [hd] at h;cases h
    | some c =>
      cases hr : winsR r t with
      | none => rw [hd,hr] at h;cases h
      | some q =>
        rw [hd,hr] at h
        cases h
        rw [List.length_cons,List.length_cons,winsR_len hr]
def loseD (d : FDuel) (t : FTie) : Int:=match winD d t with|some c => d.a + d.b - c|none => 0
theorem winsR_perm {t : FTie} : ∀ {l : List FDuel} {cs : List Int},winsR l t = some cs → (clubsR l).Perm (cs ++ l.map fun d => loseD d t)
  | [],cs,h => by cases h;exact .nil
  | d :: r,cs,h => by
    unfold winsR at h
    cases hd : winD d t with
    | none => rw [hd] at h;cases h
    | some c =>
      cases hr : winsR r t with
      | none => rw [hd,hr] at h;cases h
      | some q =>
        rw [hd,hr] at h
        cases h
        have ih:=winsR_perm hr
        rw [clubsR_cons,List.map_cons,List.cons_append]
        have hl : loseD d t = d.a + d.b - c:=by unfold loseD;rw [hd]
        rw [hl]
        have h2 : (d.a :: d.b :: clubsR r).Perm (c :: (d.a + d.b - c) :: clubsR r):=by
          rcases win_club hd with e|e
          · rw [e,show d.a + d.b - d.a = d.b by omega]
          · rw [e,show d.a + d.b - d.b = d.a by omega];exact List.Perm.swap _ _ _
        refine h2.trans (List.Perm.cons c ?_)
        exact (List.Perm.cons _ ih).trans List.perm_middle.symm
theorem winsR_mem {t : FTie} {l : List FDuel} {cs : List Int} (h : winsR l t = some cs) : ∀ c ∈ cs,c ∈ clubsR l:=fun c hc => (winsR_perm h).mem_iff.2 (List.mem_append_left _ hc)
theorem winsR_clubs {t : FTie} {l : List FDuel} {cs : List Int} (h : winsR l t = some cs) (hc : ClubsOk (clubsR l)) : ClubsOk cs:=by
  refine ⟨fun c hm => hc.1 c (winsR_mem h c hm),?_⟩
  have:=(winsR_perm h).nodup_iff.1 hc.2
  rw [List.nodup_append] at this
  exact this.1
theorem nextR_some {t : FTie} {l n : List FDuel} (h : nextR l t = some n) : ∃ cs,winsR l t = some cs ∧ 2 ≤ cs.length ∧ n = pairD cs:=by
  unfold nextR at h
  cases hw : winsR l t with
  | none => rw [hw] at h;cases h
  | some cs =>
    rw [hw] at h
    dsimp only at h
    split at h
    · cases h;exact ⟨cs,rfl,by assumption,rfl⟩
    · cases h
def IsPow1 (n : Nat) : Prop:=n = 1 ∨ n = 2 ∨ n = 4 ∨ n = 8 ∨ n = 16 ∨ n = 32 ∨ n = 64
theorem pow_half {n : Nat} (h : IsPow (2 * n)) : IsPow1 n:=by unfold IsPow at h;unfold IsPow1;omega
structure RndOk (l : List FDuel) : Prop where
  clubs : ClubsOk (clubsR l)
  pow : IsPow1 l.length
theorem rnd_next {t : FTie} {l n m : List FDuel} (h : RndOk l) (hn : nextR l t = some n) (hs : sameR n m) : RndOk m ∧ 2 * m.length = l.length:=by
  obtain ⟨cs,hw,h2,rfl⟩:=nextR_some hn
  have hl:=winsR_len hw
  have hp:=h.pow
  have hm:=sameR_len hs
  rw [pairD_len] at hm
  unfold IsPow1 at hp
  have he : cs.length % 2 = 0:=by omega
  have hc : clubsR m = cs:=by rw [← clubsR_same hs,pairD_clubs cs he]
  refine ⟨⟨by rw [hc];exact winsR_clubs hw h.clubs,by unfold IsPow1;omega⟩,by omega⟩
theorem chain_rnd {t : FTie} : ∀ {rs : List (List FDuel)},ChainOk t rs → (∀ l r,rs = l :: r → RndOk l) → ∀ l ∈ rs,RndOk l
  | [],_,_,_,hl => by cases hl
  | [l],_,h0,m,hm => by rw [List.mem_singleton] at hm;rw [hm];exact h0 l [] rfl
  | l :: m :: r,hc,h0,x,hx => by
    unfold ChainOk at hc
    obtain ⟨⟨n,hn,hs⟩,hc2⟩:=hc
    rcases List.mem_cons.1 hx with e|e
    · rw [e];exact h0 l _ rfl
    · exact chain_rnd hc2 (fun a b e2 => by
        rw [List.cons.injEq] at e2
        rw [← e2.1]
        exact (rnd_next (h0 l _ rfl) hn hs).1) x e
theorem BrOk.rnd {b : FBr} (h : BrOk b) : ∀ l ∈ b.rs,RndOk l:=by
  obtain ⟨l,r,e,h1,h2⟩:=h.clubs
  refine chain_rnd h.chain fun l' r' e' => ?_
  rw [e,List.cons.injEq] at e'
  rw [← e'.1]
  exact ⟨h2,pow_half h1⟩
theorem chain_sum {t : FTie} : ∀ {rs : List (List FDuel)},ChainOk t rs → (∀ l ∈ rs,RndOk l) → (rs.flatMap id).length + 1 ≤ 2 * (rs.headD []).length ∨ rs = []
  | [],_,_ => .inr rfl
  | [l],_,h => .inl (by
    have:=(h l (by simp)).pow
    unfold IsPow1 at this
    simp;omega)
  | l :: m :: r,hc,h => .inl (by
    unfold ChainOk at hc
    obtain ⟨⟨n,hn,hs⟩,hc2⟩:=hc
    have ih:=chain_sum hc2 fun x hx => h x (List.mem_cons_of_mem _ hx)
    have h2:=(rnd_next (h l (by simp)) hn hs).2
    rcases ih with ih|ih
    · rw [List.flatMap_cons,List.length_append]
      simp only [List.headD_cons,id] at ih ⊢
      omega
    · cases ih)
theorem legs_le (b : FBr) (h : BrOk b) : ((allLegs b).length : Int) ≤ b.t.legs * ((b.rs.flatMap id).length : Int):=by
  have key : ∀ ds : List FDuel,(∀ d ∈ ds,(d.ls.length : Int) ≤ b.t.legs) → ((ds.flatMap fun d => d.ls).length : Int) ≤ b.t.legs * (ds.length : Int):=by
    intro ds
    induction ds with
    | nil => intro _;simp
    | cons d r ih =>
      intro hd
      have h1:=hd d (by simp)
      have h2:=ih fun x hx => hd x (by simp [hx])
      rw [List.flatMap_cons,List.length_append,List.length_cons]
      have : b.t.legs * ((r.length + 1 : Nat) : Int) = b.t.legs * (r.length : Int) + b.t.legs:=by rw [show ((r.length + 1 : Nat) : Int) = (r.length : Int) + 1 by omega,Int.mul_add,Int.mul_one]
      omega
  have e : allLegs b = (b.rs.flatMap id).flatMap fun d => d.ls:=by
    unfold allLegs
    rw [List.flatMap_assoc];rfl
  rw [e]
  refine key _ fun d hd => ?_
  obtain ⟨l,hl,hd2⟩:=List.mem_flatMap.1 hd
  exact ((h.rounds l hl d hd2).1.ok0).2.2.2.2
theorem legs_lt {b : FBr} (h : BrOk b) : (allLegs b).length + 2 ≤ 2 * (clubsR (b.rs.headD [])).length:=by
  have h1:=legs_le b h
  have h2:=chain_sum h.chain h.rnd
  have h3:=h.tie
  rw [clubsR_len]
  rcases h2 with h2|h2
  · rcases h3 with e|e
    · rw [e] at h1;omega
    · rw [e] at h1;omega
  · exact absurd h2 h.some
end Go.Hw
set_option linter.unusedVariables false
set_option linter.unusedSimpArgs false
namespace Go.Hw
open Go Go.Lib
end Go.Hw
set_option linter.unusedVariables false
set_option linter.unusedSimpArgs false
namespace Go.Hw
open Go Go.Lib
def Cup8 (b : FBr) : Prop:=∀ y ∈ allLegs b,y.g.s = 0 ∧ y.g.c = 8
structure Played (b y : FBr) (x : FRes) : Prop where
  ok : BrOk y
  t : y.t = b.t
  legs : (allLegs y).length = (allLegs b).length + 1
  first : clubsR (y.rs.headD []) = clubsR (b.rs.headD [])
  grow : b.rs.length ≤ y.rs.length ∧ y.rs.length ≤ b.rs.length + 1
  same : ∀ i,i + 1 < b.rs.length → y.rs.getD i [] = b.rs.getD i []
  mem : ∀ z ∈ allLegs y,z = x ∨ z ∈ allLegs b
end Go.Hw
set_option linter.unusedVariables false
set_option linter.unusedSimpArgs false
namespace Go.Hw
end Go.Hw
set_option linter.unusedVariables false
set_option linter.unusedSimpArgs false
namespace Go.Hw
end Go.Hw
set_option linter.unusedVariables false
set_option linter.unusedSimpArgs false
namespace Go.Hw
structure PlayI (cs : List Int) (t : FTie) (k : Nat) (b : FBr) : Prop where
  ok : BrOk b
  t : b.t = t
  cup : Cup8 b
  first : clubsR (b.rs.headD []) = cs
  legs : (allLegs b).length = k
theorem PlayI.le {cs : List Int} {t : FTie} {k : Nat} {b : FBr} (h : PlayI cs t k b) : k + 2 ≤ 2 * cs.length:=by
  have:=legs_lt h.ok
  rw [h.first,h.legs] at this
  exact this
end Go.Hw
set_option linter.unusedVariables false
set_option linter.unusedSimpArgs false
namespace Go.Hw
open Classical in
noncomputable def ordC (o : List Int) (cs : List Int) : List Int:=if o.Perm cs then o else cs
structure ViewI (cs : List Int) (t : FTie) (l : List FRes) (k : Nat) (b : FBr) : Prop where
  ok : BrOk b
  t : b.t = t
  first : clubsR (b.rs.headD []) = cs
  legs : (allLegs b).length = k
  mem : ∀ y ∈ allLegs b,y ∈ l
theorem ViewI.le {cs : List Int} {t : FTie} {l : List FRes} {k : Nat} {b : FBr} (h : ViewI cs t l k b) : k + 2 ≤ 2 * cs.length:=by
  have:=legs_lt h.ok
  rw [h.first,h.legs] at this
  exact this
end Go.Hw
set_option linter.unusedVariables false
set_option linter.unusedSimpArgs false
namespace Go.Hw
structure FSides where
  f : Int
  s : Int
  af : Int
  as' : Int
  pf : Int
  ps : Int
deriving DecidableEq
end Go.Hw
set_option linter.unusedVariables false
set_option linter.unusedSimpArgs false
namespace Go.Hw
def ResBd (r : FRes) : Prop:=GameOk r.g ∧ Bel r.hg 100 ∧ Bel r.ag 100 ∧ Bel r.hp 100 ∧ Bel r.ap 100 ∧ Bel r.hc 121 ∧ Bel r.ac 121 ∧ Bel r.day 1048577
instance (r : FRes) : Decidable (ResBd r):=by unfold ResBd;infer_instance
end Go.Hw
set_option linter.unusedVariables false
set_option linter.unusedSimpArgs false
namespace Go.Hw
end Go.Hw
set_option linter.unusedVariables false
set_option linter.unusedSimpArgs false
namespace Go.Hw
end Go.Hw
set_option linter.unusedVariables false
set_option linter.unusedSimpArgs false
namespace Go.Hw
end Go.Hw
set_option linter.unusedVariables false
set_option linter.unusedSimpArgs false
namespace Go.Hw
end Go.Hw
