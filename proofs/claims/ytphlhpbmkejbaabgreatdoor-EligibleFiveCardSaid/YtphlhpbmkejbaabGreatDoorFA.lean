import Derived.Lib.ItoaNum
import Derived.Lib.ItoaMem
set_option linter.unusedSimpArgs false
set_option linter.unusedVariables false
namespace Go.Hw
open Go Go.Lib
def undig (l : List UInt8) : Nat:=l.foldl (fun a d => 10 * a + (d.toNat - 48)) 0
theorem undig_snoc (l : List UInt8) (d : UInt8) : undig (l ++ [d]) = 10 * undig l + (d.toNat - 48):=by
  unfold undig;rw [List.foldl_append];rfl
theorem undig_dec (u : Nat) : undig (decDigits u) = u:=by
  induction u using Nat.strongRecOn with
  | _ u ih =>
    rw [decDigits]
    split
    · rename_i h
      have : (UInt8.ofNat (48 + u)).toNat = 48 + u:=by rw [UInt8.toNat_ofNat'];omega
      simp [undig];omega
    · rename_i h
      rw [undig_snoc,ih (u / 10) (by omega)]
      have : (UInt8.ofNat (48 + u % 10)).toNat = 48 + u % 10:=by rw [UInt8.toNat_ofNat'];omega
      rw [this];omega
theorem dec_inj {u v : Nat} (h : decDigits u = decDigits v) : u = v:=by rw [← undig_dec u,h,undig_dec]
def Dig (c : UInt8) : Prop:=c = 45 ∨ (48 ≤ c.toNat ∧ c.toNat ≤ 57)
theorem dec_dig (u : Nat) : ∀ c ∈ decDigits u,48 ≤ c.toNat ∧ c.toNat ≤ 57:=by
  induction u using Nat.strongRecOn with
  | _ u ih =>
    rw [decDigits]
    split
    · rename_i h
      intro c hc
      rw [List.mem_singleton] at hc;subst hc
      rw [UInt8.toNat_ofNat'];omega
    · rename_i h
      intro c hc
      rw [List.mem_append,List.mem_singleton] at hc
      rcases hc with hc|hc
      · exact ih (u / 10) (by omega) c hc
      · subst hc;rw [UInt8.toNat_ofNat'];omega
theorem itoa_dig (n : Int) : ∀ c ∈ itoa n,Dig c:=by
  unfold itoa
  split
  · intro c hc
    rw [List.mem_cons] at hc
    rcases hc with hc|hc
    · exact .inl hc
    · exact .inr (dec_dig _ c hc)
  · exact fun c hc => .inr (dec_dig _ c hc)
theorem itoa_inj {m n : Int} (h : itoa m = itoa n) : m = n:=by
  have key : ∀ u v,(45 : UInt8) :: decDigits u ≠ decDigits v:=fun u v e => by
    have h1:=dec_dig v 45 (by rw [← e];simp)
    have : (45 : UInt8).toNat = 45:=rfl
    omega
  unfold itoa at h
  split at h <;> split at h
  · have:=dec_inj (List.cons.inj h).2;omega
  · exact absurd h (key _ _)
  · exact absurd h.symm (key _ _)
  · have:=dec_inj h;omega
def SD {α : Type} (P : α → Prop) (e : α → List UInt8) : Prop:=∀ a b s t,P a → P b → e a ++ s = e b ++ t → a = b ∧ s = t
theorem SD.mono {α : Type} {P Q : α → Prop} {e : α → List UInt8} (h : SD Q e) (hp : ∀ a,P a → Q a) : SD P e:=fun a b s t ha hb => h a b s t (hp a ha) (hp b hb)
theorem SD.inj {α : Type} {P : α → Prop} {e : α → List UInt8} (h : SD P e) {a b : α} (ha : P a) (hb : P b) (he : e a = e b) : a = b :=
  (h a b [] [] ha hb (by rw [he])).1
theorem upto_inj {x : UInt8} : ∀ {a b s t : List UInt8},x ∉ a → x ∉ b → a ++ x :: s = b ++ x :: t → a = b ∧ s = t
  | [],[],_,_,_,_,h => ⟨rfl,(List.cons.inj h).2⟩
  | [],c :: b,_,_,_,hb,h => by
    have:=(List.cons.inj h).1;subst this;exact absurd List.mem_cons_self hb
  | c :: a,[],_,_,ha,_,h => by
    have:=(List.cons.inj h).1;subst this;exact absurd List.mem_cons_self ha
  | c :: a,d :: b,s,t,ha,hb,h => by
    obtain ⟨h1,h2⟩:=List.cons.inj h
    subst h1
    obtain ⟨rfl,h3⟩:=upto_inj (fun hh => ha (List.mem_cons_of_mem _ hh)) (fun hh => hb (List.mem_cons_of_mem _ hh)) h2
    exact ⟨rfl,h3⟩
theorem not_dig {c : UInt8} (h1 : c ≠ 45) (h2 : 57 < c.toNat) (n : Int) : c ∉ itoa n:=fun h => by
  rcases itoa_dig n c h with h|h
  · exact h1 h
  · omega
def bInt (n : Int) : List UInt8:=105 :: (itoa n ++ [101])
def bText (s : List UInt8) : List UInt8:=itoa s.length ++ 58 :: s
theorem bInt_sd : SD (fun _ => True) bInt:=by
  intro a b s t _ _ h
  unfold bInt at h
  rw [List.cons_append,List.cons_append,List.append_assoc,List.append_assoc] at h
  obtain ⟨h1,h2⟩:=upto_inj (not_dig (by decide) (by decide) a) (not_dig (by decide) (by decide) b) (List.cons.inj h).2
  exact ⟨itoa_inj h1,h2⟩
theorem bText_sd : SD (fun _ => True) bText:=by
  intro a b s t _ _ h
  unfold bText at h
  rw [List.append_assoc,List.append_assoc,List.cons_append,List.cons_append] at h
  obtain ⟨h1,h2⟩:=upto_inj (not_dig (by decide) (by decide) _) (not_dig (by decide) (by decide) _) h
  have h3:=itoa_inj h1
  exact List.append_inj h2 (by omega)
def bList {α : Type} (e : α → List UInt8) (l : List α) : List UInt8:=108 :: (l.flatMap e ++ [101])
def Opens (e : List UInt8) : Prop:=∃ c r,e = c :: r ∧ c ≠ 101
theorem bList_sd {α : Type} {P : α → Prop} {e : α → List UInt8} (he : SD P e) (ho : ∀ a,P a → Opens (e a)) : SD (fun l => ∀ a ∈ l,P a) (bList e):=by
  have key : ∀ (a b : List α) (s t : List UInt8),(∀ x ∈ a,P x) → (∀ x ∈ b,P x) → a.flatMap e ++ 101 :: s = b.flatMap e ++ 101 :: t → a = b ∧ s = t:=by
    intro a
    induction a with
    | nil =>
      intro b s t _ hb h
      cases b with
      | nil => exact ⟨rfl,(List.cons.inj h).2⟩
      | cons y b =>
        obtain ⟨c,r,h1,h2⟩:=ho y (hb y List.mem_cons_self)
        rw [List.flatMap_cons,h1] at h
        exact absurd (List.cons.inj h).1.symm h2
    | cons x a ih =>
      intro b s t ha hb h
      cases b with
      | nil =>
        obtain ⟨c,r,h1,h2⟩:=ho x (ha x List.mem_cons_self)
        rw [List.flatMap_cons,h1] at h
        exact absurd (List.cons.inj h).1 h2
      | cons y b =>
        rw [List.flatMap_cons,List.flatMap_cons,List.append_assoc,List.append_assoc] at h
        obtain ⟨rfl,h2⟩:=he x y _ _ (ha x List.mem_cons_self) (hb y List.mem_cons_self) h
        obtain ⟨rfl,h3⟩:=ih b s t (fun z hz => ha z (List.mem_cons_of_mem _ hz)) (fun z hz => hb z (List.mem_cons_of_mem _ hz)) h2
        exact ⟨rfl,h3⟩
  intro a b s t ha hb h
  unfold bList at h
  rw [List.cons_append,List.cons_append,List.append_assoc,List.append_assoc] at h
  exact key a b s t ha hb (List.cons.inj h).2
theorem bInt_opens (n : Int) : Opens (bInt n):=⟨105,_,rfl,by decide⟩
theorem bList_opens {α : Type} (e : α → List UInt8) (l : List α) : Opens (bList e l):=⟨108,_,rfl,by decide⟩
def cmpI (a b : Int) : Int:=if a < b then -1 else if b < a then 1 else 0
def cmpB : List UInt8 → List UInt8 → Int
  | [],[] => 0
  | [],_ :: _ => -1
  | _ :: _,[] => 1
  | a :: x,b :: y => if a.toNat < b.toNat then -1 else if b.toNat < a.toNat then 1 else cmpB x y
theorem cmpB_eq : ∀ {a b : List UInt8},cmpB a b = 0 ↔ a = b
  | [],[] => by simp [cmpB]
  | [],_ :: _ => by simp [cmpB]
  | _ :: _,[] => by simp [cmpB]
  | a :: x,b :: y => by
    have ih:=@cmpB_eq x y
    unfold cmpB
    constructor
    · intro h
      split at h
      · cases h
      · split at h
        · cases h
        · have : a = b:=UInt8.toNat_inj.1 (by omega)
          rw [this,ih.1 h]
    · intro h
      obtain ⟨h1,h2⟩:=List.cons.inj h
      subst h1
      rw [if_neg (by omega),if_neg (by omega)];exact ih.2 h2
theorem cmpB_swap : ∀ (a b : List UInt8),cmpB b a = - cmpB a b
  | [],[] => by simp [cmpB]
  | [],_ :: _ => by simp [cmpB]
  | _ :: _,[] => by simp [cmpB]
  | a :: x,b :: y => by
    have ih:=cmpB_swap x y
    unfold cmpB
    by_cases h1 : a.toNat < b.toNat
    · rw [if_neg (by omega),if_pos h1,if_pos h1];rfl
    · by_cases h2 : b.toNat < a.toNat
      · rw [if_pos h2,if_neg h1,if_pos h2]
      · rw [if_neg h2,if_neg h1,if_neg h1,if_neg h2];exact ih
theorem cmpB_trans : ∀ {a b c : List UInt8},cmpB a b < 0 → cmpB b c < 0 → cmpB a c < 0
  | [],[],_,h,_ => by simp [cmpB] at h
  | _ :: _,[],_,h,_ => by simp [cmpB] at h
  | _,_ :: _,[],_,h => by simp [cmpB] at h
  | [],_ :: _,_ :: _,_,_ => by simp [cmpB]
  | a :: x,b :: y,c :: z,h1,h2 => by
    have ih:=@cmpB_trans x y z
    unfold cmpB at h1 h2 ⊢
    split at h1
    · split at h2
      · rw [if_pos (by omega)];decide
      · split at h2
        · omega
        · rw [if_pos (by omega)];decide
    · split at h1
      · omega
      · split at h2
        · rw [if_pos (by omega)];decide
        · split at h2
          · omega
          · rw [if_neg (by omega),if_neg (by omega)];exact ih h1 h2
end Go.Hw
set_option linter.unusedVariables false
namespace Go.Hw
open Go Go.Lib
structure FGame where
  s : Int
  c : Int
  h : Int
  a : Int
deriving DecidableEq,Inhabited
structure FCard where
  p : Int
  red : Bool
deriving DecidableEq,Inhabited
structure FSheet where
  g : FGame
  ref : Int
  hg : Int
  ag : Int
  hp : Int
  ap : Int
  hs : List Int
  asn : List Int
  hc : List FCard
  ac : List FCard
deriving DecidableEq,Inhabited
structure FRul where
  case : Int
  inst : Int
  kind : Int
  g : FGame
  club : Int
  player : Int
  season : Int
  comp : Int
  points : Int
  amount : Int
  hg : Int
  ag : Int
  lo : Int
  hi : Int
deriving DecidableEq,Inhabited
structure Fct where
  kind : Int
  day : Int
  known : Int
  eS : Int
  eC : Int
  eClubs : List Int
  eRules : List UInt8
  fg : FGame
  venue : Int
  sh : FSheet
  ru : FRul
  aCase : Int
  aInst : Int
  aSusp : Bool
  mP : Int
  mTo : Int
  lS : Int
  lC : Int
  lO : List Int
  void : List UInt8
deriving DecidableEq,Inhabited
def game0 : FGame:=⟨0,0,0,0⟩
def sheet0 : FSheet:=⟨game0,0,0,0,0,0,[],[],[],[]⟩
def rul0 : FRul:=⟨0,0,0,game0,0,0,0,0,0,0,0,0,0,0⟩
def fct0 : Fct:=⟨0,0,0,0,0,[],[],game0,0,sheet0,rul0,0,0,false,0,0,0,0,[],List.replicate 32 0⟩
def Bel (n most : Int) : Prop:=0 ≤ n ∧ n < most
def GameOk (g : FGame) : Prop:=Bel g.s 64 ∧ Bel g.c 16 ∧ Bel g.h 192 ∧ Bel g.a 192 ∧ g.h ≠ g.a
def IncrL (l : List Int) : Prop:=l.Pairwise (· < ·)
def NameOk (s : List UInt8) : Prop:=s ≠ [] ∧ s.length ≤ 24 ∧ (∀ c,s.head? = some c → 97 ≤ c.toNat ∧ c.toNat ≤ 122) ∧ ∀ c ∈ s,(97 ≤ c.toNat ∧ c.toNat ≤ 122) ∨ (48 ≤ c.toNat ∧ c.toNat ≤ 57) ∨ c.toNat = 95
def SquadOk (l : List Int) : Prop:=l.length ≤ 40 ∧ (∀ p ∈ l,Bel p 8192) ∧ IncrL l
def CardsOk (l : List FCard) (sq : List Int) : Prop:=l.length ≤ 40 ∧ ∀ c ∈ l,c.p ∈ sq
def SheetOk (x : FSheet) : Prop :=
  GameOk x.g ∧ Bel x.ref 2 ∧ Bel x.hg 100 ∧ Bel x.ag 100 ∧
  ((x.hp = 0 ∧ x.ap = 0) ∨ (8 ≤ x.g.c ∧ Bel x.hp 100 ∧ Bel x.ap 100 ∧ x.hp ≠ x.ap)) ∧
  SquadOk x.hs ∧ SquadOk x.asn ∧ CardsOk x.hc x.hs ∧ CardsOk x.ac x.asn ∧ ∀ p ∈ x.hs,p ∉ x.asn
def EntOk (x : Fct) : Prop :=
  Bel x.eS 64 ∧ Bel x.eC 16 ∧ (2 ≤ x.eClubs.length ∧ x.eClubs.length ≤ 24 ∧ ∀ c ∈ x.eClubs,Bel c 192) ∧ IncrL x.eClubs ∧ (if x.eC < 8 then NameOk x.eRules else x.eRules = [])
def LotOk (x : Fct) : Prop:=Bel x.lS 64 ∧ Bel x.lC 16 ∧ (2 ≤ x.lO.length ∧ x.lO.length ≤ 24 ∧ ∀ c ∈ x.lO,Bel c 192) ∧ x.lO.Nodup
def DaysOk (lo hi : Int) : Prop:=0 ≤ lo ∧ lo ≤ hi ∧ hi ≤ 1048576
def onlyR (r : FRul) : FRul :=
  let z : FRul:={ rul0 with case:=r.case,inst:=r.inst,kind:=r.kind }
  if r.kind = 1 then { z with g:=r.g,club:=r.club }
  else if r.kind = 2 then { z with g:=r.g }
  else if r.kind = 3 then { z with g:=r.g,hg:=r.hg,ag:=r.ag }
  else if r.kind = 4 then { z with club:=r.club,season:=r.season,comp:=r.comp,points:=r.points }
  else if r.kind = 5 then { z with club:=r.club,lo:=r.lo,hi:=r.hi }
  else if r.kind = 6 then { z with player:=r.player,lo:=r.lo,hi:=r.hi }
  else if r.kind = 7 then { z with club:=r.club,amount:=r.amount }
  else z
def RulGood (r : FRul) : Prop :=
  if r.kind = 1 then GameOk r.g ∧ (r.club = r.g.h ∨ r.club = r.g.a)
  else if r.kind = 2 then GameOk r.g
  else if r.kind = 3 then GameOk r.g ∧ Bel r.hg 100 ∧ Bel r.ag 100
  else if r.kind = 4 then Bel r.club 192 ∧ Bel r.season 64 ∧ Bel r.comp 16 ∧ 1 ≤ r.points ∧ r.points ≤ 99
  else if r.kind = 5 then Bel r.club 192 ∧ DaysOk r.lo r.hi
  else if r.kind = 6 then Bel r.player 8192 ∧ DaysOk r.lo r.hi
  else if r.kind = 7 then Bel r.club 192 ∧ 1 ≤ r.amount ∧ r.amount ≤ 1125899906842624
  else r.kind = 8
def RulOk (r : FRul) : Prop:=1 ≤ r.case ∧ r.case ≤ 1048576 ∧ 1 ≤ r.inst ∧ r.inst ≤ 3 ∧ RulGood r ∧ onlyR r = r
def onlyF (f : Fct) : Fct :=
  let z : Fct:={ fct0 with kind:=f.kind,day:=f.day,known:=f.known }
  if f.kind = 1 then { z with eS:=f.eS,eC:=f.eC,eClubs:=f.eClubs,eRules:=f.eRules }
  else if f.kind = 2 then { z with fg:=f.fg,venue:=f.venue }
  else if f.kind = 3 then { z with sh:=f.sh }
  else if f.kind = 4 then { z with ru:=f.ru }
  else if f.kind = 5 then { z with aCase:=f.aCase,aInst:=f.aInst,aSusp:=f.aSusp }
  else if f.kind = 6 then { z with mP:=f.mP,mTo:=f.mTo }
  else if f.kind = 7 then { z with lS:=f.lS,lC:=f.lC,lO:=f.lO }
  else { z with void:=f.void }
def ContOk (f : Fct) : Prop :=
  if f.kind = 1 then EntOk f
  else if f.kind = 2 then GameOk f.fg ∧ Bel f.venue 4096
  else if f.kind = 3 then SheetOk f.sh
  else if f.kind = 4 then RulOk f.ru
  else if f.kind = 5 then 1 ≤ f.aCase ∧ f.aCase ≤ 1048576 ∧ 1 ≤ f.aInst ∧ f.aInst < 3
  else if f.kind = 6 then Bel f.mP 8192 ∧ (f.mTo = -1 ∨ Bel f.mTo 192)
  else if f.kind = 7 then LotOk f
  else f.kind = 8
def FctOk (f : Fct) : Prop:=Bel f.day 1048577 ∧ Bel f.known 1048577 ∧ ContOk f ∧ onlyF f = f
def bNums (l : List Int) : List UInt8:=bList bInt l
def gameL (g : FGame) : List Int:=[g.s,g.c,g.h,g.a]
def cardL (c : FCard) : List Int:=[c.p,if c.red then 1 else 0]
def bCards (l : List FCard) : List UInt8:=bList (fun c => bNums (cardL c)) l
def ints (l : List Int) : List UInt8:=l.flatMap bInt
def contentB (f : Fct) : List UInt8 :=
  if f.kind = 1 then bInt f.eS ++ (bInt f.eC ++ (bNums f.eClubs ++ bText f.eRules))
  else if f.kind = 2 then bNums (gameL f.fg) ++ bInt f.venue
  else if f.kind = 3 then bNums (gameL f.sh.g) ++ (ints [f.sh.ref,f.sh.hg,f.sh.ag,f.sh.hp,f.sh.ap] ++ (bNums f.sh.hs ++ (bNums f.sh.asn ++ (bCards f.sh.hc ++ bCards f.sh.ac))))
  else if f.kind = 4 then ints [f.ru.case,f.ru.inst,f.ru.kind] ++ (bNums (gameL f.ru.g) ++ ints [f.ru.club,f.ru.player,f.ru.season,f.ru.comp,f.ru.points,f.ru.amount,f.ru.hg,f.ru.ag,f.ru.lo,f.ru.hi])
  else if f.kind = 5 then ints [f.aCase,f.aInst,if f.aSusp then 1 else 0]
  else if f.kind = 6 then ints [f.mP,f.mTo]
  else if f.kind = 7 then bInt f.lS ++ (bInt f.lC ++ bNums f.lO)
  else bText f.void
def encF (f : Fct) : List UInt8 :=
  100 :: (bText "day".toUTF8.data.toList ++ (bInt f.day ++ (bText "kind".toUTF8.data.toList ++ (bInt f.kind ++ (bText "known".toUTF8.data.toList ++ (bInt f.known ++ (bText "what".toUTF8.data.toList ++ (108 :: (contentB f ++ [101] ++ [101])))))))))
theorem bNums_sd : SD (fun _ => True) bNums:=(bList_sd bInt_sd fun a _ => bInt_opens a).mono fun _ _ _ _ => trivial
theorem ints_sd {l m : List Int} {s t : List UInt8} (hl : l.length = m.length) (h : ints l ++ s = ints m ++ t) : l = m ∧ s = t:=by
  induction l generalizing m with
  | nil =>
    cases m with
    | nil => exact ⟨rfl,h⟩
    | cons _ _ => cases hl
  | cons a l ih =>
    cases m with
    | nil => cases hl
    | cons b m =>
      unfold ints at h
      rw [List.flatMap_cons,List.flatMap_cons,List.append_assoc,List.append_assoc] at h
      obtain ⟨rfl,h2⟩:=bInt_sd a b _ _ trivial trivial h
      obtain ⟨rfl,h3⟩:=ih (by simpa using hl) h2
      exact ⟨rfl,h3⟩
theorem cardL_inj {a b : FCard} (h : cardL a = cardL b) : a = b:=by
  obtain ⟨p,r⟩:=a
  obtain ⟨q,t⟩:=b
  simp only [cardL,List.cons.injEq,and_true] at h
  obtain ⟨rfl,h2⟩:=h
  cases r <;> cases t <;> simp_all
theorem gameL_inj {a b : FGame} (h : gameL a = gameL b) : a = b:=by
  obtain ⟨_,_,_,_⟩:=a
  obtain ⟨_,_,_,_⟩:=b
  simp_all [gameL]
theorem card_sd : SD (fun _ => True) (fun c : FCard => bNums (cardL c)):=fun a b s t _ _ h => by
  obtain ⟨h1,h2⟩:=bNums_sd _ _ _ _ trivial trivial h
  exact ⟨cardL_inj h1,h2⟩
theorem bCards_sd : SD (fun _ => True) bCards:=(bList_sd card_sd fun a _ => bList_opens _ _).mono fun _ _ _ _ => trivial
theorem content_inj {a b : Fct} {s t : List UInt8} (hk : a.kind = b.kind) (hv : a.void.length = b.void.length) (h : contentB a ++ s = contentB b ++ t) (hd : a.day = b.day) (hn : a.known = b.known) : onlyF a = onlyF b ∧ s = t:=by
  unfold contentB at h
  unfold onlyF
  rw [← hk] at h ⊢
  rw [← hd,← hn]
  dsimp only
  by_cases h1 : a.kind = 1
  · rw [if_pos h1,if_pos h1] at h ⊢
    simp only [List.append_assoc] at h
    obtain ⟨e1,h⟩:=bInt_sd _ _ _ _ trivial trivial h
    obtain ⟨e2,h⟩:=bInt_sd _ _ _ _ trivial trivial h
    obtain ⟨e3,h⟩:=bNums_sd _ _ _ _ trivial trivial h
    obtain ⟨e4,h⟩:=bText_sd _ _ _ _ trivial trivial h
    rw [e1,e2,e3,e4];exact ⟨rfl,h⟩
  rw [if_neg h1,if_neg h1] at h ⊢
  by_cases h1 : a.kind = 2
  · rw [if_pos h1,if_pos h1] at h ⊢
    simp only [List.append_assoc] at h
    obtain ⟨e1,h⟩:=bNums_sd _ _ _ _ trivial trivial h
    obtain ⟨e2,h⟩:=bInt_sd _ _ _ _ trivial trivial h
    rw [gameL_inj e1,e2];exact ⟨rfl,h⟩
  rw [if_neg h1,if_neg h1] at h ⊢
  by_cases h1 : a.kind = 3
  · rw [if_pos h1,if_pos h1] at h ⊢
    simp only [List.append_assoc] at h
    obtain ⟨e1,h⟩:=bNums_sd _ _ _ _ trivial trivial h
    obtain ⟨e2,h⟩:=ints_sd (by rfl) h
    obtain ⟨e3,h⟩:=bNums_sd _ _ _ _ trivial trivial h
    obtain ⟨e4,h⟩:=bNums_sd _ _ _ _ trivial trivial h
    obtain ⟨e5,h⟩:=bCards_sd _ _ _ _ trivial trivial h
    obtain ⟨e6,h⟩:=bCards_sd _ _ _ _ trivial trivial h
    have e0:=gameL_inj e1
    have : a.sh = b.sh:=by
      cases ha : a.sh;cases hb : b.sh
      simp_all
    rw [this];exact ⟨rfl,h⟩
  rw [if_neg h1,if_neg h1] at h ⊢
  by_cases h1 : a.kind = 4
  · rw [if_pos h1,if_pos h1] at h ⊢
    simp only [List.append_assoc] at h
    obtain ⟨e1,h⟩:=ints_sd (by rfl) h
    obtain ⟨e2,h⟩:=bNums_sd _ _ _ _ trivial trivial h
    obtain ⟨e3,h⟩:=ints_sd (by rfl) h
    have e0:=gameL_inj e2
    have : a.ru = b.ru:=by
      cases ha : a.ru;cases hb : b.ru
      simp_all
    rw [this];exact ⟨rfl,h⟩
  rw [if_neg h1,if_neg h1] at h ⊢
  by_cases h1 : a.kind = 5
  · rw [if_pos h1,if_pos h1] at h ⊢
    obtain ⟨e1,h⟩:=ints_sd (by rfl) h
    simp only [List.cons.injEq,and_true] at e1
    obtain ⟨e1,e2,e3⟩:=e1
    have : a.aSusp = b.aSusp:=by
      cases ha : a.aSusp <;> cases hb : b.aSusp <;> simp_all
    rw [e1,e2,this];exact ⟨rfl,h⟩
  rw [if_neg h1,if_neg h1] at h ⊢
  by_cases h1 : a.kind = 6
  · rw [if_pos h1,if_pos h1] at h ⊢
    obtain ⟨e1,h⟩:=ints_sd (by rfl) h
    simp only [List.cons.injEq,and_true] at e1
    rw [e1.1,e1.2];exact ⟨rfl,h⟩
  rw [if_neg h1,if_neg h1] at h ⊢
  by_cases h1 : a.kind = 7
  · rw [if_pos h1,if_pos h1] at h ⊢
    simp only [List.append_assoc] at h
    obtain ⟨e1,h⟩:=bInt_sd _ _ _ _ trivial trivial h
    obtain ⟨e2,h⟩:=bInt_sd _ _ _ _ trivial trivial h
    obtain ⟨e3,h⟩:=bNums_sd _ _ _ _ trivial trivial h
    rw [e1,e2,e3];exact ⟨rfl,h⟩
  rw [if_neg h1,if_neg h1] at h ⊢
  obtain ⟨e1,h⟩:=bText_sd _ _ _ _ trivial trivial h
  rw [e1];exact ⟨rfl,h⟩
theorem encF_inj {a b : Fct} (ha : FctOk a) (hb : FctOk b) (hv : a.void.length = b.void.length) (h : encF a = encF b) : a = b:=by
  unfold encF at h
  have h:=(List.cons.inj h).2
  have h:=(List.append_inj h rfl).2
  obtain ⟨e1,h⟩:=bInt_sd _ _ _ _ trivial trivial h
  have h:=(List.append_inj h rfl).2
  obtain ⟨e2,h⟩:=bInt_sd _ _ _ _ trivial trivial h
  have h:=(List.append_inj h rfl).2
  obtain ⟨e3,h⟩:=bInt_sd _ _ _ _ trivial trivial h
  have h:=(List.append_inj h rfl).2
  have h:=(List.cons.inj h).2
  simp only [List.append_assoc] at h
  have:=(content_inj e2 hv h e1 e3).1
  rw [ha.2.2.2,hb.2.2.2] at this
  exact this
end Go.Hw
namespace Go.Hw
open Go
instance (n m : Int) : Decidable (Bel n m):=by unfold Bel;infer_instance
instance (g : FGame) : Decidable (GameOk g):=by unfold GameOk;infer_instance
end Go.Hw
set_option linter.unusedVariables false
namespace Go.Hw
open Go Go.Lib
def cmpF (a b : Fct) : Int :=
  if cmpI a.known b.known ≠ 0 then cmpI a.known b.known
  else if cmpI a.day b.day ≠ 0 then cmpI a.day b.day
  else if cmpI a.kind b.kind ≠ 0 then cmpI a.kind b.kind
  else cmpB (encF a) (encF b)
theorem cmpI_zero {a b : Int} : cmpI a b = 0 ↔ a = b:=by
  unfold cmpI;split
  · constructor
    · intro h;cases h
    · intro h;omega
  · split
    · constructor
      · intro h;cases h
      · intro h;omega
    · constructor
      · intro _;omega
      · intro _;rfl
theorem cmpI_swap (a b : Int) : cmpI b a = - cmpI a b:=by
  unfold cmpI;by_cases h1 : a < b
  · rw [if_neg (by omega),if_pos h1,if_pos h1];rfl
  · by_cases h2 : b < a
    · rw [if_pos h2,if_neg h1,if_pos h2]
    · rw [if_neg h2,if_neg h1,if_neg h1,if_neg h2];rfl
theorem cmpI_lt {a b : Int} : cmpI a b < 0 ↔ a < b:=by
  unfold cmpI;split
  · exact ⟨fun _ => by assumption,fun _ => by decide⟩
  · split
    · exact ⟨fun h => by omega,fun h => by omega⟩
    · exact ⟨fun h => by omega,fun h => by omega⟩
def LtF (a b : Fct) : Prop:=a.known < b.known ∨ (a.known = b.known ∧ (a.day < b.day ∨ (a.day = b.day ∧ (a.kind < b.kind ∨ (a.kind = b.kind ∧ cmpB (encF a) (encF b) < 0)))))
theorem cmpF_lt {a b : Fct} : cmpF a b < 0 ↔ LtF a b:=by
  unfold cmpF LtF
  have e1:=@cmpI_zero a.known b.known
  have e2:=@cmpI_zero a.day b.day
  have e3:=@cmpI_zero a.kind b.kind
  have l1:=@cmpI_lt a.known b.known
  have l2:=@cmpI_lt a.day b.day
  have l3:=@cmpI_lt a.kind b.kind
  by_cases h1 : cmpI a.known b.known = 0
  · rw [if_neg (fun h => h h1)]
    by_cases h2 : cmpI a.day b.day = 0
    · rw [if_neg (fun h => h h2)]
      by_cases h3 : cmpI a.kind b.kind = 0
      · rw [if_neg (fun h => h h3)]
        have:=e1.1 h1;have:=e2.1 h2;have:=e3.1 h3
        constructor
        · intro h;exact .inr ⟨by assumption,.inr ⟨by assumption,.inr ⟨by assumption,h⟩⟩⟩
        · rintro (h|⟨_,h|⟨_,h|⟨_,h⟩⟩⟩)
          · omega
          · omega
          · omega
          · exact h
      · rw [if_pos h3,l3]
        have:=e1.1 h1;have:=e2.1 h2
        constructor
        · intro h;exact .inr ⟨by assumption,.inr ⟨by assumption,.inl h⟩⟩
        · rintro (h|⟨_,h|⟨_,h|⟨h,_⟩⟩⟩)
          · omega
          · omega
          · exact h
          · exact absurd (e3.2 h) h3
    · rw [if_pos h2,l2]
      have:=e1.1 h1
      constructor
      · intro h;exact .inr ⟨by assumption,.inl h⟩
      · rintro (h|⟨_,h|⟨h,_⟩⟩)
        · omega
        · exact h
        · exact absurd (e2.2 h) h2
  · rw [if_pos h1,l1]
    constructor
    · exact .inl
    · rintro (h|⟨h,_⟩)
      · exact h
      · exact absurd (e1.2 h) h1
theorem cmpF_swap (a b : Fct) : cmpF b a = - cmpF a b:=by
  unfold cmpF
  rw [cmpI_swap a.known,cmpI_swap a.day,cmpI_swap a.kind,cmpB_swap (encF a)]
  have k : ∀ n : Int,(-n ≠ 0) ↔ (n ≠ 0):=fun n => by omega
  simp only [k]
  split
  · rfl
  · split
    · rfl
    · split <;> rfl
theorem cmpF_zero {a b : Fct} (ha : FctOk a) (hb : FctOk b) (hv : a.void.length = b.void.length) : cmpF a b = 0 ↔ a = b:=by
  constructor
  · intro h
    unfold cmpF at h
    split at h
    · contradiction
    · split at h
      · contradiction
      · split at h
        · contradiction
        · exact encF_inj ha hb hv (cmpB_eq.1 h)
  · rintro rfl
    unfold cmpF
    rw [if_neg (fun h => h (cmpI_zero.2 rfl)),if_neg (fun h => h (cmpI_zero.2 rfl)),if_neg (fun h => h (cmpI_zero.2 rfl))]
    exact cmpB_eq.2 rfl
theorem LtF.trans {a b c : Fct} (h1 : LtF a b) (h2 : LtF b c) : LtF a c:=by
  rcases h1 with h1|⟨e1,h1⟩ <;> rcases h2 with h2|⟨e2,h2⟩
  · exact .inl (by omega)
  · exact .inl (by omega)
  · exact .inl (by omega)
  refine .inr ⟨by omega,?_⟩
  rcases h1 with h1|⟨f1,h1⟩ <;> rcases h2 with h2|⟨f2,h2⟩
  · exact .inl (by omega)
  · exact .inl (by omega)
  · exact .inl (by omega)
  refine .inr ⟨by omega,?_⟩
  rcases h1 with h1|⟨g1,h1⟩ <;> rcases h2 with h2|⟨g2,h2⟩
  · exact .inl (by omega)
  · exact .inl (by omega)
  · exact .inl (by omega)
  exact .inr ⟨by omega,cmpB_trans h1 h2⟩
theorem LtF.irrefl (a : Fct) : ¬ LtF a a:=fun h => by
  have:=cmpF_lt.2 h
  have h2:=cmpF_swap a a
  omega
theorem LtF.tri {a b : Fct} (ha : FctOk a) (hb : FctOk b) (hv : a.void.length = b.void.length) : LtF a b ∨ a = b ∨ LtF b a:=by
  have h:=cmpF_swap a b
  by_cases h1 : cmpF a b < 0
  · exact .inl (cmpF_lt.1 h1)
  · by_cases h2 : cmpF a b = 0
    · exact .inr (.inl ((cmpF_zero ha hb hv).1 h2))
    · exact .inr (.inr (cmpF_lt.1 (by omega)))
end Go.Hw
set_option linter.unusedVariables false
namespace Go.Hw
open Go Go.Lib
def FctIn (f : Fct) : Prop:=FctOk f ∧ f.void.length = 32
def insF (x : Fct) : List Fct → List Fct
  | [] => [x]
  | y :: r => if cmpF y x < 0 then y :: insF x r else if y = x then y :: r else x :: y :: r
theorem insF_mem {x z : Fct} {l : List Fct} : z ∈ insF x l ↔ z = x ∨ z ∈ l:=by
  induction l with
  | nil => simp [insF]
  | cons y r ih =>
    unfold insF
    split
    · rw [List.mem_cons,ih,List.mem_cons]
      constructor
      · rintro (h|h|h)
        · exact .inr (.inl h)
        · exact .inl h
        · exact .inr (.inr h)
      · rintro (h|h|h)
        · exact .inr (.inl h)
        · exact .inl h
        · exact .inr (.inr h)
    · split
      · rename_i h;subst h
        exact ⟨.inr,fun h => by rcases h with h|h;subst h;exact List.mem_cons_self;exact h⟩
      · exact List.mem_cons
def SortF (l : List Fct) : Prop:=l.Pairwise LtF
theorem insF_sorted {x : Fct} (hx : FctIn x) {l : List Fct} (hl : ∀ y ∈ l,FctIn y) (hs : SortF l) : SortF (insF x l):=by
  unfold SortF at hs ⊢
  induction l with
  | nil => simp [insF]
  | cons y r ih =>
    rw [List.pairwise_cons] at hs
    have hy:=hl y List.mem_cons_self
    unfold insF
    split
    · rename_i h
      rw [List.pairwise_cons]
      refine ⟨fun z hz => ?_,ih (fun w hw => hl w (List.mem_cons_of_mem _ hw)) hs.2⟩
      rcases insF_mem.1 hz with h1|h1
      · subst h1;exact cmpF_lt.1 h
      · exact hs.1 z h1
    · split
      · rw [List.pairwise_cons];exact hs
      · rename_i h1 h2
        have h3 : LtF x y:=by
          rcases LtF.tri hx.1 hy.1 (by rw [hx.2,hy.2]) with h|h|h
          · exact h
          · exact absurd h.symm h2
          · exact absurd (cmpF_lt.2 h) h1
        rw [List.pairwise_cons,List.pairwise_cons]
        refine ⟨fun z hz => ?_,hs⟩
        rcases List.mem_cons.1 hz with h|h
        · subst h;exact h3
        · exact h3.trans (hs.1 z h)
theorem sortF_ext : ∀ {a b : List Fct},SortF a → SortF b → (∀ x,x ∈ a ↔ x ∈ b) → a = b
  | [],[],_,_,_ => rfl
  | [],y :: b,_,_,h => by have:=(h y).2 List.mem_cons_self;cases this
  | x :: a,[],_,_,h => by have:=(h x).1 List.mem_cons_self;cases this
  | x :: a,y :: b,ha,hb,h => by
    unfold SortF at ha hb
    rw [List.pairwise_cons] at ha hb
    have e : x = y:=by
      rcases List.mem_cons.1 ((h x).1 List.mem_cons_self) with h1|h1
      · exact h1
      · rcases List.mem_cons.1 ((h y).2 List.mem_cons_self) with h2|h2
        · exact h2.symm
        · exact absurd ((hb.1 x h1).trans (ha.1 y h2)) (LtF.irrefl _)
    subst e
    have : a = b:=sortF_ext ha.2 hb.2 fun z => by
      constructor
      · intro hz
        rcases List.mem_cons.1 ((h z).1 (List.mem_cons_of_mem _ hz)) with h1|h1
        · subst h1;exact absurd (ha.1 z hz) (LtF.irrefl _)
        · exact h1
      · intro hz
        rcases List.mem_cons.1 ((h z).2 (List.mem_cons_of_mem _ hz)) with h1|h1
        · subst h1;exact absurd (hb.1 z hz) (LtF.irrefl _)
        · exact h1
    rw [this]
open Classical in
noncomputable def canonL (l : List Fct) : List Fct:=l.foldl (fun out x => if FctOk x then insF x out else out) []
open Classical in
theorem canonL_snoc (l : List Fct) (x : Fct) : canonL (l ++ [x]) = if FctOk x then insF x (canonL l) else canonL l:=by
  unfold canonL;rw [List.foldl_append];rfl
theorem canonL_spec (l : List Fct) (hl : ∀ f ∈ l,f.void.length = 32) : SortF (canonL l) ∧ ∀ x,x ∈ canonL l ↔ x ∈ l ∧ FctOk x:=by
  have key : ∀ n,n ≤ l.length → SortF (canonL (l.take n)) ∧ ∀ x,x ∈ canonL (l.take n) ↔ x ∈ l.take n ∧ FctOk x:=by
    intro n
    induction n with
    | zero => intro _;exact ⟨by simp [canonL,SortF],by simp [canonL]⟩
    | succ n ih =>
      intro hn
      obtain ⟨h1,h2⟩:=ih (by omega)
      have ht : l.take (n + 1) = l.take n ++ [l[n]]:=by rw [List.take_append_getElem]
      rw [ht,canonL_snoc]
      have hm : l[n] ∈ l:=List.getElem_mem _
      generalize l[n] = x at *
      split
      · rename_i hx
        refine ⟨insF_sorted ⟨hx,hl x hm⟩ (fun y hy => ⟨((h2 y).1 hy).2,hl y (List.mem_of_mem_take ((h2 y).1 hy).1)⟩) h1,fun z => ?_⟩
        rw [insF_mem,h2,List.mem_append,List.mem_singleton]
        constructor
        · rintro (h|⟨h,h'⟩)
          · subst h;exact ⟨.inr rfl,hx⟩
          · exact ⟨.inl h,h'⟩
        · rintro ⟨h|h,h'⟩
          · exact .inr ⟨h,h'⟩
          · exact .inl h
      · rename_i hx
        refine ⟨h1,fun z => ?_⟩
        rw [h2,List.mem_append,List.mem_singleton]
        constructor
        · rintro ⟨h,h'⟩;exact ⟨.inl h,h'⟩
        · rintro ⟨h|h,h'⟩
          · exact ⟨h,h'⟩
          · subst h;exact absurd h' hx
  have:=key l.length (Nat.le_refl _)
  rw [List.take_length] at this
  exact this
theorem canonL_ext {a b : List Fct} (ha : ∀ f ∈ a,f.void.length = 32) (hb : ∀ f ∈ b,f.void.length = 32) (h : ∀ x,FctOk x → (x ∈ a ↔ x ∈ b)) : canonL a = canonL b:=by
  obtain ⟨a1,a2⟩:=canonL_spec a ha
  obtain ⟨b1,b2⟩:=canonL_spec b hb
  refine sortF_ext a1 b1 fun x => ?_
  rw [a2,b2]
  constructor
  · rintro ⟨h1,h2⟩;exact ⟨(h x h2).1 h1,h2⟩
  · rintro ⟨h1,h2⟩;exact ⟨(h x h2).2 h1,h2⟩
end Go.Hw
set_option linter.unusedVariables false
namespace Go.Hw
open Go Go.Lib
def takeF (o : Option Fct) (f : Fct) : Option Fct:=match o with
  | none => some f
  | some p => if cmpF p f < 0 then some f else some p
def GreatF (l : List Fct) (o : Option Fct) : Prop:=(o = none ∧ l = []) ∨ ∃ m,o = some m ∧ m ∈ l ∧ ∀ x ∈ l,x = m ∨ LtF x m
theorem takeF_great {l : List Fct} {o : Option Fct} {f : Fct} (hl : ∀ x ∈ l,FctIn x) (hf : FctIn f) (h : GreatF l o) : GreatF (l ++ [f]) (takeF o f):=by
  rcases h with ⟨rfl,rfl⟩|⟨m,rfl,hm,hx⟩
  · exact .inr ⟨f,rfl,by simp,fun x h => by simp at h;exact .inl h⟩
  · have him:=hl m hm
    unfold takeF
    dsimp only
    split
    · rename_i h
      have h:=cmpF_lt.1 h
      refine .inr ⟨f,rfl,by simp,fun x hx2 => ?_⟩
      rw [List.mem_append,List.mem_singleton] at hx2
      rcases hx2 with h2|h2
      · rcases hx x h2 with h3|h3
        · subst h3;exact .inr h
        · exact .inr (h3.trans h)
      · exact .inl h2
    · rename_i h
      refine .inr ⟨m,rfl,by simp [hm],fun x hx2 => ?_⟩
      rw [List.mem_append,List.mem_singleton] at hx2
      rcases hx2 with h2|h2
      · exact hx x h2
      · subst h2
        rcases LtF.tri him.1 hf.1 (by rw [him.2,hf.2]) with h3|h3|h3
        · exact absurd (cmpF_lt.2 h3) h
        · exact .inl h3.symm
        · exact .inr h3
end Go.Hw
set_option linter.unusedVariables false
namespace Go.Hw
open Go Go.Lib
structure FScore where
  kind : Int
  sh : FSheet
  day : Int
deriving DecidableEq,Inhabited
def score0 : FScore:=⟨0,sheet0,0⟩
def SameSh (a b : FSheet) : Prop:={ a with ref:=0 } = { b with ref:=0 }
instance (a b : FSheet) : Decidable (SameSh a b):=by unfold SameSh;infer_instance
theorem SameSh.symm {a b : FSheet} (h : SameSh a b) : SameSh b a:=Eq.symm h
theorem SameSh_iff {a b : FSheet} : SameSh a b ↔ a.g = b.g ∧ a.hg = b.hg ∧ a.ag = b.ag ∧ a.hp = b.hp ∧ a.ap = b.ap ∧ a.hs = b.hs ∧ a.asn = b.asn ∧ a.hc = b.hc ∧ a.ac = b.ac:=by
  unfold SameSh;cases a;cases b;simp
def scoreO : Option Fct → Option Fct → FScore
  | none,none => score0
  | some a,none => ⟨1,a.sh,a.day⟩
  | none,some b => ⟨1,b.sh,b.day⟩
  | some a,some b => if SameSh a.sh b.sh then ⟨2,a.sh,max a.day b.day⟩ else ⟨3,sheet0,max a.day b.day⟩
def OfGR (g : FGame) (r : Int) (f : Fct) : Prop:=f.kind = 3 ∧ FctOk f ∧ f.sh.g = g ∧ f.sh.ref = r
open Classical in
noncomputable def selF (l : List Fct) (g : FGame) (r : Int) : List Fct:=l.filter fun f => decide (OfGR g r f)
noncomputable def bestF (l : List Fct) (g : FGame) (r : Int) : Option Fct:=(selF l g r).foldl takeF none
noncomputable def scoreF (l : List Fct) (g : FGame) : FScore:=scoreO (bestF l g 0) (bestF l g 1)
theorem foldl_great_go : ∀ (l pre : List Fct) (o : Option Fct),(∀ f ∈ pre,FctIn f) → (∀ f ∈ l,FctIn f) → GreatF pre o → GreatF (pre ++ l) (l.foldl takeF o)
  | [],pre,o,_,_,h => by simpa using h
  | x :: l,pre,o,hp,hl,h => by
    have h2:=foldl_great_go l (pre ++ [x]) (takeF o x) (fun f hf => by
      rw [List.mem_append,List.mem_singleton] at hf
      rcases hf with hf|rfl
      · exact hp f hf
      · exact hl _ List.mem_cons_self) (fun f hf => hl f (List.mem_cons_of_mem _ hf)) (takeF_great hp (hl x List.mem_cons_self) h)
    rw [List.append_assoc] at h2
    exact h2
open Classical in
theorem selF_mem {l : List Fct} {g : FGame} {r : Int} {f : Fct} : f ∈ selF l g r ↔ f ∈ l ∧ OfGR g r f:=by
  unfold selF;rw [List.mem_filter,decide_eq_true_eq]
theorem bestF_great {l : List Fct} {g : FGame} {r : Int} (hl : ∀ f ∈ l,f.void.length = 32) : GreatF (selF l g r) (bestF l g r) :=
  foldl_great_go (selF l g r) [] none (fun f hf => absurd hf (by simp)) (fun f hf => ⟨(selF_mem.1 hf).2.2.1,hl f (selF_mem.1 hf).1⟩) (.inl ⟨rfl,rfl⟩)
theorem bestF_some {l : List Fct} {g : FGame} {r : Int} (hl : ∀ f ∈ l,f.void.length = 32) {m : Fct} (h : bestF l g r = some m) : m ∈ l ∧ OfGR g r m:=by
  rcases bestF_great (g:=g) (r:=r) hl with ⟨h1,_⟩|⟨m',h1,h2,_⟩
  · rw [h] at h1;cases h1
  · rw [h] at h1;injection h1 with h1;subst h1;exact selF_mem.1 h2
theorem bestF_none {l : List Fct} {g : FGame} {r : Int} (hl : ∀ f ∈ l,f.void.length = 32) : bestF l g r = none ↔ ∀ f ∈ l,¬ OfGR g r f:=by
  rcases bestF_great (g:=g) (r:=r) hl with ⟨h1,h2⟩|⟨m',h1,h2,_⟩
  · refine ⟨fun _ f hf ho => ?_,fun _ => h1⟩
    have:=selF_mem.2 ⟨hf,ho⟩
    rw [h2] at this;cases this
  · rw [h1]
    refine ⟨fun h => (by cases h),fun h => absurd (selF_mem.1 h2).2 (h m' (selF_mem.1 h2).1)⟩
theorem ref_of {f : Fct} (ho : FctOk f) (hk : f.kind = 3) : f.sh.ref = 0 ∨ f.sh.ref = 1:=by
  have h:=ho.2.2.1
  unfold ContOk at h
  rw [hk] at h
  simp only [show ¬ ((3 : Int) = 1) by decide,show ¬ ((3 : Int) = 2) by decide,if_false,if_true] at h
  have h2:=h.2.1
  unfold Bel at h2
  omega
end Go.Hw
