import Derived.Test.YtphlhpbmkejbaabGreatDoorFC
import Derived.Test.YtphlhpbmkejbaabGreatDoorFA
set_option linter.unusedVariables false
set_option linter.unusedSimpArgs false
namespace Go.Hw
open Go Go.Lib
theorem snocI {α : Type} {P : List α → Prop} (h0 : P []) (h1 : ∀ l x,P l → P (l ++ [x])) (l : List α) : P l:=by
  rw [← List.reverse_reverse l]
  induction l.reverse with
  | nil => exact h0
  | cons x r ih => rw [List.reverse_cons];exact h1 _ _ ih
theorem pw_ext {α : Type} {lt : α → α → Prop} (irr : ∀ a,¬ lt a a) (tr : ∀ a b c,lt a b → lt b c → lt a c) : ∀ {a b : List α},a.Pairwise lt → b.Pairwise lt → (∀ x,x ∈ a ↔ x ∈ b) → a = b
  | [],[],_,_,_ => rfl
  | [],y :: b,_,_,h => absurd ((h y).2 List.mem_cons_self) (by simp)
  | x :: a,[],_,_,h => absurd ((h x).1 List.mem_cons_self) (by simp)
  | x :: a,y :: b,h1,h2,h => by
    rw [List.pairwise_cons] at h1 h2
    have hxy : x = y:=by
      rcases List.mem_cons.1 ((h x).1 List.mem_cons_self) with e|e
      · exact e
      · rcases List.mem_cons.1 ((h y).2 List.mem_cons_self) with e2|e2
        · exact e2.symm
        · exact absurd (tr _ _ _ (h2.1 _ e) (h1.1 _ e2)) (irr _)
    subst hxy
    congr 1
    refine pw_ext irr tr h1.2 h2.2 fun z => ?_
    have hz:=h z
    rw [List.mem_cons,List.mem_cons] at hz
    constructor
    · intro m
      rcases hz.1 (.inr m) with e|e
      · subst e;exact absurd (h1.1 _ m) (irr _)
      · exact e
    · intro m
      rcases hz.2 (.inr m) with e|e
      · subst e;exact absurd (h2.1 _ m) (irr _)
      · exact e
def lastZ : Fct:={ fct0 with day:=-1,mTo:=-1 }
def MvOf (pl : Int) (f : Fct) : Prop:=f.kind = 6 ∧ f.mP = pl ∧ FctOk f
open Classical in
noncomputable def movesC (pl : Int) (L : List Fct) : List Fct:=L.filter fun f => decide (MvOf pl f)
def takeC (day : Int) (z x : Fct) : Fct:=if x.day ≤ day ∧ (z.day < x.day ∨ (x.day = z.day ∧ 0 < cmpF x z)) then x else z
noncomputable def regF (L : List Fct) (pl day : Int) : Fct:=(movesC pl L).foldl (takeC day) lastZ
def LastM (day : Int) (S : Fct → Prop) (z : Fct) : Prop :=
  (z = lastZ ∧ ∀ x,S x → ¬ x.day ≤ day) ∨ (S z ∧ z.day ≤ day ∧ ∀ x,S x → x.day ≤ day → x = z ∨ x.day < z.day ∨ (x.day = z.day ∧ LtF x z))
theorem LastM.uniq {day : Int} {S : Fct → Prop} {z z' : Fct} (h : LastM day S z) (h' : LastM day S z') : z = z':=by
  rcases h with ⟨rfl,h1⟩|⟨h1,h2,h3⟩
  · rcases h' with ⟨rfl,_⟩|⟨k1,k2,_⟩
    · rfl
    · exact absurd k2 (h1 _ k1)
  · rcases h' with ⟨rfl,k1⟩|⟨k1,k2,k3⟩
    · exact absurd h2 (k1 _ h1)
    · rcases h3 z' k1 k2 with e|e|⟨e,f⟩
      · exact e.symm
      · rcases k3 z h1 h2 with e'|e'|⟨e',f'⟩
        · exact e'
        · omega
        · omega
      · rcases k3 z h1 h2 with e'|e'|⟨e',f'⟩
        · exact e'
        · omega
        · exact absurd (LtF.trans f f') (LtF.irrefl _)
theorem LastM.congr {day : Int} {S S' : Fct → Prop} {z : Fct} (hS : ∀ x,S x ↔ S' x) (h : LastM day S z) : LastM day S' z:=by
  have : S = S':=funext fun x => propext (hS x)
  rwa [this] at h
theorem day_nn {f : Fct} (h : FctOk f) : 0 ≤ f.day:=h.1.1
theorem takeC_last {day : Int} {ms : List Fct} {z x : Fct} (hm : ∀ y ∈ ms,FctIn y) (hx : FctIn x) (h : LastM day (· ∈ ms) z) : LastM day (· ∈ ms ++ [x]) (takeC day z x):=by
  unfold takeC
  split
  · rename_i c
    refine .inr ⟨by simp,c.1,fun y hy hd => ?_⟩
    rcases List.mem_append.1 hy with hy|hy
    · rcases h with ⟨rfl,h1⟩|⟨h1,h2,h3⟩
      · exact absurd hd (h1 _ hy)
      · have key : z.day < x.day ∨ (z.day = x.day ∧ LtF z x):=c.2.imp id fun ⟨e,q⟩ => ⟨e.symm,cmpF_lt.1 (by have:=cmpF_swap x z;omega)⟩
        rcases h3 y hy hd with e|e|⟨e,f⟩
        · subst e;exact .inr key
        · rcases key with k|⟨k,_⟩
          · exact .inr (.inl (by omega))
          · exact .inr (.inl (by omega))
        · rcases key with k|⟨k,g⟩
          · exact .inr (.inl (by omega))
          · exact .inr (.inr ⟨by omega,f.trans g⟩)
    · rw [List.mem_singleton] at hy;exact .inl hy
  · rename_i c
    rcases h with ⟨rfl,h1⟩|⟨h1,h2,h3⟩
    · refine .inl ⟨rfl,fun y hy => ?_⟩
      rcases List.mem_append.1 hy with hy|hy
      · exact h1 _ hy
      · rw [List.mem_singleton] at hy;subst hy
        intro hd
        have h0:=day_nn hx.1
        have : lastZ.day = -1:=rfl
        exact c ⟨hd,.inl (by omega)⟩
    · refine .inr ⟨List.mem_append_left _ h1,h2,fun y hy hd => ?_⟩
      rcases List.mem_append.1 hy with hy|hy
      · exact h3 y hy hd
      · rw [List.mem_singleton] at hy;subst hy
        rcases LtF.tri hx.1 (hm z h1).1 (by rw [hx.2,(hm z h1).2]) with t|t|t
        · rcases Int.lt_trichotomy y.day z.day with d|d|d
          · exact .inr (.inl d)
          · exact .inr (.inr ⟨d,t⟩)
          · exact absurd ⟨hd,.inl d⟩ c
        · exact .inl t
        · rcases Int.lt_trichotomy y.day z.day with d|d|d
          · exact .inr (.inl d)
          · refine absurd ⟨hd,.inr ⟨d,?_⟩⟩ c
            have:=cmpF_lt.2 t
            have:=cmpF_swap z y
            omega
          · exact absurd ⟨hd,.inl d⟩ c
theorem foldC_last {day : Int} (ms : List Fct) (hm : ∀ y ∈ ms,FctIn y) : LastM day (· ∈ ms) (ms.foldl (takeC day) lastZ):=by
  revert hm
  refine snocI (P:=fun ms => (∀ y ∈ ms,FctIn y) → LastM day (· ∈ ms) (ms.foldl (takeC day) lastZ)) (fun _ => .inl ⟨rfl,fun x hx => absurd hx (by simp)⟩) (fun l x ih hm => ?_) ms
  rw [List.foldl_append]
  exact takeC_last (fun y hy => hm y (by simp [hy])) (hm x (by simp)) (ih fun y hy => hm y (by simp [hy]))
open Classical in
theorem movesC_mem {pl : Int} {L : List Fct} {x : Fct} : x ∈ movesC pl L ↔ x ∈ L ∧ MvOf pl x:=by
  unfold movesC;rw [List.mem_filter,decide_eq_true_eq]
theorem regF_spec {L : List Fct} (h32 : In32 L) (pl day : Int) : LastM day (fun x => x ∈ L ∧ MvOf pl x) (regF L pl day):=by
  refine LastM.congr (fun x => movesC_mem) (foldC_last (movesC pl L) fun y hy => ?_)
  rw [movesC_mem] at hy
  exact ⟨hy.2.2.2,h32 y hy.1⟩
end Go.Hw
set_option linter.unusedVariables false
set_option linter.unusedSimpArgs false
namespace Go.Hw
open Go Go.Lib
theorem score_agreed {L : List Fct} (h32 : In32 L) {g : FGame} (h : (scoreF L g).kind = 2) : ∃ f ∈ L,FctOk f ∧ f.kind = 3 ∧ f.sh = (scoreF L g).sh ∧ f.sh.g = g ∧ 0 ≤ (scoreF L g).day:=by
  unfold scoreF at h ⊢
  cases h0 : bestF L g 0 with
  | none =>
    rw [h0] at h
    cases h1 : bestF L g 1 with
    | none => rw [h1] at h;exact absurd h (by decide)
    | some b => rw [h1] at h;exact absurd (show (1 : Int) = 2 from h) (by decide)
  | some a =>
    rw [h0] at h
    cases h1 : bestF L g 1 with
    | none => rw [h1] at h;exact absurd (show (1 : Int) = 2 from h) (by decide)
    | some b =>
      rw [h1] at h
      unfold scoreO at h ⊢
      obtain ⟨m,q⟩:=bestF_some h32 h0
      have hd:=day_nn q.2.1
      by_cases hs : SameSh a.sh b.sh
      · simp only [hs,if_true]
        exact ⟨a,m,q.2.1,q.1,rfl,q.2.2.1,by show (0 : Int) ≤ max a.day b.day;omega⟩
      · simp only [hs,if_false] at h
        exact absurd h (by decide)
def LtS (a b : FScore) : Prop:=a.day < b.day ∨ (a.day = b.day ∧ (a.sh.g.h < b.sh.g.h ∨ (a.sh.g.h = b.sh.g.h ∧ a.sh.g.a < b.sh.g.a)))
instance (a b : FScore) : Decidable (LtS a b):=by unfold LtS;infer_instance
theorem LtS.irrefl (a : FScore) : ¬ LtS a a:=by unfold LtS;omega
theorem LtS.trans (a b c : FScore) (h : LtS a b) (k : LtS b c) : LtS a c:=by unfold LtS at *;omega
theorem FGame.ext4 {a b : FGame} (h1 : a.s = b.s) (h2 : a.c = b.c) (h3 : a.h = b.h) (h4 : a.a = b.a) : a = b:=by
  cases a;cases b;simp only at h1 h2 h3 h4;subst h1;subst h2;subst h3;subst h4;rfl
def IsDec (L : List Fct) (s c : Int) (ds : List FScore) : Prop:=ds.Pairwise LtS ∧ ∀ x,x ∈ ds ↔ ∃ g : FGame,g.s = s ∧ g.c = c ∧ scoreF L g = x ∧ x.kind = 2
theorem IsDec.uniq {L : List Fct} {s c : Int} {a b : List FScore} (h : IsDec L s c a) (k : IsDec L s c b) : a = b :=
  pw_ext LtS.irrefl LtS.trans h.1 k.1 fun x => (h.2 x).trans (k.2 x).symm
open Classical in
noncomputable def chooseL {α : Type} (P : List α → Prop) : List α:=if h : ∃ ds,P ds then h.choose else []
theorem chooseL_spec {α : Type} {P : List α → Prop} {l : List α} (h : P l) : P (chooseL P):=by
  have hx : ∃ ds,P ds:=⟨l,h⟩
  unfold chooseL
  rw [dif_pos hx]
  exact hx.choose_spec
noncomputable def decC (L : List Fct) (s c : Int) : List FScore:=chooseL (IsDec L s c)
theorem decC_of {L : List Fct} {s c : Int} {ds : List FScore} (h : IsDec L s c ds) : ds = decC L s c:=by
  exact h.uniq (chooseL_spec h)
theorem IsDec.here {L : List Fct} {s c : Int} {ds : List FScore} (h : IsDec L s c ds) : IsDec L s c (decC L s c):=decC_of h ▸ h
structure DecOk (L : List Fct) (s c : Int) (x : FScore) : Prop where
  sheet : SheetOk x.sh
  score : scoreF L x.sh.g = x
  kind : x.kind = 2
  day : 0 ≤ x.day
  s : x.sh.g.s = s
  c : x.sh.g.c = c
theorem decOk_of {L : List Fct} (h32 : In32 L) {s c : Int} {x : FScore} (h : ∃ g : FGame,g.s = s ∧ g.c = c ∧ scoreF L g = x ∧ x.kind = 2) : DecOk L s c x:=by
  obtain ⟨g,h1,h2,rfl,h4⟩:=h
  obtain ⟨f,m,ok,k,e,eg,d⟩:=score_agreed h32 h4
  have hg : (scoreF L g).sh.g = g:=by rw [← e];exact eg
  have hs : SheetOk (scoreF L g).sh:=by
    have:=ok.2.2.1
    unfold ContOk at this
    rw [if_neg (by omega),if_neg (by omega),if_pos k,e] at this
    exact this
  exact ⟨hs,by rw [hg],h4,d,by rw [hg];exact h1,by rw [hg];exact h2⟩
theorem IsDec.ok {L : List Fct} (h32 : In32 L) {s c : Int} {ds : List FScore} (h : IsDec L s c ds) {x : FScore} (hx : x ∈ ds) : DecOk L s c x:=decOk_of h32 ((h.2 x).1 hx)
theorem LtS.tri {L : List Fct} {s c : Int} {x y : FScore} (hx : DecOk L s c x) (hy : DecOk L s c y) : LtS x y ∨ x = y ∨ LtS y x:=by
  by_cases h1 : LtS x y
  · exact .inl h1
  by_cases h2 : LtS y x
  · exact .inr (.inr h2)
  refine .inr (.inl ?_)
  have e : x.sh.g = y.sh.g:=by
    unfold LtS at h1 h2
    exact FGame.ext4 (by rw [hx.s,hy.s]) (by rw [hx.c,hy.c]) (by omega) (by omega)
  rw [← hx.score,← hy.score,e]
theorem sorted_dec {L : List Fct} (h32 : In32 L) {s c : Int} {xs ys : List FScore} (hx : ∀ x,x ∈ xs ↔ ∃ g : FGame,g.s = s ∧ g.c = c ∧ scoreF L g = x ∧ x.kind = 2) (hn : xs.Nodup) (hp : ys.Perm xs) (hs : ys.Pairwise fun x y => ¬ LtS y x) : IsDec L s c ys:=by
  have hm : ∀ x,x ∈ ys ↔ ∃ g : FGame,g.s = s ∧ g.c = c ∧ scoreF L g = x ∧ x.kind = 2:=fun x => hp.mem_iff.trans (hx x)
  refine ⟨?_,hm⟩
  have h2 : ys.Nodup:=hp.nodup_iff.2 hn
  refine (List.pairwise_and_iff.2 ⟨hs,h2⟩).imp_of_mem fun {a b} ha hb ⟨q1,q2⟩ => ?_
  rcases LtS.tri (decOk_of h32 ((hm a).1 ha)) (decOk_of h32 ((hm b).1 hb)) with h|h|h
  · exact h
  · exact absurd h q2
  · exact absurd h q1
theorem IsDec.len {L : List Fct} (h32 : In32 L) {s c : Int} {ds : List FScore} (h : IsDec L s c ds) : ds.length ≤ L.length:=by
  have hn : (ds.map fun x => x.sh.g).Nodup:=by
    refine List.pairwise_map.2 (h.1.imp_of_mem fun {a b} ha hb hab e => ?_)
    have oa:=h.ok h32 ha
    have ob:=h.ok h32 hb
    have : a = b:=by rw [← oa.score,← ob.score,e]
    subst this
    exact LtS.irrefl _ hab
  have:=nodup_len (b:=L.map fun f => f.sh.g) hn fun g hg => by
    obtain ⟨x,hx,rfl⟩:=List.mem_map.1 hg
    have o:=h.ok h32 hx
    obtain ⟨f,m,_,_,_,eg,_⟩:=score_agreed h32 (g:=x.sh.g) (by rw [o.score];exact o.kind)
    exact List.mem_map.2 ⟨f,m,eg⟩
  simpa using this
def cardS (p : Int) (z : Int × Bool) (c : FCard) : Int × Bool:=if c.p = p then (if c.red then (z.1,true) else (min 2 (z.1 + 1),z.2)) else z
def cardsF (x : FSheet) (p : Int) : Int × Bool:=(x.hc ++ x.ac).foldl (cardS p) (0,false)
theorem cardS_bd (p : Int) (cs : List FCard) : ∀ z : Int × Bool,0 ≤ z.1 ∧ z.1 ≤ 2 → 0 ≤ (cs.foldl (cardS p) z).1 ∧ (cs.foldl (cardS p) z).1 ≤ 2:=by
  induction cs with
  | nil => intro z h;exact h
  | cons c r ih =>
    intro z h
    rw [List.foldl_cons]
    refine ih _ ?_
    unfold cardS
    split
    · split
      · exact h
      · dsimp only;omega
    · exact h
theorem cardsF_bd (x : FSheet) (p : Int) : 0 ≤ (cardsF x p).1 ∧ (cardsF x p).1 ≤ 2:=cardS_bd p _ (0,false) ⟨by decide,by decide⟩
theorem cardS_none {p : Int} : ∀ {cs : List FCard} {z : Int × Bool},(∀ c ∈ cs,c.p ≠ p) → cs.foldl (cardS p) z = z
  | [],_,_ => rfl
  | c :: r,z,h => by
    rw [List.foldl_cons,cardS_none fun d hd => h d (List.mem_cons_of_mem _ hd)]
    unfold cardS
    rw [if_neg (h c List.mem_cons_self)]
theorem cardsF_none {x : FSheet} (hx : SheetOk x) {p : Int} (h1 : p ∉ x.hs) (h2 : p ∉ x.asn) : cardsF x p = (0,false):=by
  obtain ⟨_,_,_,_,_,_,_,hc,ac,_⟩:=hx
  refine cardS_none fun c hc' => ?_
  rcases List.mem_append.1 hc' with q|q
  · intro e;exact h1 (e ▸ hc.2 c q)
  · intro e;exact h2 (e ▸ ac.2 c q)
def IsMem (x : FSheet) (ms : List (Int × Int)) : Prop:=(ms.Pairwise fun a b => a.1 < b.1) ∧ ∀ m : Int × Int,m ∈ ms ↔ (m.1 ∈ x.hs ∧ m.2 = x.g.h) ∨ (m.1 ∈ x.asn ∧ m.2 = x.g.a)
theorem IsMem.uniq {x : FSheet} {a b : List (Int × Int)} (h : IsMem x a) (k : IsMem x b) : a = b :=
  pw_ext (lt:=fun a b : Int × Int => a.1 < b.1) (fun a => by omega) (fun a b c h1 h2 => by omega) h.1 k.1 fun m => (h.2 m).trans (k.2 m).symm
noncomputable def memS (x : FSheet) : List (Int × Int):=chooseL (IsMem x)
theorem memS_of {x : FSheet} {ms : List (Int × Int)} (h : IsMem x ms) : ms = memS x:=by
  exact h.uniq (chooseL_spec h)
theorem IsMem.here {x : FSheet} {ms : List (Int × Int)} (h : IsMem x ms) : IsMem x (memS x):=memS_of h ▸ h
structure FSusp where
  p : Int
  club : Int
  g : FGame
deriving DecidableEq,Inhabited
def yelC (ds : List FScore) (p : Int) : Int:=ds.foldl (fun n x => n + (cardsF x.sh p).1) 0
theorem yelC_snoc (ds : List FScore) (x : FScore) (p : Int) : yelC (ds ++ [x]) p = yelC ds p + (cardsF x.sh p).1:=by unfold yelC;rw [List.foldl_append];rfl
theorem yelC_bd (ds : List FScore) (p : Int) : 0 ≤ yelC ds p ∧ yelC ds p ≤ 2 * (ds.length : Int):=by
  refine snocI (P:=fun ds => 0 ≤ yelC ds p ∧ yelC ds p ≤ 2 * (ds.length : Int)) ⟨by simp [yelC],by simp [yelC]⟩ (fun l x ih => ?_) ds
  have:=cardsF_bd x.sh p
  rw [yelC_snoc,List.length_append,List.length_singleton]
  omega
def nextC (ds : List FScore) (club : Int) : Option FScore:=ds.find? fun z => decide (z.sh.g.h = club ∨ z.sh.g.a = club)
def Earn (n y : Int) (red : Bool) : Prop:=red = true ∨ (n + y) / 5 ≠ n / 5
instance (n y : Int) (red : Bool) : Decidable (Earn n y red):=by unfold Earn;infer_instance
def suspOne (pre post : List FScore) (x : FScore) (m : Int × Int) : List FSusp :=
  if Earn (yelC pre m.1) (cardsF x.sh m.1).1 (cardsF x.sh m.1).2 then (match nextC post m.2 with|none => []|some z => [⟨m.1,m.2,z.sh.g⟩]) else []
noncomputable def suspAt (ds : List FScore) (i : Nat) : List FSusp:=(memS (ds.getD i score0).sh).flatMap (suspOne (ds.take i) (ds.drop (i + 1)) (ds.getD i score0))
noncomputable def suspN (ds : List FScore) (k : Nat) : List FSusp:=(List.range k).flatMap (suspAt ds)
noncomputable def suspC (ds : List FScore) : List FSusp:=suspN ds ds.length
theorem suspN_succ (ds : List FScore) (k : Nat) : suspN ds (k + 1) = suspN ds k ++ suspAt ds k:=by unfold suspN;rw [List.range_succ,List.flatMap_append];simp
theorem suspOne_len (pre post : List FScore) (x : FScore) (m : Int × Int) : (suspOne pre post x m).length ≤ 1:=by
  unfold suspOne
  split
  · split <;> simp
  · simp
theorem flatMap_len1 {α β : Type} (f : α → List β) (h : ∀ a,(f a).length ≤ 1) : ∀ l : List α,(l.flatMap f).length ≤ l.length
  | [] => by simp
  | a :: r => by
    have:=flatMap_len1 f h r
    have:=h a
    rw [List.flatMap_cons,List.length_append,List.length_cons];omega
theorem memS_len {x : FSheet} (hx : SheetOk x) {ms : List (Int × Int)} (h : IsMem x ms) : ms.length ≤ 80:=by
  obtain ⟨_,_,_,_,_,h1,h2,_,_,_⟩:=hx
  have hn : ms.Nodup:=h.1.imp fun {a b} hab e => by subst e;omega
  have:=nodup_len (b:=x.hs.map (fun p => (p,x.g.h)) ++ x.asn.map fun p => (p,x.g.a)) hn (fun m hm => by
    rw [List.mem_append,List.mem_map,List.mem_map]
    rcases (h.2 m).1 hm with ⟨q,e⟩|⟨q,e⟩
    · exact .inl ⟨m.1,q,by rw [← e]⟩
    · exact .inr ⟨m.1,q,by rw [← e]⟩)
  rw [List.length_append,List.length_map,List.length_map] at this
  have:=h1.1
  have:=h2.1
  omega
theorem susp_mem {pre post : List FScore} {x : FScore} {m : Int × Int} {s : FSusp} (h : s ∈ suspOne pre post x m) : Earn (yelC pre m.1) (cardsF x.sh m.1).1 (cardsF x.sh m.1).2 ∧ s.p = m.1 ∧ s.club = m.2 ∧ ∃ z ∈ post,s.g = z.sh.g ∧ (z.sh.g.h = m.2 ∨ z.sh.g.a = m.2):=by
  unfold suspOne at h
  split at h
  · rename_i he
    cases hn : nextC post m.2 with
    | none => rw [hn] at h;cases h
    | some z =>
      rw [hn] at h
      rw [List.mem_singleton] at h
      subst h
      have h1:=List.mem_of_find?_eq_some hn
      have h2:=List.find?_some hn
      exact ⟨he,rfl,rfl,z,h1,rfl,by simpa using h2⟩
  · cases h
end Go.Hw
set_option linter.unusedVariables false
set_option linter.unusedSimpArgs false
namespace Go.Hw
open Go Go.Lib
def unfB (pl day : Int) (r : FRul) : Bool:=decide (r.kind = 6 ∧ r.player = pl ∧ r.lo ≤ day ∧ day ≤ r.hi)
noncomputable def unfitL (C : List Fct) (pl day : Int) : Bool:=((forceL C).map (·.ru)).any (unfB pl day)
def OffB (L : List Fct) (S : List FSusp) (g : FGame) (day club p : Int) : Prop :=
  ((∃ x ∈ L,MvOf p x) ∧ ¬ (0 ≤ (regF L p day).mTo ∧ (regF L p day).mTo = club)) ∨ unfitL (canonL L) p day = true ∨ ∃ s ∈ S,s.p = p ∧ s.g = g
open Classical in
noncomputable def offS (L : List Fct) (S : List FSusp) (g : FGame) (day club : Int) (sq : List Int) : List Int:=sq.filter fun p => decide (OffB L S g day club p)
noncomputable def offL (L : List Fct) (g : FGame) : List Int × List Int :=
  if (scoreF L g).kind = 2 then (offS L (suspC (decC L g.s g.c)) g (scoreF L g).day g.h (scoreF L g).sh.hs,offS L (suspC (decC L g.s g.c)) g (scoreF L g).day g.a (scoreF L g).sh.asn) else ([],[])
open Classical in
theorem offS_snoc (L : List Fct) (S : List FSusp) (g : FGame) (day club : Int) (sq : List Int) (p : Int) : offS L S g day club (sq ++ [p]) = if OffB L S g day club p then offS L S g day club sq ++ [p] else offS L S g day club sq:=by
  unfold offS
  rw [List.filter_append]
  by_cases h : OffB L S g day club p <;> simp [h]
theorem offS_len (L : List Fct) (S : List FSusp) (g : FGame) (day club : Int) (sq : List Int) : (offS L S g day club sq).length ≤ sq.length:=List.length_filter_le _ _
def redC (ds : List FScore) (p : Int) : Int:=ds.foldl (fun n x => if (cardsF x.sh p).2 = true then n + 1 else n) 0
theorem redC_snoc (ds : List FScore) (x : FScore) (p : Int) : redC (ds ++ [x]) p = if (cardsF x.sh p).2 = true then redC ds p + 1 else redC ds p:=by unfold redC;rw [List.foldl_append];rfl
theorem filter_none {S : List FSusp} {p : Int} (h : ∀ s ∈ S,s.p ≠ p) : S.filter (fun t => decide (t.p = p)) = []:=by
  rw [List.filter_eq_nil_iff]
  intro s hs
  simpa using h s hs
theorem susp_one_at {pre post : List FScore} {x : FScore} {p : Int} : ∀ {ms : List (Int × Int)},(ms.Pairwise fun a b => a.1 < b.1) →
    ((ms.flatMap (suspOne pre post x)).filter fun t => decide (t.p = p)).length ≤ if Earn (yelC pre p) (cardsF x.sh p).1 (cardsF x.sh p).2 then 1 else 0
  | [],_ => by simp
  | m :: r,h => by
    rw [List.pairwise_cons] at h
    have ih:=susp_one_at (pre:=pre) (post:=post) (x:=x) (p:=p) h.2
    rw [List.flatMap_cons,List.filter_append,List.length_append]
    by_cases hm : m.1 = p
    · have e : ((r.flatMap (suspOne pre post x)).filter fun t => decide (t.p = p)) = []:=filter_none fun s hs => by
        obtain ⟨m',hm',hs'⟩:=List.mem_flatMap.1 hs
        have:=(susp_mem hs').2.1
        have:=h.1 m' hm'
        omega
      rw [e,List.length_nil]
      by_cases he : Earn (yelC pre p) (cardsF x.sh p).1 (cardsF x.sh p).2
      · rw [if_pos he]
        have:=List.length_filter_le (fun t : FSusp => decide (t.p = p)) (suspOne pre post x m)
        have:=suspOne_len pre post x m
        omega
      · have : suspOne pre post x m = []:=by
          unfold suspOne
          rw [hm,if_neg he]
        rw [this];simp
    · have e : ((suspOne pre post x m).filter fun t => decide (t.p = p)) = []:=filter_none fun s hs => by
        have:=(susp_mem hs).2.1
        omega
      rw [e,List.length_nil]
      omega
theorem five_count {L : List Fct} (h32 : In32 L) {s c : Int} {ds : List FScore} (h : IsDec L s c ds) (hm : ∀ x ∈ ds,IsMem x.sh (memS x.sh)) (p : Int) :
    ∀ k,k ≤ ds.length → ((((suspN ds k).filter fun t => decide (t.p = p)).length : Nat) : Int) ≤ redC (ds.take k) p + yelC (ds.take k) p / 5
  | 0,_ => by simp [suspN,redC,yelC]
  | k + 1,hk => by
    have ih:=five_count h32 h hm p k (by omega)
    have hx : ds.getD k score0 = ds[k]'(by omega):=by simp [List.getD,List.getElem?_eq_getElem (show k < ds.length by omega)]
    have ho:=susp_one_at (pre:=ds.take k) (post:=ds.drop (k + 1)) (x:=ds.getD k score0) (p:=p) (hm (ds.getD k score0) (by rw [hx];exact List.getElem_mem _)).1
    rw [suspN_succ,List.filter_append,List.length_append,← List.take_append_getElem (by omega),redC_snoc,yelC_snoc,← hx]
    have hy:=yelC_bd (ds.take k) p
    have hb:=cardsF_bd (ds.getD k score0).sh p
    have hoY : Earn (yelC (ds.take k) p) (cardsF (ds.getD k score0).sh p).1 (cardsF (ds.getD k score0).sh p).2 → _:=fun e => by
      have:=ho
      rwa [if_pos e] at this
    have hoN : ¬ Earn (yelC (ds.take k) p) (cardsF (ds.getD k score0).sh p).1 (cardsF (ds.getD k score0).sh p).2 → _:=fun e => by
      have:=ho
      rwa [if_neg e] at this
    clear ho
    unfold suspAt
    generalize ((memS (ds.getD k score0).sh).flatMap (suspOne (ds.take k) (ds.drop (k + 1)) (ds.getD k score0))).filter (fun t => decide (t.p = p)) = w at *
    generalize (suspN ds k).filter (fun t => decide (t.p = p)) = v at *
    unfold Earn at hoY hoN
    generalize cardsF (ds.getD k score0).sh p = z at *
    generalize yelC (ds.take k) p = y at *
    generalize redC (ds.take k) p = r at *
    by_cases he : z.2 = true ∨ (y + z.1) / 5 ≠ y / 5
    · have ho:=hoY he
      split
      · omega
      · rename_i hr
        have:=he.resolve_left hr
        omega
    · have ho:=hoN he
      have h1 : ¬ z.2 = true:=fun q => he (.inl q)
      rw [if_neg h1]
      omega
theorem suspN_mem {ds : List FScore} {t : FSusp} : ∀ {k : Nat},t ∈ suspN ds k → ∃ i,i < k ∧ t ∈ suspAt ds i:=fun {k} h => by
  unfold suspN at h
  obtain ⟨i,hi,ht⟩:=List.mem_flatMap.1 h
  exact ⟨i,List.mem_range.1 hi,ht⟩
structure SuspWhy (L : List Fct) (se co : Int) (t : FSusp) : Prop where
  kind : (scoreF L t.g).kind = 2
  s : t.g.s = se
  c : t.g.c = co
  club : t.club = t.g.h ∨ t.club = t.g.a
  before : ∃ g : FGame,g.s = se ∧ g.c = co ∧ (scoreF L g).kind = 2 ∧ (0 < (cardsF (scoreF L g).sh t.p).1 ∨ (cardsF (scoreF L g).sh t.p).2 = true) ∧ g ≠ t.g ∧ (scoreF L g).day ≤ (scoreF L t.g).day
theorem susp_why {L : List Fct} (h32 : In32 L) {s c : Int} {ds : List FScore} (h : IsDec L s c ds) {t : FSusp} (ht : t ∈ suspC ds) : SuspWhy L s c t:=by
  obtain ⟨i,hi,h1⟩:=suspN_mem ht
  unfold suspAt at h1
  obtain ⟨m,_,h2⟩:=List.mem_flatMap.1 h1
  obtain ⟨he,hp,hc,z,hz,hg,hcl⟩:=susp_mem h2
  have hx : ds.getD i score0 = ds[i]:=by simp [List.getD,List.getElem?_eq_getElem hi]
  rw [hx] at he
  have hxm : ds[i] ∈ ds:=List.getElem_mem _
  have hzm : z ∈ ds:=List.mem_of_mem_drop hz
  have hlt : LtS ds[i] z:=by
    have hp:=h.1
    rw [← List.take_append_drop i ds,List.drop_eq_getElem_cons hi,List.pairwise_append,List.pairwise_cons] at hp
    exact hp.2.1.1 z hz
  have ox:=h.ok h32 hxm
  have oz:=h.ok h32 hzm
  generalize ds[i] = x at *
  refine ⟨by rw [hg,oz.score];exact oz.kind,by rw [hg];exact oz.s,by rw [hg];exact oz.c,by rw [hc,hg];exact hcl.imp Eq.symm Eq.symm,x.sh.g,ox.s,ox.c,by rw [ox.score];exact ox.kind,?_,fun e => ?_,?_⟩
  · rw [ox.score,hp]
    have hb:=cardsF_bd x.sh m.1
    rcases he with e|e
    · exact .inr e
    · have : (cardsF x.sh m.1).1 ≠ 0:=fun w => by
        rw [w] at e
        simp at e
      exact .inl (by omega)
  · rw [hg] at e
    have : x = z:=by rw [← ox.score,← oz.score,e]
    subst this
    exact LtS.irrefl _ hlt
  · rw [ox.score,hg,oz.score]
    unfold LtS at hlt
    omega
end Go.Hw
set_option linter.unusedVariables false
set_option linter.unusedSimpArgs false
namespace Go.Hw
open Go Go.Lib
def mvX (d p t : Int) : Fct:={ fct0 with kind:=6,day:=d,known:=d,mP:=p,mTo:=t }
def shX (a d : Int) (red : Bool) (r : Int) : Fct:={ fct0 with kind:=3,day:=d,known:=d,sh:={ sheet0 with g:=⟨1,2,3,a⟩,ref:=r,hs:=[10],asn:=[20],hc:=if red then [⟨10,true⟩] else [] } }
theorem mvX_ok {d p t : Int} (hd : 0 ≤ d ∧ d < 100) (hp : 0 ≤ p ∧ p < 100) (ht : t = -1 ∨ (0 ≤ t ∧ t < 100)) : FctOk (mvX d p t):=by
  refine ⟨⟨by show (0 : Int) ≤ d;omega,by show d < 1048577;omega⟩,⟨by show (0 : Int) ≤ d;omega,by show d < 1048577;omega⟩,?_,rfl⟩
  unfold ContOk
  simp only [mvX,show ¬ ((6 : Int) = 1) by decide,show ¬ ((6 : Int) = 2) by decide,show ¬ ((6 : Int) = 3) by decide,show ¬ ((6 : Int) = 4) by decide,show ¬ ((6 : Int) = 5) by decide,if_false,if_true]
  refine ⟨⟨hp.1,by show p < 8192;omega⟩,?_⟩
  rcases ht with h|h
  · exact .inl h
  · exact .inr ⟨h.1,by show t < 192;omega⟩
theorem shX_sheet {a d : Int} {red : Bool} {r : Int} (ha : 4 ≤ a ∧ a < 100) (hr : r = 0 ∨ r = 1) : SheetOk (shX a d red r).sh:=by
  refine ⟨⟨⟨show (0 : Int) ≤ 1 by decide,show (1 : Int) < 64 by decide⟩,⟨show (0 : Int) ≤ 2 by decide,show (2 : Int) < 16 by decide⟩,⟨show (0 : Int) ≤ 3 by decide,show (3 : Int) < 192 by decide⟩,⟨by show (0 : Int) ≤ a;omega,by show a < 192;omega⟩,by show (3 : Int) ≠ a;omega⟩,⟨by show (0 : Int) ≤ r;omega,by show r < 2;omega⟩,⟨show (0 : Int) ≤ 0 by decide,show (0 : Int) < 100 by decide⟩,⟨show (0 : Int) ≤ 0 by decide,show (0 : Int) < 100 by decide⟩,.inl ⟨rfl,rfl⟩,?_,?_,?_,?_,?_⟩
  · exact ⟨by simp [shX],by simp [shX,Bel],by simp [shX,IncrL]⟩
  · exact ⟨by simp [shX],by simp [shX,Bel],by simp [shX,IncrL]⟩
  · cases red
    · exact ⟨by simp [shX],by simp [shX]⟩
    · exact ⟨by simp [shX],by simp [shX]⟩
  · exact ⟨by simp [shX,sheet0],by simp [shX,sheet0]⟩
  · simp [shX]
theorem shX_ok {a d : Int} {red : Bool} {r : Int} (ha : 4 ≤ a ∧ a < 100) (hd : 0 ≤ d ∧ d < 1000) (hr : r = 0 ∨ r = 1) : FctOk (shX a d red r):=by
  refine ⟨⟨by show (0 : Int) ≤ d;omega,by show d < 1048577;omega⟩,⟨by show (0 : Int) ≤ d;omega,by show d < 1048577;omega⟩,?_,rfl⟩
  unfold ContOk
  rw [if_neg (show ¬ (shX a d red r).kind = 1 from by show ¬ ((3 : Int) = 1);decide),if_neg (show ¬ (shX a d red r).kind = 2 from by show ¬ ((3 : Int) = 2);decide),if_pos (show (shX a d red r).kind = 3 from rfl)]
  exact shX_sheet ha hr
def lX : List Fct:=[mvX 10 7 3,mvX 20 7 (-1)]
theorem lX_32 : In32 lX:=fun f hf => by
  unfold lX at hf
  rcases List.mem_cons.1 hf with rfl|hf
  · rfl
  · rw [List.mem_singleton] at hf;subst hf;rfl
theorem lX_1 : MvOf 7 (mvX 10 7 3):=⟨rfl,rfl,mvX_ok (by omega) (by omega) (by omega)⟩
theorem lX_2 : MvOf 7 (mvX 20 7 (-1)):=⟨rfl,rfl,mvX_ok (by omega) (by omega) (by omega)⟩
theorem lX_19 : regF lX 7 19 = mvX 10 7 3:=by
  refine (regF_spec lX_32 7 19).uniq (.inr ⟨⟨by simp [lX],lX_1⟩,by decide,fun x hx hd => ?_⟩)
  rcases List.mem_cons.1 hx.1 with e|h
  · exact .inl e
  · rw [List.mem_singleton] at h;subst h;exact absurd hd (by decide)
theorem lX_20 : regF lX 7 20 = mvX 20 7 (-1):=by
  refine (regF_spec lX_32 7 20).uniq (.inr ⟨⟨by simp [lX],lX_2⟩,by decide,fun x hx hd => ?_⟩)
  rcases List.mem_cons.1 hx.1 with e|h
  · subst e;exact .inr (.inl (by decide))
  · rw [List.mem_singleton] at h;exact .inl h
open Classical in
theorem lX_nil (p d : Int) : regF [] p d = lastZ:=by unfold regF movesC;rfl
def lY : List Fct:=[shX 5 100 true 0,shX 5 100 true 1,shX 8 107 false 0,shX 8 107 false 1,shX 13 114 false 0,shX 13 114 false 1]
theorem lY_mem {f : Fct} (hf : f ∈ lY) : ∃ a d red r,f = shX a d red r ∧ ((a = 5 ∧ d = 100 ∧ red = true) ∨ (a = 8 ∧ d = 107 ∧ red = false) ∨ (a = 13 ∧ d = 114 ∧ red = false)) ∧ (r = 0 ∨ r = 1):=by
  unfold lY at hf
  simp only [List.mem_cons,List.not_mem_nil,or_false] at hf
  rcases hf with h|h|h|h|h|h
  · exact ⟨_,_,_,_,h,.inl ⟨rfl,rfl,rfl⟩,.inl rfl⟩
  · exact ⟨_,_,_,_,h,.inl ⟨rfl,rfl,rfl⟩,.inr rfl⟩
  · exact ⟨_,_,_,_,h,.inr (.inl ⟨rfl,rfl,rfl⟩),.inl rfl⟩
  · exact ⟨_,_,_,_,h,.inr (.inl ⟨rfl,rfl,rfl⟩),.inr rfl⟩
  · exact ⟨_,_,_,_,h,.inr (.inr ⟨rfl,rfl,rfl⟩),.inl rfl⟩
  · exact ⟨_,_,_,_,h,.inr (.inr ⟨rfl,rfl,rfl⟩),.inr rfl⟩
theorem lY_32 : In32 lY:=fun f hf => by
  obtain ⟨a,d,red,r,rfl,_⟩:=lY_mem hf;rfl
theorem lY_k {f : Fct} (hf : f ∈ lY) : f.kind = 3:=by
  obtain ⟨a,d,red,r,rfl,_⟩:=lY_mem hf;rfl
theorem best_only {L : List Fct} (h32 : In32 L) {g : FGame} {r : Int} {f : Fct} (hf : f ∈ L) (ho : OfGR g r f) (h : ∀ x ∈ L,OfGR g r x → x = f) : bestF L g r = some f:=by
  cases hb : bestF L g r with
  | none => exact absurd ho ((bestF_none h32).1 hb f hf)
  | some m =>
    obtain ⟨h1,h2⟩:=bestF_some h32 hb
    rw [h m h1 h2]
theorem lY_best {a d : Int} {red : Bool} {r : Int} (h : shX a d red r ∈ lY) (ha : 4 ≤ a ∧ a < 100) (hd : 0 ≤ d ∧ d < 1000) (hr : r = 0 ∨ r = 1) : bestF lY ⟨1,2,3,a⟩ r = some (shX a d red r):=by
  refine best_only lY_32 h ⟨rfl,shX_ok ha hd hr,rfl,rfl⟩ fun x hx ho => ?_
  obtain ⟨a',d',red',r',rfl,q,hr'⟩:=lY_mem hx
  obtain ⟨a2,d2,red2,r2,e2,q2,_⟩:=lY_mem h
  have e1 : a' = a:=congrArg FGame.a ho.2.2.1
  have e3 : r' = r:=ho.2.2.2
  have ea : a = a2:=congrArg (fun f : Fct => f.sh.g.a) e2
  have ed : d = d2:=congrArg Fct.day e2
  have er : (shX a d red r).sh.hc = (shX a2 d2 red2 r2).sh.hc:=congrArg (fun f : Fct => f.sh.hc) e2
  have ered : red = red2:=by
    cases red <;> cases red2 <;> simp [shX] at er ⊢
  subst e1 e3 ea ed ered
  rcases q with ⟨q1,q3,q4⟩|⟨q1,q3,q4⟩|⟨q1,q3,q4⟩ <;> rcases q2 with ⟨p1,p3,p4⟩|⟨p1,p3,p4⟩|⟨p1,p3,p4⟩ <;> first
    | (exfalso;omega)
    | (rw [q3,q4,p3,p4])
def scX (a d : Int) (red : Bool) : FScore:=⟨2,(shX a d red 0).sh,d⟩
theorem lY_score {a d : Int} {red : Bool} (h0 : shX a d red 0 ∈ lY) (h1 : shX a d red 1 ∈ lY) (ha : 4 ≤ a ∧ a < 100) (hd : 0 ≤ d ∧ d < 1000) : scoreF lY ⟨1,2,3,a⟩ = scX a d red:=by
  unfold scoreF
  rw [lY_best h0 ha hd (.inl rfl),lY_best h1 ha hd (.inr rfl)]
  unfold scoreO scX
  have hs : SameSh (shX a d red 0).sh (shX a d red 1).sh:=by
    rw [SameSh_iff];exact ⟨rfl,rfl,rfl,rfl,rfl,rfl,rfl,rfl,rfl⟩
  simp only [hs,if_true]
  show FScore.mk 2 _ (max d d) = _
  rw [show max d d = d by omega]
theorem lY_5 : scoreF lY ⟨1,2,3,5⟩ = scX 5 100 true:=lY_score (by simp [lY]) (by simp [lY]) (by omega) (by omega)
theorem lY_8 : scoreF lY ⟨1,2,3,8⟩ = scX 8 107 false:=lY_score (by simp [lY]) (by simp [lY]) (by omega) (by omega)
theorem lY_13 : scoreF lY ⟨1,2,3,13⟩ = scX 13 114 false:=lY_score (by simp [lY]) (by simp [lY]) (by omega) (by omega)
def dX : List FScore:=[scX 5 100 true,scX 8 107 false,scX 13 114 false]
theorem dX_dec : IsDec lY 1 2 dX:=by
  refine ⟨?_,fun x => ⟨fun hx => ?_,?_⟩⟩
  · unfold dX
    simp [LtS,scX]
  · unfold dX at hx
    simp only [List.mem_cons,List.not_mem_nil,or_false] at hx
    rcases hx with rfl|rfl|rfl
    · exact ⟨⟨1,2,3,5⟩,rfl,rfl,lY_5,rfl⟩
    · exact ⟨⟨1,2,3,8⟩,rfl,rfl,lY_8,rfl⟩
    · exact ⟨⟨1,2,3,13⟩,rfl,rfl,lY_13,rfl⟩
  · rintro ⟨g,h1,h2,rfl,h4⟩
    obtain ⟨f,m,ok,k,e,eg,d⟩:=score_agreed lY_32 h4
    obtain ⟨a,d,red,r,rfl,q,_⟩:=lY_mem m
    rw [← eg]
    rcases q with ⟨rfl,_⟩|⟨rfl,_⟩|⟨rfl,_⟩
    · show scoreF lY ⟨1,2,3,5⟩ ∈ dX
      rw [lY_5];simp [dX]
    · show scoreF lY ⟨1,2,3,8⟩ ∈ dX
      rw [lY_8];simp [dX]
    · show scoreF lY ⟨1,2,3,13⟩ ∈ dX
      rw [lY_13];simp [dX]
theorem dX_eq : decC lY 1 2 = dX:=(decC_of dX_dec).symm
theorem memX (a d : Int) (red : Bool) : memS (scX a d red).sh = [(10,3),(20,a)]:=by
  refine (memS_of ⟨by simp,fun m => ?_⟩).symm
  show _ ↔ (m.1 ∈ [10] ∧ m.2 = 3) ∨ (m.1 ∈ [20] ∧ m.2 = a)
  obtain ⟨p,c⟩:=m
  simp only [List.mem_cons,List.not_mem_nil,or_false,Prod.mk.injEq]
theorem dX_susp : suspC (decC lY 1 2) = [⟨10,3,⟨1,2,3,8⟩⟩]:=by
  rw [dX_eq]
  unfold suspC
  show suspN dX 3 = _
  rw [suspN_succ,suspN_succ,suspN_succ]
  have e0 : suspAt dX 0 = [⟨10,3,⟨1,2,3,8⟩⟩]:=by
    unfold suspAt
    rw [show dX.getD 0 score0 = scX 5 100 true from rfl,memX]
    decide
  have e1 : suspAt dX 1 = []:=by
    unfold suspAt
    rw [show dX.getD 1 score0 = scX 8 107 false from rfl,memX]
    decide
  have e2 : suspAt dX 2 = []:=by
    unfold suspAt
    rw [show dX.getD 2 score0 = scX 13 114 false from rfl,memX]
    decide
  rw [e0,e1,e2]
  rfl
theorem force_no4 {C : List Fct} (h : ∀ f ∈ C,f.kind ≠ 4) : forceL C = []:=by
  rw [List.eq_nil_iff_forall_not_mem]
  intro f hf
  have:=(force_spec C f).1 hf
  exact h f this.1 this.2.1
theorem unfit_no4 {L : List Fct} (h32 : In32 L) (h : ∀ f ∈ L,f.kind ≠ 4) (p d : Int) : unfitL (canonL L) p d = false:=by
  unfold unfitL
  rw [force_no4 fun f hf => h f (((canonL_spec L h32).2 f).1 hf).1]
  rfl
theorem lY_off (S : List FSusp) (g : FGame) (d c p : Int) : OffB lY S g d c p ↔ ∃ s ∈ S,s.p = p ∧ s.g = g:=by
  unfold OffB
  rw [unfit_no4 lY_32 (fun f hf => by rw [lY_k hf];decide)]
  constructor
  · rintro (h|h|h)
    · obtain ⟨x,hx,q⟩:=h.1
      have:=lY_k hx
      have:=q.1
      omega
    · cases h
    · exact h
  · exact fun h => .inr (.inr h)
open Classical in
theorem offY (a d : Int) (red : Bool) (h : scoreF lY ⟨1,2,3,a⟩ = scX a d red) : offL lY ⟨1,2,3,a⟩ = (if a = 8 then [10] else [],[]):=by
  unfold offL
  rw [h,if_pos (show (scX a d red).kind = 2 from rfl)]
  show (offS lY (suspC (decC lY 1 2)) _ _ _ [10],offS lY (suspC (decC lY 1 2)) _ _ _ [20]) = _
  rw [dX_susp]
  unfold offS
  simp only [lY_off,List.filter_cons,List.filter_nil,List.mem_singleton,exists_eq_left]
  by_cases ha : a = 8
  · subst ha;simp
  · have : ¬ ((8 : Int) = a):=fun e => ha e.symm
    simp [ha,this]
end Go.Hw
