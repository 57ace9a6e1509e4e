import Derived.Test.YtgbamiehiokacaaGreatDoorF20
set_option linter.unusedVariables false
set_option linter.unusedSimpArgs false
namespace Go.Hw
open Go Go.Lib
def mvX (d p t : Int) : Fct:={ fct0 with kind:=6,day:=d,known:=d,mP:=p,mTo:=t }
def shX (a d : Int) (red : Bool) (r : Int) : Fct:={ fct0 with kind:=3,day:=d,known:=d,sh:={ sheet0 with g:=⟨1,2,3,a⟩,ref:=r,hs:=[10],as:=[20],hc:=if red then [⟨10,true⟩] else [] } }
theorem mvX_ok {d p t : Int} (hd : 0 ≤ d ∧ d < 100) (hp : 0 ≤ p ∧ p < 100) (ht : t = -1 ∨ (0 ≤ t ∧ t < 100)) : FctOk (mvX d p t):=by
  refine ⟨⟨by show (0 : Int) ≤ d;omega,by show d < 1048577;omega⟩,⟨by show (0 : Int) ≤ d;omega,by show d < 1048577;omega⟩,?_,rfl⟩
  unfold ContOk
  simp only [mvX,show ¬ ((6 : Int) = 1) by decide,show ¬ ((6 : Int) = 2) by decide,show ¬ ((6 : Int) = 3) by decide,show ¬ ((6 : Int) = 4) by decide,show ¬ ((6 : Int) = 5) by decide,if_false,if_true]
  refine ⟨⟨hp.1,by show p < 8192;omega⟩,?_⟩
  rcases ht with h|h
  · exact .inl h
  · exact .inr ⟨h.1,by show t < 192;omega⟩
theorem shX_sheet {a d : Int} {red : Bool} {r : Int} (ha : 4 ≤ a ∧ a < 100) (hr : r = 0 ∨ r = 1) : SheetOk (shX a d red r).sh:=by
  refine ⟨⟨⟨show (0 : Int) ≤ 1 by decide,show (1 : Int) < 64 by decide⟩,⟨show (0 : Int) ≤ 2 by decide,show (2 : Int) < 16 by decide⟩,⟨show (0 : Int) ≤ 3 by decide,show (3 : Int) < 192 by decide⟩,⟨by show (0 : Int) ≤ a;omega,by show a < 192;omega⟩,by show (3 : Int) ≠ a;omega⟩,⟨by show (0 : Int) ≤ r;omega,by show r < 2;omega⟩,⟨show (0 : Int) ≤ 0 by decide,show (0 : Int) < 100 by decide⟩,⟨show (0 : Int) ≤ 0 by decide,show (0 : Int) < 100 by decide⟩,.inl ⟨rfl,rfl⟩,?_,?_,?_,?_,?_⟩
  · exact ⟨by simp [shX],by simp [shX,Bel],by simp [shX,IncrL]⟩
  · exact ⟨by simp [shX],by simp [shX,Bel],by simp [shX,IncrL]⟩
  · cases red
    · exact ⟨by simp [shX],by simp [shX]⟩
    · exact ⟨by simp [shX],by simp [shX]⟩
  · exact ⟨by simp [shX,sheet0],by simp [shX,sheet0]⟩
  · simp [shX]
theorem shX_ok {a d : Int} {red : Bool} {r : Int} (ha : 4 ≤ a ∧ a < 100) (hd : 0 ≤ d ∧ d < 1000) (hr : r = 0 ∨ r = 1) : FctOk (shX a d red r):=by
  refine ⟨⟨by show (0 : Int) ≤ d;omega,by show d < 1048577;omega⟩,⟨by show (0 : Int) ≤ d;omega,by show d < 1048577;omega⟩,?_,rfl⟩
  unfold ContOk
  rw [if_neg (show ¬ (shX a d red r).kind = 1 from by show ¬ ((3 : Int) = 1);decide),if_neg (show ¬ (shX a d red r).kind = 2 from by show ¬ ((3 : Int) = 2);decide),if_pos (show (shX a d red r).kind = 3 from rfl)]
  exact shX_sheet ha hr
def lX : List Fct:=[mvX 10 7 3,mvX 20 7 (-1)]
theorem lX_32 : In32 lX:=fun f hf => by
  unfold lX at hf
  rcases List.mem_cons.1 hf with rfl|hf
  · rfl
  · rw [List.mem_singleton] at hf;subst hf;rfl
theorem lX_1 : MvOf 7 (mvX 10 7 3):=⟨rfl,rfl,mvX_ok (by omega) (by omega) (by omega)⟩
theorem lX_2 : MvOf 7 (mvX 20 7 (-1)):=⟨rfl,rfl,mvX_ok (by omega) (by omega) (by omega)⟩
theorem lX_19 : regF lX 7 19 = mvX 10 7 3:=by
  refine (regF_spec lX_32 7 19).uniq (.inr ⟨⟨by simp [lX],lX_1⟩,by decide,fun x hx hd => ?_⟩)
  rcases List.mem_cons.1 hx.1 with e|h
  · exact .inl e
  · rw [List.mem_singleton] at h;subst h;exact absurd hd (by decide)
theorem lX_20 : regF lX 7 20 = mvX 20 7 (-1):=by
  refine (regF_spec lX_32 7 20).uniq (.inr ⟨⟨by simp [lX],lX_2⟩,by decide,fun x hx hd => ?_⟩)
  rcases List.mem_cons.1 hx.1 with e|h
  · subst e;exact .inr (.inl (by decide))
  · rw [List.mem_singleton] at h;exact .inl h
open Classical in
theorem lX_nil (p d : Int) : regF [] p d = lastZ:=by unfold regF movesC;rfl
def lY : List Fct:=[shX 5 100 true 0,shX 5 100 true 1,shX 8 107 false 0,shX 8 107 false 1,shX 13 114 false 0,shX 13 114 false 1]
theorem lY_mem {f : Fct} (hf : f ∈ lY) : ∃ a d red r,f = shX a d red r ∧ ((a = 5 ∧ d = 100 ∧ red = true) ∨ (a = 8 ∧ d = 107 ∧ red = false) ∨ (a = 13 ∧ d = 114 ∧ red = false)) ∧ (r = 0 ∨ r = 1):=by
  unfold lY at hf
  simp only [List.mem_cons,List.not_mem_nil,or_false] at hf
  rcases hf with h|h|h|h|h|h
  · exact ⟨_,_,_,_,h,.inl ⟨rfl,rfl,rfl⟩,.inl rfl⟩
  · exact ⟨_,_,_,_,h,.inl ⟨rfl,rfl,rfl⟩,.inr rfl⟩
  · exact ⟨_,_,_,_,h,.inr (.inl ⟨rfl,rfl,rfl⟩),.inl rfl⟩
  · exact ⟨_,_,_,_,h,.inr (.inl ⟨rfl,rfl,rfl⟩),.inr rfl⟩
  · exact ⟨_,_,_,_,h,.inr (.inr ⟨rfl,rfl,rfl⟩),.inl rfl⟩
  · exact ⟨_,_,_,_,h,.inr (.inr ⟨rfl,rfl,rfl⟩),.inr rfl⟩
theorem lY_32 : In32 lY:=fun f hf => by
  obtain ⟨a,d,red,r,rfl,_⟩:=lY_mem hf;rfl
theorem lY_k {f : Fct} (hf : f ∈ lY) : f.kind = 3:=by
  obtain ⟨a,d,red,r,rfl,_⟩:=lY_mem hf;rfl
theorem best_only {L : List Fct} (h32 : In32 L) {g : FGame} {r : Int} {f : Fct} (hf : f ∈ L) (ho : OfGR g r f) (h : ∀ x ∈ L,OfGR g r x → x = f) : bestF L g r = some f:=by
  cases hb : bestF L g r with
  | none => exact absurd ho ((bestF_none h32).1 hb f hf)
  | some m =>
    obtain ⟨h1,h2⟩:=bestF_some h32 hb
    rw [h m h1 h2]
theorem lY_best {a d : Int} {red : Bool} {r : Int} (h : shX a d red r ∈ lY) (ha : 4 ≤ a ∧ a < 100) (hd : 0 ≤ d ∧ d < 1000) (hr : r = 0 ∨ r = 1) : bestF lY ⟨1,2,3,a⟩ r = some (shX a d red r):=by
  refine best_only lY_32 h ⟨rfl,shX_ok ha hd hr,rfl,rfl⟩ fun x hx ho => ?_
  obtain ⟨a',d',red',r',rfl,q,hr'⟩:=lY_mem hx
  obtain ⟨a2,d2,red2,r2,e2,q2,_⟩:=lY_mem h
  have e1 : a' = a:=congrArg FGame.a ho.2.2.1
  have e3 : r' = r:=ho.2.2.2
  have ea : a = a2:=congrArg (fun f : Fct => f.sh.g.a) e2
  have ed : d = d2:=congrArg Fct.day e2
  have er : (shX a d red r).sh.hc = (shX a2 d2 red2 r2).sh.hc:=congrArg (fun f : Fct => f.sh.hc) e2
  have ered : red = red2:=by
    cases red <;> cases red2 <;> simp [shX] at er ⊢
  subst e1 e3 ea ed ered
  rcases q with ⟨q1,q3,q4⟩|⟨q1,q3,q4⟩|⟨q1,q3,q4⟩ <;> rcases q2 with ⟨p1,p3,p4⟩|⟨p1,p3,p4⟩|⟨p1,p3,p4⟩ <;> first
    | (exfalso;omega)
    | (rw [q3,q4,p3,p4])
def scX (a d : Int) (red : Bool) : FScore:=⟨2,(shX a d red 0).sh,d⟩
theorem lY_score {a d : Int} {red : Bool} (h0 : shX a d red 0 ∈ lY) (h1 : shX a d red 1 ∈ lY) (ha : 4 ≤ a ∧ a < 100) (hd : 0 ≤ d ∧ d < 1000) : scoreF lY ⟨1,2,3,a⟩ = scX a d red:=by
  unfold scoreF
  rw [lY_best h0 ha hd (.inl rfl),lY_best h1 ha hd (.inr rfl)]
  unfold scoreO scX
  have hs : SameSh (shX a d red 0).sh (shX a d red 1).sh:=by
    rw [SameSh_iff];exact ⟨rfl,rfl,rfl,rfl,rfl,rfl,rfl,rfl,rfl⟩
  simp only [hs,if_true]
  show FScore.mk 2 _ (max d d) = _
  rw [show max d d = d by omega]
theorem lY_5 : scoreF lY ⟨1,2,3,5⟩ = scX 5 100 true:=lY_score (by simp [lY]) (by simp [lY]) (by omega) (by omega)
theorem lY_8 : scoreF lY ⟨1,2,3,8⟩ = scX 8 107 false:=lY_score (by simp [lY]) (by simp [lY]) (by omega) (by omega)
theorem lY_13 : scoreF lY ⟨1,2,3,13⟩ = scX 13 114 false:=lY_score (by simp [lY]) (by simp [lY]) (by omega) (by omega)
def dX : List FScore:=[scX 5 100 true,scX 8 107 false,scX 13 114 false]
theorem dX_dec : IsDec lY 1 2 dX:=by
  refine ⟨?_,fun x => ⟨fun hx => ?_,?_⟩⟩
  · unfold dX
    simp [LtS,scX]
  · unfold dX at hx
    simp only [List.mem_cons,List.not_mem_nil,or_false] at hx
    rcases hx with rfl|rfl|rfl
    · exact ⟨⟨1,2,3,5⟩,rfl,rfl,lY_5,rfl⟩
    · exact ⟨⟨1,2,3,8⟩,rfl,rfl,lY_8,rfl⟩
    · exact ⟨⟨1,2,3,13⟩,rfl,rfl,lY_13,rfl⟩
  · rintro ⟨g,h1,h2,rfl,h4⟩
    obtain ⟨f,m,ok,k,e,eg,d⟩:=score_agreed lY_32 h4
    obtain ⟨a,d,red,r,rfl,q,_⟩:=lY_mem m
    rw [← eg]
    rcases q with ⟨rfl,_⟩|⟨rfl,_⟩|⟨rfl,_⟩
    · show scoreF lY ⟨1,2,3,5⟩ ∈ dX
      rw [lY_5];simp [dX]
    · show scoreF lY ⟨1,2,3,8⟩ ∈ dX
      rw [lY_8];simp [dX]
    · show scoreF lY ⟨1,2,3,13⟩ ∈ dX
      rw [lY_13];simp [dX]
theorem dX_eq : decC lY 1 2 = dX:=(decC_of dX_dec).symm
theorem memX (a d : Int) (red : Bool) : memS (scX a d red).sh = [(10,3),(20,a)]:=by
  refine (memS_of ⟨by simp,fun m => ?_⟩).symm
  show _ ↔ (m.1 ∈ [10] ∧ m.2 = 3) ∨ (m.1 ∈ [20] ∧ m.2 = a)
  obtain ⟨p,c⟩:=m
  simp only [List.mem_cons,List.not_mem_nil,or_false,Prod.mk.injEq]
theorem dX_susp : suspC (decC lY 1 2) = [⟨10,3,⟨1,2,3,8⟩⟩]:=by
  rw [dX_eq]
  unfold suspC
  show suspN dX 3 = _
  rw [suspN_succ,suspN_succ,suspN_succ]
  have e0 : suspAt dX 0 = [⟨10,3,⟨1,2,3,8⟩⟩]:=by
    unfold suspAt
    rw [show dX.getD 0 score0 = scX 5 100 true from rfl,memX]
    decide
  have e1 : suspAt dX 1 = []:=by
    unfold suspAt
    rw [show dX.getD 1 score0 = scX 8 107 false from rfl,memX]
    decide
  have e2 : suspAt dX 2 = []:=by
    unfold suspAt
    rw [show dX.getD 2 score0 = scX 13 114 false from rfl,memX]
    decide
  rw [e0,e1,e2]
  rfl
theorem force_no4 {C : List Fct} (h : ∀ f ∈ C,f.kind ≠ 4) : forceL C = []:=by
  rw [List.eq_nil_iff_forall_not_mem]
  intro f hf
  have:=(force_spec C f).1 hf
  exact h f this.1 this.2.1
theorem unfit_no4 {L : List Fct} (h32 : In32 L) (h : ∀ f ∈ L,f.kind ≠ 4) (p d : Int) : unfitL (canonL L) p d = false:=by
  unfold unfitL
  rw [force_no4 fun f hf => h f (((canonL_spec L h32).2 f).1 hf).1]
  rfl
theorem lY_off (S : List FSusp) (g : FGame) (d c p : Int) : OffB lY S g d c p ↔ ∃ s ∈ S,s.p = p ∧ s.g = g:=by
  unfold OffB
  rw [unfit_no4 lY_32 (fun f hf => by rw [lY_k hf];decide)]
  constructor
  · rintro (h|h|h)
    · obtain ⟨x,hx,q⟩:=h.1
      have:=lY_k hx
      have:=q.1
      omega
    · cases h
    · exact h
  · exact fun h => .inr (.inr h)
open Classical in
theorem offY (a d : Int) (red : Bool) (h : scoreF lY ⟨1,2,3,a⟩ = scX a d red) : offL lY ⟨1,2,3,a⟩ = (if a = 8 then [10] else [],[]):=by
  unfold offL
  rw [h,if_pos (show (scX a d red).kind = 2 from rfl)]
  show (offS lY (suspC (decC lY 1 2)) _ _ _ [10],offS lY (suspC (decC lY 1 2)) _ _ _ [20]) = _
  rw [dX_susp]
  unfold offS
  simp only [lY_off,List.filter_cons,List.filter_nil,List.mem_singleton,exists_eq_left]
  by_cases ha : a = 8
  · subst ha;simp
  · have : ¬ ((8 : Int) = a):=fun e => ha e.symm
    simp [ha,this]
end Go.Hw
