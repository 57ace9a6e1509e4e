import Derived.Test.YtlnenhhbalpbpaaGreatDoorFE
import Derived.Test.YtlnenhhbalpbpaaGreatDoorFD
import Derived.Test.YtlnenhhbalpbpaaGreatDoorGA
import Derived.Test.YtlnenhhbalpbpaaGreatDoorHB
import Derived.Test.YtlnenhhbalpbpaaGreatDoorFA
set_option linter.unusedVariables false
set_option linter.unusedSimpArgs false
namespace Go.Hw
open Go Go.Lib
theorem maxF_top (l : List Fct) : ∀ m,maxF l = some m → ∀ x ∈ l,¬ LtF m x:=by
  refine rev_ind (P:=fun l => ∀ m,maxF l = some m → ∀ x ∈ l,¬ LtF m x) (by intro m h;cases h) (fun C f ih => ?_) l
  intro m h x hx
  rw [maxF_snoc] at h
  cases hq : maxF C with
  | none =>
    rw [hq] at h;cases h
    rw [maxF_none] at hq;subst hq
    rw [List.nil_append,List.mem_singleton] at hx;subst hx
    exact LtF.irrefl _
  | some b =>
    rw [hq] at h
    dsimp only at h
    have hb:=ih b hq
    have hs:=cmpF_swap f b
    split at h
    · rename_i hc
      cases h
      have hlt : LtF b f:=cmpF_lt.1 (by omega)
      rcases List.mem_append.1 hx with w|w
      · exact fun q => hb x w (hlt.trans q)
      · rw [List.mem_singleton] at w;subst w;exact LtF.irrefl _
    · rename_i hc
      cases h
      rcases List.mem_append.1 hx with w|w
      · exact hb x w
      · rw [List.mem_singleton] at w;subst w
        exact fun q => by have:=cmpF_lt.2 q;omega
theorem ruling_wins {l : List Fct} {f : Fct} (h32 : In32 (f :: l)) (hok : FctOk f) (hk : f.kind = 4) (h1 : f.ru.case = 1) (h3 : f.ru.inst = 3) {g : FGame} (hg : AboutG g f.ru)
    (hl : ∀ x ∈ l,x.known < f.known ∧ x.ru.case ≠ 1 ∧ x.aCase ≠ 1) : ofGame (canonL (f :: l)) g = (f.ru,f.day,true):=by
  have hc:=canonL_spec (f :: l) h32
  have hmem : ∀ x ∈ canonL (f :: l),x = f ∨ x ∈ l:=fun x hx => by
    have:=((hc.2 x).1 hx).1
    rwa [List.mem_cons] at this
  have hfm : f ∈ canonL (f :: l):=(hc.2 f).2 ⟨List.mem_cons_self,hok⟩
  have hCok:=canonL_okF h32
  generalize canonL (f :: l) = C at *
  have hof : ∀ x ∈ C,OfCase 1 x → x = f:=fun x hx ho => by
    rcases hmem x hx with e|e
    · exact e
    · exact absurd ho.2 (hl x e).2.1
  have hlast : lastI C 1 = 3:=by
    have h4:=(lastI_ge (C:=C) (n:=1)).2 f hfm ⟨hk,h1⟩
    rcases lastI_at (C:=C) (n:=1) with e|⟨x,hx,ho,hi⟩
    · omega
    · have:=hof x hx ho
      subst this;omega
  have hst : standI C 1 3 = some f:=by
    cases hq : standI C 1 3 with
    | none => exact absurd ⟨⟨hk,h1⟩,h3⟩ (standI_none hq f hfm)
    | some x =>
      obtain ⟨q1,q2,_⟩:=standI_some hq
      rw [hof x q1 q2]
  have hforce : f ∈ forceL C:=(force_spec C f).2 ⟨hfm,hk,fun q => by
    rw [h1] at q
    obtain ⟨_,x,hx,q1,q2,_⟩:=q
    rcases hmem x hx with e|e
    · subst e;omega
    · exact (hl x e).2.2 q2,by rw [h1,hlast];exact hst⟩
  have hab : f ∈ aboutL C g:=aboutL_mem.2 ⟨hforce,hg⟩
  have hmax : maxF (aboutL C g) = some f:=by
    cases hq : maxF (aboutL C g) with
    | none => rw [maxF_none] at hq;rw [hq] at hab;cases hab
    | some m =>
      have h5:=maxF_top _ m hq f hab
      have h6:=(force_ok hCok (aboutL_mem.1 (maxF_mem hq)).1).1
      rcases hmem m h6 with e|e
      · rw [e]
      · exact absurd (.inl (hl m e).1) h5
  unfold ofGame
  rw [hmax]
theorem ofF_ruled {L : List Fct} {g : FGame} (hg : GameOk g) {r : FRul} {d : Int} (h : ofGame (canonL L) g = (r,d,true)) : ofF L g = ruledR g r d:=by
  unfold ofF
  rw [if_pos hg,h];rfl
theorem ofF_played {L : List Fct} {g : FGame} (hg : GameOk g) (h : (ofGame (canonL L) g).2.2 = false) : ofF L g = playedF L g:=by
  unfold ofF
  rw [if_pos hg,h];rfl
def cntG (rs : List FRes) (g : FGame) : Int:=rs.foldl (fun n r => if r.g = g then n + 1 else n) 0
theorem cntG_snoc (rs : List FRes) (r : FRes) (g : FGame) : cntG (rs ++ [r]) g = if r.g = g then cntG rs g + 1 else cntG rs g:=by unfold cntG;rw [List.foldl_append];rfl
theorem cntG_bd (rs : List FRes) (g : FGame) : 0 ≤ cntG rs g ∧ cntG rs g ≤ rs.length:=by
  refine snocI (P:=fun rs => 0 ≤ cntG rs g ∧ cntG rs g ≤ rs.length) ⟨by simp [cntG],by simp [cntG]⟩ (fun l x ih => ?_) rs
  rw [cntG_snoc,List.length_append,List.length_singleton]
  split <;> omega
theorem cntG_none {rs : List FRes} {g : FGame} (h : ∀ r ∈ rs,r.g ≠ g) : cntG rs g = 0:=by
  revert h
  refine snocI (P:=fun rs => (∀ r ∈ rs,r.g ≠ g) → cntG rs g = 0) (fun _ => by simp [cntG]) (fun l x ih h => ?_) rs
  rw [cntG_snoc,if_neg (h x (by simp)),ih fun r hr => h r (by simp [hr])]
theorem cntG_append (a b : List FRes) (g : FGame) : cntG (a ++ b) g = cntG a g + cntG b g:=by
  refine snocI (P:=fun b => cntG (a ++ b) g = cntG a g + cntG b g) (by simp [cntG]) (fun l x ih => ?_) b
  rw [← List.append_assoc,cntG_snoc,cntG_snoc,ih]
  split <;> omega
open Classical in
theorem cnt_all {L : List Fct} (h32 : In32 L) {s c : Int} {g : FGame} (hs : g.s = s) (hc : g.c = c) : cntG (allC L s c) g = if ofF L g = none then 0 else 1:=by
  have ha:=allC_is h32 s c
  split
  · rename_i hn
    refine cntG_none fun r hr e => ?_
    have:=((ha.2 r).1 hr).2.2
    rw [e,hn] at this;cases this
  · rename_i hn
    obtain ⟨r,hr⟩:=Option.ne_none_iff_exists'.1 hn
    have hg:=(ofF_ok h32 hr).2
    have hm : r ∈ allC L s c:=(ha.2 r).2 ⟨by rw [hg];exact hs,by rw [hg];exact hc,by rw [hg];exact hr⟩
    obtain ⟨p,q,e⟩:=List.append_of_mem hm
    have hp:=ha.1
    have hin : ∀ x ∈ allC L s c,x.g = g → x = r:=fun x hx e2 => by
      have:=((ha.2 x).1 hx).2.2
      rw [e2,hr] at this
      exact (Option.some.inj this).symm
    rw [e] at hp hin ⊢
    rw [List.pairwise_append,List.pairwise_cons] at hp
    have e1 : cntG p g = 0:=cntG_none fun x hx w => by
      have:=hin x (by simp [hx]) w
      subst this
      exact LtR.irrefl _ (hp.2.2 x hx x List.mem_cons_self)
    have e2 : cntG q g = 0:=cntG_none fun x hx w => by
      have:=hin x (by simp [hx]) w
      subst this
      exact LtR.irrefl _ (hp.2.1.1 x hx)
    rw [show r :: q = [r] ++ q from rfl,cntG_append,cntG_append,e1,e2,show ([r] : List FRes) = [] ++ [r] from rfl,cntG_snoc,if_pos hg]
    simp [cntG]
theorem openH_mem {L : List Fct} {s c h : Int} {aa : List Int} {x : FGame} (hx : x ∈ openH L s c h aa) : ofF L x = none:=by
  unfold openH at hx
  obtain ⟨a,_,h2⟩:=List.mem_flatMap.1 hx
  split at h2
  · rename_i q
    rw [List.mem_singleton] at h2;rw [h2];exact q.2
  · cases h2
theorem openK_mem {L : List Fct} {s c : Int} {hs aa : List Int} {x : FGame} (hx : x ∈ openK L s c hs aa) : ofF L x = none:=by
  unfold openK at hx
  obtain ⟨h,_,h2⟩:=List.mem_flatMap.1 hx
  exact openH_mem h2
open Classical in
theorem openK_at (L : List Fct) (s c : Int) (hs aa : List Int) {i k : Nat} (hi : i < hs.length) (hk : k < aa.length) :
    openK L s c hs aa = (openK L s c (hs.take i) aa ++ openH L s c (hs.getD i 0) (aa.take k)) ++ ((if isOpen L s c (hs.getD i 0) (aa.getD k 0) then [⟨s,c,hs.getD i 0,aa.getD k 0⟩] else []) ++ (openH L s c (hs.getD i 0) (aa.drop (k + 1)) ++ openK L s c (hs.drop (i + 1)) aa)):=by
  have e1 : hs = hs.take i ++ (hs.getD i 0 :: hs.drop (i + 1)):=by
    conv => lhs;rw [← List.take_append_drop i hs,List.drop_eq_getElem_cons hi]
    rw [List.getD_eq_getElem?_getD,List.getElem?_eq_getElem hi,Option.getD_some]
  have e2 : aa = aa.take k ++ (aa.getD k 0 :: aa.drop (k + 1)):=by
    conv => lhs;rw [← List.take_append_drop k aa,List.drop_eq_getElem_cons hk]
    rw [List.getD_eq_getElem?_getD,List.getElem?_eq_getElem hk,Option.getD_some]
  have e3 : ∀ h,openH L s c h aa = openH L s c h (aa.take k) ++ ((if isOpen L s c h (aa.getD k 0) then [⟨s,c,h,aa.getD k 0⟩] else []) ++ openH L s c h (aa.drop (k + 1))):=fun h => by
    conv => lhs;rw [e2]
    unfold openH
    rw [List.flatMap_append,List.flatMap_cons]
  conv => lhs;rw [e1]
  have e4 : openK L s c (hs.take i ++ (hs.getD i 0 :: hs.drop (i + 1))) aa = openK L s c (hs.take i) aa ++ (openH L s c (hs.getD i 0) aa ++ openK L s c (hs.drop (i + 1)) aa):=by
    unfold openK
    rw [List.flatMap_append,List.flatMap_cons]
  rw [e4,e3]
  simp only [List.append_assoc]
end Go.Hw
set_option linter.unusedVariables false
set_option linter.unusedSimpArgs false
namespace Go.Hw
open Go Go.Lib
theorem force_one {L : List Fct} (h32 : In32 L) {f : Fct} (hf : f ∈ L) (hok : FctOk f) (hk : f.kind = 4) (h : ∀ x ∈ L,x ≠ f → x.kind ≠ 4 ∧ x.kind ≠ 5) : forceL (canonL L) = [f]:=by
  have hc:=canonL_spec L h32
  have hfm : f ∈ canonL L:=(hc.2 f).2 ⟨hf,hok⟩
  have hm : ∀ x ∈ canonL L,x = f ∨ (x.kind ≠ 4 ∧ x.kind ≠ 5):=fun x hx => by
    by_cases e : x = f
    · exact .inl e
    · exact .inr (h x ((hc.2 x).1 hx).1 e)
  have hCok:=canonL_okF h32
  generalize canonL L = C at *
  have hof : ∀ x ∈ C,x.kind = 4 → x = f:=fun x hx ho => (hm x hx).elim id fun w => absurd ho w.1
  have hlast:=stand_last hCok ⟨f,hfm,hk,rfl⟩
  obtain ⟨h0,g,hg⟩:=hlast
  have hgf : g = f:=hof g (standI_some hg).1 (standI_some hg).2.1.1
  subst hgf
  have hin : g ∈ forceL C:=(force_spec C g).2 ⟨hfm,hk,fun q => by
    obtain ⟨_,x,hx,q1,_⟩:=q
    rcases hm x hx with e|e
    · subst e;omega
    · exact e.2 q1,hg⟩
  have hall : ∀ x ∈ forceL C,x = g:=fun x hx => hof x ((force_spec C x).1 hx).1 ((force_spec C x).1 hx).2.1
  have hs:=force_sorted C
  generalize forceL C = F at *
  cases F with
  | nil => cases hin
  | cons a r =>
    have ha:=hall a List.mem_cons_self
    subst ha
    cases r with
    | nil => rfl
    | cons b q =>
      have hb:=hall b (by simp)
      subst hb
      rw [List.pairwise_cons] at hs
      have:=hs.1 b List.mem_cons_self
      omega
theorem ofGame_none {C : List Fct} {g : FGame} (h : ∀ f ∈ forceL C,¬ AboutG g f.ru) : ofGame C g = (rul0,0,false):=by
  have : aboutL C g = []:=by
    rw [List.eq_nil_iff_forall_not_mem]
    intro f hf
    obtain ⟨h1,h2⟩:=aboutL_mem.1 hf
    exact h f h1 h2
  unfold ofGame
  rw [this];rfl
theorem ofGame_one {C : List Fct} {g : FGame} {f : Fct} (h : forceL C = [f]) (hg : AboutG g f.ru) : ofGame C g = (f.ru,f.day,true):=by
  unfold ofGame aboutL
  rw [h]
  simp only [List.filter_cons,decide_eq_true hg,if_true,List.filter_nil]
  rfl
def gR : FGame:=⟨0,0,1,2⟩
def shR (r a b : Int) : Fct:={ fct0 with kind:=3,day:=10,known:=10,sh:={ sheet0 with g:=gR,ref:=r,hg:=a,ag:=b,asn:=[7] } }
def ruR (r : FRul) : Fct:={ fct0 with kind:=4,day:=20,known:=20,ru:={ r with case:=1,inst:=1 } }
theorem gR_ok : GameOk gR:=⟨⟨by decide,by decide⟩,⟨by decide,by decide⟩,⟨by decide,by decide⟩,⟨by decide,by decide⟩,by decide⟩
theorem shR_ok {r a b : Int} (hr : r = 0 ∨ r = 1) (ha : 0 ≤ a ∧ a < 100) (hb : 0 ≤ b ∧ b < 100) : FctOk (shR r a b):=by
  refine ⟨⟨by show (0 : Int) ≤ 10;decide,by show (10 : Int) < 1048577;decide⟩,⟨by show (0 : Int) ≤ 10;decide,by show (10 : Int) < 1048577;decide⟩,?_,rfl⟩
  unfold ContOk
  rw [if_neg (show ¬ (shR r a b).kind = 1 from by show ¬ ((3 : Int) = 1);decide),if_neg (show ¬ (shR r a b).kind = 2 from by show ¬ ((3 : Int) = 2);decide),if_pos (show (shR r a b).kind = 3 from rfl)]
  refine ⟨gR_ok,⟨by show (0 : Int) ≤ r;omega,by show r < 2;omega⟩,ha,hb,.inl ⟨rfl,rfl⟩,?_,?_,?_,?_,?_⟩
  · exact ⟨by simp [shR,sheet0],by simp [shR,sheet0],by simp [shR,sheet0,IncrL]⟩
  · exact ⟨by simp [shR],by simp [shR,Bel],by simp [shR,IncrL]⟩
  · exact ⟨by simp [shR,sheet0],by simp [shR,sheet0]⟩
  · exact ⟨by simp [shR,sheet0],by simp [shR,sheet0]⟩
  · simp [shR,sheet0]
theorem shR_of {r a b r' : Int} (hr : r = 0 ∨ r = 1) (ha : 0 ≤ a ∧ a < 100) (hb : 0 ≤ b ∧ b < 100) : OfGR gR r' (shR r a b) ↔ r = r':=⟨fun h => h.2.2.2,fun h => ⟨rfl,shR_ok hr ha hb,rfl,h⟩⟩
theorem best_R {L : List Fct} (h32 : In32 L) {r a b : Int} (hr : r = 0 ∨ r = 1) (ha : 0 ≤ a ∧ a < 100) (hb : 0 ≤ b ∧ b < 100) (hm : shR r a b ∈ L) (h : ∀ x ∈ L,x.kind = 3 → x.sh.ref = r → x = shR r a b) : bestF L gR r = some (shR r a b) :=
  best_only h32 hm ((shR_of hr ha hb).2 rfl) fun x hx ho => h x hx ho.1 ho.2.2.2
def scR (a b : Int) : FScore:=⟨2,(shR 0 a b).sh,10⟩
theorem score_R {L : List Fct} (h0 : bestF L gR 0 = some (shR 0 2 1)) (h1 : bestF L gR 1 = some (shR 1 2 1)) : scoreF L gR = scR 2 1:=by
  unfold scoreF
  rw [h0,h1]
  unfold scoreO scR
  have hs : SameSh (shR 0 2 1).sh (shR 1 2 1).sh:=by rw [SameSh_iff];exact ⟨rfl,rfl,rfl,rfl,rfl,rfl,rfl,rfl,rfl⟩
  simp only [hs,if_true]
  show FScore.mk 2 _ (max 10 10) = _
  rfl
structure LisR (L : List Fct) : Prop where
  in32 : In32 L
  sheets : ∀ x ∈ L,x.kind = 3 → x.sh.g = gR
  moves : ∀ x ∈ L,x.kind ≠ 6
theorem dec_R {L : List Fct} (h : LisR L) (hs : scoreF L gR = scR 2 1) : decC L 0 0 = [scR 2 1]:=by
  refine (decC_of ⟨by simp,fun x => ⟨fun hx => ?_,?_⟩⟩).symm
  · rw [List.mem_singleton] at hx;subst hx
    exact ⟨gR,rfl,rfl,hs,rfl⟩
  · rintro ⟨g,_,_,rfl,h4⟩
    obtain ⟨f,m,ok,k,e,eg,d⟩:=score_agreed h.in32 h4
    have:=h.sheets f m k
    rw [eg] at this
    subst this
    rw [hs];simp
theorem susp_R (x : FScore) : suspC [x] = []:=by
  unfold suspC
  show suspN [x] 1 = []
  rw [suspN_succ]
  have e0 : suspN [x] 0 = []:=by unfold suspN;rfl
  have e1 : suspAt [x] 0 = []:=by
    unfold suspAt
    rw [List.flatMap_eq_nil_iff]
    intro m _
    unfold suspOne
    split
    · rfl
    · rfl
  rw [e0,e1];rfl
theorem offB_R {L : List Fct} (h : LisR L) {g : FGame} {d c p : Int} : OffB L [] g d c p ↔ unfitL (canonL L) p d = true:=by
  unfold OffB
  constructor
  · rintro (⟨⟨x,hx,q⟩,_⟩|q|⟨s,hs,_⟩)
    · exact absurd q.1 (h.moves x hx)
    · exact q
    · cases hs
  · exact fun q => .inr (.inl q)
open Classical in
theorem off_R {L : List Fct} (h : LisR L) (hs : scoreF L gR = scR 2 1) : offL L gR = ([],if unfitL (canonL L) 7 10 = true then [7] else []):=by
  unfold offL
  rw [hs,if_pos (show (scR 2 1).kind = 2 from rfl)]
  show (offS L (suspC (decC L 0 0)) gR 10 1 [],offS L (suspC (decC L 0 0)) gR 10 2 [7]) = _
  rw [dec_R h hs,susp_R]
  unfold offS
  simp only [List.filter_nil,List.filter_cons,offB_R h,decide_eq_true_eq]
theorem two_32 {L : List Fct} (h : ∀ x ∈ L,(∃ r a b,x = shR r a b) ∨ ∃ r,x = ruR r) : LisR L:=⟨fun x hx => by
  rcases h x hx with ⟨r,a,b,rfl⟩|⟨r,rfl⟩ <;> rfl,fun x hx hk => by
  rcases h x hx with ⟨r,a,b,rfl⟩|⟨r,rfl⟩
  · rfl
  · exact absurd hk (by show ¬ ((4 : Int) = 3);decide),fun x hx => by
  rcases h x hx with ⟨r,a,b,rfl⟩|⟨r,rfl⟩
  · show (3 : Int) ≠ 6;decide
  · show (4 : Int) ≠ 6;decide⟩
def twoR : List Fct:=[shR 0 2 1,shR 1 2 1]
def withR (r : FRul) : List Fct:=ruR r :: twoR
theorem twoR_is : LisR twoR:=two_32 fun x hx => by
  unfold twoR at hx
  simp only [List.mem_cons,List.not_mem_nil,or_false] at hx
  rcases hx with rfl|rfl
  · exact .inl ⟨_,_,_,rfl⟩
  · exact .inl ⟨_,_,_,rfl⟩
theorem withR_is (r : FRul) : LisR (withR r):=two_32 fun x hx => by
  unfold withR twoR at hx
  simp only [List.mem_cons,List.not_mem_nil,or_false] at hx
  rcases hx with rfl|rfl|rfl
  · exact .inr ⟨_,rfl⟩
  · exact .inl ⟨_,_,_,rfl⟩
  · exact .inl ⟨_,_,_,rfl⟩
theorem twoR_score : scoreF twoR gR = scR 2 1:=by
  refine score_R (best_R twoR_is.in32 (.inl rfl) (by omega) (by omega) (by simp [twoR]) fun x hx hk hr => ?_) (best_R twoR_is.in32 (.inr rfl) (by omega) (by omega) (by simp [twoR]) fun x hx hk hr => ?_)
  · unfold twoR at hx
    simp only [List.mem_cons,List.not_mem_nil,or_false] at hx
    rcases hx with rfl|rfl
    · rfl
    · exact absurd hr (by show ¬ ((1 : Int) = 0);decide)
  · unfold twoR at hx
    simp only [List.mem_cons,List.not_mem_nil,or_false] at hx
    rcases hx with rfl|rfl
    · exact absurd hr (by show ¬ ((0 : Int) = 1);decide)
    · rfl
theorem withR_score (r : FRul) : scoreF (withR r) gR = scR 2 1:=by
  refine score_R (best_R (withR_is r).in32 (.inl rfl) (by omega) (by omega) (by simp [withR,twoR]) fun x hx hk hr => ?_) (best_R (withR_is r).in32 (.inr rfl) (by omega) (by omega) (by simp [withR,twoR]) fun x hx hk hr => ?_)
  · unfold withR twoR at hx
    simp only [List.mem_cons,List.not_mem_nil,or_false] at hx
    rcases hx with rfl|rfl|rfl
    · exact absurd hk (by show ¬ ((4 : Int) = 3);decide)
    · rfl
    · exact absurd hr (by show ¬ ((1 : Int) = 0);decide)
  · unfold withR twoR at hx
    simp only [List.mem_cons,List.not_mem_nil,or_false] at hx
    rcases hx with rfl|rfl|rfl
    · exact absurd hk (by show ¬ ((4 : Int) = 3);decide)
    · exact absurd hr (by show ¬ ((0 : Int) = 1);decide)
    · rfl
theorem twoR_no4 : ∀ f ∈ twoR,f.kind ≠ 4:=fun f hf => by
  unfold twoR at hf
  simp only [List.mem_cons,List.not_mem_nil,or_false] at hf
  rcases hf with rfl|rfl <;> (show (3 : Int) ≠ 4;decide)
theorem ex_twoR : ofF twoR gR = some ⟨gR,2,1,0,0,0,0,10,false,false⟩:=by
  have hf : forceL (canonL twoR) = []:=force_no4 fun f hf => twoR_no4 f (((canonL_spec twoR twoR_is.in32).2 f).1 hf).1
  have ho:=ofGame_none (C:=canonL twoR) (g:=gR) (by rw [hf];simp)
  rw [ofF_played gR_ok (by rw [ho])]
  unfold playedF
  rw [twoR_score,if_pos (show (scR 2 1).kind = 2 from rfl),off_R twoR_is twoR_score,unfit_no4 twoR_is.in32 twoR_no4]
  rfl
theorem ex_one : ofF [shR 0 2 1] gR = none:=by
  have hl : LisR [shR 0 2 1]:=two_32 fun x hx => by rw [List.mem_singleton] at hx;exact .inl ⟨_,_,_,hx⟩
  have hf : forceL (canonL [shR 0 2 1]) = []:=force_no4 fun f hf => by
    have:=(((canonL_spec _ hl.in32).2 f).1 hf).1
    rw [List.mem_singleton] at this;subst this;show (3 : Int) ≠ 4;decide
  have ho:=ofGame_none (C:=canonL [shR 0 2 1]) (g:=gR) (by rw [hf];simp)
  rw [ofF_played gR_ok (by rw [ho])]
  unfold playedF
  have h0 : bestF [shR 0 2 1] gR 0 = some (shR 0 2 1):=best_R hl.in32 (.inl rfl) (by omega) (by omega) (by simp) fun x hx _ _ => by rw [List.mem_singleton] at hx;exact hx
  have h1 : bestF [shR 0 2 1] gR 1 = none:=(bestF_none hl.in32).2 fun x hx ho => by
    rw [List.mem_singleton] at hx;subst hx
    exact absurd ho.2.2.2 (by show ¬ ((0 : Int) = 1);decide)
  unfold scoreF
  rw [h0,h1]
  rfl
theorem ex_apart : ofF [shR 0 2 1,shR 1 1 2] gR = none:=by
  have hl : LisR [shR 0 2 1,shR 1 1 2]:=two_32 fun x hx => by
    simp only [List.mem_cons,List.not_mem_nil,or_false] at hx
    rcases hx with rfl|rfl
    · exact .inl ⟨_,_,_,rfl⟩
    · exact .inl ⟨_,_,_,rfl⟩
  have hf : forceL (canonL [shR 0 2 1,shR 1 1 2]) = []:=force_no4 fun f hf => by
    have:=(((canonL_spec _ hl.in32).2 f).1 hf).1
    simp only [List.mem_cons,List.not_mem_nil,or_false] at this
    rcases this with rfl|rfl <;> (show (3 : Int) ≠ 4;decide)
  have ho:=ofGame_none (C:=canonL [shR 0 2 1,shR 1 1 2]) (g:=gR) (by rw [hf];simp)
  rw [ofF_played gR_ok (by rw [ho])]
  unfold playedF
  have h0 : bestF [shR 0 2 1,shR 1 1 2] gR 0 = some (shR 0 2 1):=best_R hl.in32 (.inl rfl) (by omega) (by omega) (by simp) fun x hx _ hr => by
    simp only [List.mem_cons,List.not_mem_nil,or_false] at hx
    rcases hx with rfl|rfl
    · rfl
    · exact absurd hr (by show ¬ ((1 : Int) = 0);decide)
  have h1 : bestF [shR 0 2 1,shR 1 1 2] gR 1 = some (shR 1 1 2):=best_R hl.in32 (.inr rfl) (by omega) (by omega) (by simp) fun x hx _ hr => by
    simp only [List.mem_cons,List.not_mem_nil,or_false] at hx
    rcases hx with rfl|rfl
    · exact absurd hr (by show ¬ ((0 : Int) = 1);decide)
    · rfl
  unfold scoreF
  rw [h0,h1]
  unfold scoreO
  have hs : ¬ SameSh (shR 0 2 1).sh (shR 1 1 2).sh:=fun q => by
    rw [SameSh_iff] at q
    exact absurd q.2.1 (by show ¬ ((2 : Int) = 1);decide)
  simp only [hs,if_false]
  rfl
theorem withR_rest (r : FRul) : ∀ x ∈ withR r,x ≠ ruR r → x.kind ≠ 4 ∧ x.kind ≠ 5:=fun x hx hne => by
  unfold withR twoR at hx
  simp only [List.mem_cons,List.not_mem_nil,or_false] at hx
  rcases hx with rfl|rfl|rfl
  · exact absurd rfl hne
  · exact ⟨by show (3 : Int) ≠ 4;decide,by show (3 : Int) ≠ 5;decide⟩
  · exact ⟨by show (3 : Int) ≠ 4;decide,by show (3 : Int) ≠ 5;decide⟩
theorem withR_force {r : FRul} (hok : FctOk (ruR r)) : forceL (canonL (withR r)) = [ruR r]:=force_one (withR_is r).in32 (by simp [withR]) hok rfl (withR_rest r)
def rF : FRul:={ rul0 with kind:=1,g:=gR,club:=1 }
def rA : FRul:={ rul0 with kind:=2,g:=gR }
def rU : FRul:={ rul0 with kind:=6,player:=7,lo:=10,hi:=10 }
theorem ruR_ok {r : FRul} (hg : RulGood { r with case:=1,inst:=1 }) (ho : onlyR { r with case:=1,inst:=1 } = { r with case:=1,inst:=1 }) : FctOk (ruR r):=by
  refine ⟨⟨by show (0 : Int) ≤ 20;decide,by show (20 : Int) < 1048577;decide⟩,⟨by show (0 : Int) ≤ 20;decide,by show (20 : Int) < 1048577;decide⟩,?_,rfl⟩
  unfold ContOk
  rw [if_neg (show ¬ (ruR r).kind = 1 from by show ¬ ((4 : Int) = 1);decide),if_neg (show ¬ (ruR r).kind = 2 from by show ¬ ((4 : Int) = 2);decide),if_neg (show ¬ (ruR r).kind = 3 from by show ¬ ((4 : Int) = 3);decide),if_pos (show (ruR r).kind = 4 from rfl)]
  exact ⟨by show (1 : Int) ≤ 1;decide,by show (1 : Int) ≤ 1048576;decide,by show (1 : Int) ≤ 1;decide,by show (1 : Int) ≤ 3;decide,hg,ho⟩
theorem rF_ok : FctOk (ruR rF):=ruR_ok ⟨gR_ok,.inl rfl⟩ rfl
theorem rA_ok : FctOk (ruR rA):=ruR_ok gR_ok rfl
theorem rU_ok : FctOk (ruR rU):=ruR_ok ⟨⟨by decide,by decide⟩,by decide,by decide,by decide⟩ rfl
theorem ex_lost : ofF (withR rF) gR = some { res0 with g:=gR,ag:=3,day:=20,forf:=true }:=by
  rw [ofF_ruled gR_ok (ofGame_one (withR_force rF_ok) ⟨rfl,.inl rfl⟩)]
  rfl
theorem ex_annulled : ofF (withR rA) gR = none:=by
  rw [ofF_ruled gR_ok (ofGame_one (withR_force rA_ok) ⟨rfl,.inr (.inl rfl)⟩)]
  rfl
theorem ex_unfit : ofF (withR rU) gR = some { res0 with g:=gR,hg:=3,day:=10,forf:=true }:=by
  have hf:=withR_force rU_ok
  have ho:=ofGame_none (C:=canonL (withR rU)) (g:=gR) (by
    rw [hf]
    intro f hf2
    rw [List.mem_singleton] at hf2;subst hf2
    rintro ⟨_,q|q|q⟩
    · exact absurd q (by show ¬ ((6 : Int) = 1);decide)
    · exact absurd q (by show ¬ ((6 : Int) = 2);decide)
    · exact absurd q (by show ¬ ((6 : Int) = 3);decide))
  rw [ofF_played gR_ok (by rw [ho])]
  unfold playedF
  have hu : unfitL (canonL (withR rU)) 7 10 = true:=by
    unfold unfitL
    rw [hf];rfl
  rw [withR_score,if_pos (show (scR 2 1).kind = 2 from rfl),off_R (withR_is rU) (withR_score rU),hu]
  rfl
end Go.Hw
set_option linter.unusedVariables false
set_option linter.unusedSimpArgs false
namespace Go.Hw
open Go
theorem mentS_pre (s c : Int) (o : List FGame) (f : Fct) : ∃ r,mentS s c o f = o ++ r:=by
  unfold mentS
  split
  · exact ⟨_,rfl⟩
  · exact ⟨[],(List.append_nil _).symm⟩
theorem mentL_pre (A B : List Fct) (s c : Int) : ∃ r,mentL (A ++ B) s c = mentL A s c ++ r:=by
  unfold mentL
  rw [List.foldl_append]
  generalize A.foldl (mentS s c) [] = o
  induction B generalizing o with
  | nil => exact ⟨[],(List.append_nil _).symm⟩
  | cons f r ih =>
    rw [List.foldl_cons]
    obtain ⟨r1,e1⟩:=mentS_pre s c o f
    obtain ⟨r2,e2⟩:=ih (mentS s c o f)
    exact ⟨r1 ++ r2,by rw [e2,e1,List.append_assoc]⟩
def metM (o : List FGame) : List (FGame × Bool):=o.map fun g => (g,true)
theorem metM_look (g : FGame) : ∀ o : List FGame,(lookA g (metM o)).getD false = decide (g ∈ o)
  | [] => by simp [metM,lookA]
  | x :: r => by
    have ih:=metM_look g r
    unfold metM at ih ⊢
    rw [List.map_cons]
    unfold lookA
    by_cases h : x = g
    · rw [if_pos h];subst h;simp
    · rw [if_neg h,ih]
      rw [decide_eq_decide,List.mem_cons]
      exact ⟨.inr,fun w => w.resolve_left (fun e => h e.symm)⟩
theorem metM_ins {g : FGame} : ∀ {o : List FGame},g ∉ o → insA g true (metM o) = metM (o ++ [g])
  | [],_ => rfl
  | x :: r,h => by
    have ih:=metM_ins (g:=g) (o:=r) (fun w => h (List.mem_cons_of_mem _ w))
    unfold metM at ih ⊢
    rw [List.cons_append,List.map_cons,List.map_cons]
    unfold insA
    rw [if_neg (fun e => h (by rw [← e];exact List.mem_cons_self)),ih]
open Classical in
theorem entL_snoc (L : List Fct) (s c : Int) (f : Fct) : entL (L ++ [f]) s c = if EntOf s c f then entL L s c ++ [f] else entL L s c:=by
  unfold entL
  rw [List.filter_append]
  by_cases q : EntOf s c f <;> simp [q]
open Classical in
theorem entF_snoc (L : List Fct) (s c : Int) (f : Fct) : entF (L ++ [f]) s c = if EntOf s c f then takeF (entF L s c) f else entF L s c:=by
  unfold entF
  rw [entL_snoc]
  split
  · rw [List.foldl_append];rfl
  · rfl
def LastI (l : List (Fsh × Fct)) (o : Option Fct) (z : Fsh × Fct) (ok : Bool) : Prop:=(o = none ∧ z = (fsh0,fct0) ∧ ok = false) ∨ (o = some z.2 ∧ z ∈ l ∧ FctOk z.2 ∧ ok = true)
theorem ent_clubs {f : Fct} (h : FctOk f) (hk : f.kind = 1) : f.eClubs.length ≤ 24 ∧ IncrL f.eClubs:=by
  have:=h.2.2.1
  unfold ContOk at this
  rw [if_pos hk] at this
  exact ⟨this.2.2.1.2.1,this.2.2.2.1⟩
end Go.Hw
set_option linter.unusedVariables false
set_option linter.unusedSimpArgs false
namespace Go.Hw
open Go Go.Lib
def eX1 : Fct:={ fct0 with kind:=1,eClubs:=[1,2],eRules:=[114] }
def eX2 : Fct:={ fct0 with kind:=1,known:=5,eClubs:=[3,4],eRules:=[114] }
theorem eX_ok {f : Fct} {k a b : Int} (e : f = { fct0 with kind:=1,known:=k,eClubs:=[a,b],eRules:=[114] }) (hk : Bel k 1048577) (ha : Bel a 192) (hb : Bel b 192) (hab : a < b) : FctOk f:=by
  subst e
  refine ⟨⟨by show (0 : Int) ≤ 0;decide,by show (0 : Int) < 1048577;decide⟩,hk,?_,rfl⟩
  unfold ContOk
  rw [if_pos (show (1 : Int) = 1 from rfl)]
  refine ⟨⟨by show (0 : Int) ≤ 0;decide,by show (0 : Int) < 64;decide⟩,⟨by show (0 : Int) ≤ 0;decide,by show (0 : Int) < 16;decide⟩,⟨by show 2 ≤ 2;decide,by show 2 ≤ 24;decide,fun c hc => ?_⟩,?_,?_⟩
  · have hc : c ∈ [a,b]:=hc
    simp only [List.mem_cons,List.not_mem_nil,or_false] at hc
    rcases hc with rfl|rfl
    · exact ha
    · exact hb
  · show List.Pairwise (· < ·) [a,b]
    simp [hab]
  · show (if (0 : Int) < 8 then NameOk [114] else ([114] : List UInt8) = [])
    rw [if_pos (show (0 : Int) < 8 by decide)]
    refine ⟨by simp,by show 1 ≤ 24;decide,fun c hc => ?_,fun c hc => ?_⟩
    · have hc : some (114 : UInt8) = some c:=hc
      cases hc;decide
    · have hc : c ∈ [(114 : UInt8)]:=hc
      rw [List.mem_singleton] at hc;subst hc
      exact .inl (by decide)
theorem eX1_ok : FctOk eX1:=eX_ok (k:=0) (a:=1) (b:=2) rfl (by unfold Bel;decide) (by unfold Bel;decide) (by unfold Bel;decide) (by decide)
theorem eX2_ok : FctOk eX2:=eX_ok (k:=5) (a:=3) (b:=4) rfl (by unfold Bel;decide) (by unfold Bel;decide) (by unfold Bel;decide) (by decide)
theorem eX1_of : EntOf 0 0 eX1:=⟨rfl,rfl,rfl,eX1_ok⟩
theorem eX2_of : EntOf 0 0 eX2:=⟨rfl,rfl,rfl,eX2_ok⟩
theorem ent_one : entF [eX1] 0 0 = some eX1:=by
  have:=entF_snoc [] 0 0 eX1
  rw [if_pos eX1_of] at this
  exact this
theorem ent_two : entF [eX2,eX1] 0 0 = some eX2:=by
  have h1:=entF_snoc [] 0 0 eX2
  rw [if_pos eX2_of] at h1
  have h1 : entF [eX2] 0 0 = some eX2:=h1
  have h2:=entF_snoc [eX2] 0 0 eX1
  rw [if_pos eX1_of,h1] at h2
  refine h2.trans ?_
  have hn : ¬ cmpF eX2 eX1 < 0:=fun w => by
    have w:=cmpF_lt.1 w
    unfold LtF at w
    have e1 : eX2.known = 5:=rfl
    have e2 : eX1.known = 0:=rfl
    omega
  show (if cmpF eX2 eX1 < 0 then some eX1 else some eX2) = some eX2
  rw [if_neg hn]
theorem ent_nil (s c : Int) : entF [] s c = none:=rfl
theorem of_one (g : FGame) : ofF [eX1] g = none:=by
  cases h : ofF [eX1] g with
  | none => rfl
  | some x =>
    obtain ⟨hg,f,hf,_,e⟩:=ofF_ment (L:=[eX1]) (fun f hf => by rw [List.mem_singleton] at hf;subst hf;rfl) h
    rw [List.mem_singleton] at hf
    subst hf
    have : g = game0:=e.symm
    subst this
    exact absurd rfl hg.2.2.2.2
open Classical in
theorem open_one : openL [eX1] 0 0 = [⟨0,0,1,2⟩,⟨0,0,2,1⟩] ∧ openE [eX1] 0 0 = 0:=by
  unfold openL openE
  rw [if_pos (by decide),if_pos (by decide),ent_one]
  refine ⟨?_,rfl⟩
  show openK [eX1] 0 0 [1,2] [1,2] = _
  simp [openK,openH,isOpen,of_one]
theorem open_nil0 : openL [] 0 0 = [] ∧ openE [] 0 0 = 190:=by
  unfold openL openE
  rw [if_pos (by decide),if_pos (by decide),ent_nil]
  exact ⟨rfl,rfl⟩
theorem open_nil8 : openL [] 0 8 = [] ∧ openE [] 0 8 = 1:=by
  unfold openL openE
  rw [if_neg (by decide),if_neg (by decide)]
  exact ⟨rfl,rfl⟩
open Classical in
theorem part_at {L : List Fct} (h32 : In32 L) {s c : Int} {cs : List Int} {i k : Nat} (hi : i < cs.length) (hk : k < cs.length) (hne : cs.getD i 0 ≠ cs.getD k 0) (x : FGame) (hx : x = ⟨s,c,cs.getD i 0,cs.getD k 0⟩) (at_ : Nat) (hat : at_ = (openK L s c (cs.take i) cs ++ openH L s c (cs.getD i 0) (cs.take k)).length) :
    (cntG (allC L s c) x = 0 ∧ at_ < (openK L s c cs cs).length ∧ (openK L s c cs cs).getD at_ game0 = x ∧ isOpen L s c (cs.getD i 0) (cs.getD k 0)) ∨
    (cntG (allC L s c) x = 1 ∧ ¬ isOpen L s c (cs.getD i 0) (cs.getD k 0) ∧ (at_ < (openK L s c cs cs).length → (openK L s c cs cs).getD at_ game0 ≠ x)):=by
  have hcnt:=cnt_all h32 (s:=s) (c:=c) (g:=x) (by rw [hx]) (by rw [hx])
  have hop:=openK_at L s c cs cs hi hk
  by_cases ho : ofF L x = none
  · rw [if_pos ho] at hcnt
    have hio : isOpen L s c (cs.getD i 0) (cs.getD k 0):=⟨hne,by rw [← hx];exact ho⟩
    rw [if_pos hio] at hop
    refine .inl ⟨hcnt,?_,?_,hio⟩
    · rw [hop,hat,List.length_append,List.length_append,List.length_append];simp
    · rw [hop,hat,List.getD_eq_getElem?_getD,List.getElem?_append_right (Nat.le_refl _),Nat.sub_self]
      rw [hx];rfl
  · rw [if_neg ho] at hcnt
    refine .inr ⟨hcnt,fun w => ho (by rw [hx];exact w.2),fun hlt e => ho ?_⟩
    rw [← e]
    refine openK_mem (s:=s) (c:=c) (hs:=cs) (aa:=cs) ?_
    rw [List.getD_eq_getElem?_getD,List.getElem?_eq_getElem hlt,Option.getD_some]
    exact List.getElem_mem hlt
end Go.Hw
set_option linter.unusedVariables false
namespace Go.Hw
theorem incr_ne {l : List Int} (h : IncrL l) {i k : Nat} (hi : i < l.length) (hk : k < l.length) (hne : i ≠ k) : l.getD i 0 ≠ l.getD k 0:=by
  have e : ∀ j (hj : j < l.length),l.getD j 0 = l[j]:=fun j hj => by rw [List.getD_eq_getElem?_getD,List.getElem?_eq_getElem hj];rfl
  rw [e i hi,e k hk]
  have h:=List.pairwise_iff_getElem.1 h
  rcases Nat.lt_or_gt_of_ne hne with w|w
  · have:=h i k hi hk w;omega
  · have:=h k i hk hi w;omega
end Go.Hw
