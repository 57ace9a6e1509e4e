import Derived.Lib.ItoaNum
import Derived.Lib.ItoaMem
set_option linter.all false
namespace Go.Hw
open Go Go.Lib
def undig (l:List UInt8):Nat:=l.foldl (fun a d=>10 * a+(d.toNat-48)) 0
theorem Lda (l:List UInt8)(d:UInt8):undig (l++[d])=10 * undig l+(d.toNat-48):=by
 unfold undig;rw [List.foldl_append];rfl
theorem Dba (u:Nat):undig (decDigits u)=u:=by
 induction u using Nat.strongRecOn with
 | _ u ih =>
   rw [decDigits]
   split
   · rename_i h
     have:(UInt8.ofNat (48+u)).toNat=48+u:=by rw [UInt8.toNat_ofNat'];omega
     simp [undig];omega
   · rename_i h
     rw [Lda,ih (u / 10) (by omega)]
     have:(UInt8.ofNat (48+u % 10)).toNat=48+u % 10:=by rw [UInt8.toNat_ofNat'];omega
     rw [this];omega
theorem dec_inj {u v:Nat}(h:decDigits u=decDigits v):u=v:=by rw [← Dba u,h,Dba]
def Dig (c:UInt8):Prop:=c=45∨(48≤c.toNat∧c.toNat≤57)
theorem Hwa (u:Nat):∀ c∈decDigits u,48≤c.toNat∧c.toNat≤57:=by
 induction u using Nat.strongRecOn with
 | _ u ih =>
   rw [decDigits]
   split
   · rename_i h
     intro c hc
     rw [List.mem_singleton] at hc;subst hc
     rw [UInt8.toNat_ofNat'];omega
   · rename_i h
     intro c hc
     rw [List.mem_append,List.mem_singleton] at hc
     rcases hc with hc|hc
     · exact ih (u / 10) (by omega) c hc
     · subst hc;rw [UInt8.toNat_ofNat'];omega
theorem itoa_dig (n:Int):∀ c∈itoa n,Dig c:=by
 unfold itoa
 split
 · intro c hc
   rw [List.mem_cons] at hc
   rcases hc with hc|hc
   · exact .inl hc
   · exact .inr (Hwa _ c hc)
 · exact fun c hc=>.inr (Hwa _ c hc)
theorem Jua {m n:Int}(h:itoa m=itoa n):m=n:=by
 have key:∀ u v,(45:UInt8)::decDigits u≠decDigits v:=fun u v e=>by
  have h1:=Hwa v 45 (by rw [← e];simp)
  have:(45:UInt8).toNat=45:=rfl
  omega
 unfold itoa at h
 split at h <;> split at h
 · have:=dec_inj (List.cons.inj h).2;omega
 · exact absurd h (key _ _)
 · exact absurd h.symm (key _ _)
 · have:=dec_inj h;omega
def SD {α:Type} (P:α→Prop) (e:α→List UInt8):Prop:=∀ a b s t,P a→P b→e a++s=e b++t→a=b∧s=t
theorem SD.mono {α:Type}{P Q:α→Prop}{e:α→List UInt8}(h:SD Q e)(hp:∀ a,P a→Q a):SD P e:=fun a b s t ha hb=>h a b s t (hp a ha) (hp b hb)
theorem SD.inj {α:Type}{P:α→Prop}{e:α→List UInt8}(h:SD P e){a b:α}(ha:P a)(hb:P b)(he:e a=e b):a=b :=
 (h a b [] [] ha hb (by rw [he])).1
theorem A8a {x:UInt8}:∀ {a b s t:List UInt8},x ∉ a→x ∉ b→a++x::s=b++x::t→a=b∧s=t
 | [],[],_,_,_,_,h=>⟨rfl,(List.cons.inj h).2⟩
 | [],c::b,_,_,_,hb,h=>by
   have:=(List.cons.inj h).1;subst this;exact absurd List.mem_cons_self hb
 | c::a,[],_,_,ha,_,h=>by
   have:=(List.cons.inj h).1;subst this;exact absurd List.mem_cons_self ha
 | c::a,d::b,s,t,ha,hb,h=>by
   obtain ⟨h1,h2⟩:=List.cons.inj h
   subst h1
   obtain ⟨rfl,h3⟩:=A8a (fun hh=>ha (List.mem_cons_of_mem _ hh)) (fun hh=>hb (List.mem_cons_of_mem _ hh)) h2
   exact ⟨rfl,h3⟩
theorem Bna {c:UInt8}(h1:c≠45)(h2:57<c.toNat)(n:Int):c ∉ itoa n:=fun h=>by
 rcases itoa_dig n c h with h|h
 · exact h1 h
 · omega
def Fi (n:Int):List UInt8:=105::(itoa n++[101])
def Hf (s:List UInt8):List UInt8:=itoa s.length++58::s
theorem Lq:SD (fun _=>True) Fi:=by
 intro a b s t _ _ h
 unfold Fi at h
 rw [List.cons_append,List.cons_append,List.append_assoc,List.append_assoc] at h
 obtain ⟨h1,h2⟩:=A8a (Bna (by decide) (by decide) a) (Bna (by decide) (by decide) b) (List.cons.inj h).2
 exact ⟨Jua h1,h2⟩
theorem Koa:SD (fun _=>True) Hf:=by
 intro a b s t _ _ h
 unfold Hf at h
 rw [List.append_assoc,List.append_assoc,List.cons_append,List.cons_append] at h
 obtain ⟨h1,h2⟩:=A8a (Bna (by decide) (by decide) _) (Bna (by decide) (by decide) _) h
 have h3:=Jua h1
 exact List.append_inj h2 (by omega)
def Cka {α:Type} (e:α→List UInt8) (l:List α):List UInt8:=108::(l.flatMap e++[101])
def Opens (e:List UInt8):Prop:=∃ c r,e=c::r∧c≠101
theorem Ksa {α:Type}{P:α→Prop}{e:α→List UInt8}(he:SD P e)(ho:∀ a,P a→Opens (e a)):SD (fun l=>∀ a∈l,P a) (Cka e):=by
 have key:∀ (a b:List α) (s t:List UInt8),(∀ x∈a,P x)→(∀ x∈b,P x)→a.flatMap e++101::s=b.flatMap e++101::t→a=b∧s=t:=by
  intro a
  induction a with
  | nil =>
    intro b s t _ hb h
    cases b with
    | nil=>exact ⟨rfl,(List.cons.inj h).2⟩
    | cons y b =>
      obtain ⟨c,r,h1,h2⟩:=ho y (hb y List.mem_cons_self)
      rw [List.flatMap_cons,h1] at h
      exact absurd (List.cons.inj h).1.symm h2
  | cons x a ih =>
    intro b s t ha hb h
    cases b with
    | nil =>
      obtain ⟨c,r,h1,h2⟩:=ho x (ha x List.mem_cons_self)
      rw [List.flatMap_cons,h1] at h
      exact absurd (List.cons.inj h).1 h2
    | cons y b =>
      rw [List.flatMap_cons,List.flatMap_cons,List.append_assoc,List.append_assoc] at h
      obtain ⟨rfl,h2⟩:=he x y _ _ (ha x List.mem_cons_self) (hb y List.mem_cons_self) h
      obtain ⟨rfl,h3⟩:=ih b s t (fun z hz=>ha z (List.mem_cons_of_mem _ hz)) (fun z hz=>hb z (List.mem_cons_of_mem _ hz)) h2
      exact ⟨rfl,h3⟩
 intro a b s t ha hb h
 unfold Cka at h
 rw [List.cons_append,List.cons_append,List.append_assoc,List.append_assoc] at h
 exact key a b s t ha hb (List.cons.inj h).2
theorem M5a (n:Int):Opens (Fi n):=⟨105,_,rfl,by decide⟩
theorem H7a {α:Type}(e:α→List UInt8)(l:List α):Opens (Cka e l):=⟨108,_,rfl,by decide⟩
def Ey (a b:Int):Int:=if a<b then -1 else if b<a then 1 else 0
def Tv:List UInt8→List UInt8→Int
 | [],[]=>0
 | [],_::_ => -1
 | _::_,[]=>1
 | a::x,b::y=>if a.toNat<b.toNat then -1 else if b.toNat<a.toNat then 1 else Tv x y
theorem H1a:∀ {a b:List UInt8},Tv a b=0↔a=b
 | [],[]=>by simp [Tv]
 | [],_::_=>by simp [Tv]
 | _::_,[]=>by simp [Tv]
 | a::x,b::y=>by
   have ih:=@H1a x y
   unfold Tv
   constructor
   · intro h
     split at h
     · cases h
     · split at h
       · cases h
       · have:a=b:=UInt8.toNat_inj.1 (by omega)
         rw [this,ih.1 h]
   · intro h
     obtain ⟨h1,h2⟩:=List.cons.inj h
     subst h1
     rw [if_neg (by omega),if_neg (by omega)];exact ih.2 h2
theorem Fba:∀ (a b:List UInt8),Tv b a = - Tv a b
 | [],[]=>by simp [Tv]
 | [],_::_=>by simp [Tv]
 | _::_,[]=>by simp [Tv]
 | a::x,b::y=>by
   have ih:=Fba x y
   unfold Tv
   by_cases h1:a.toNat<b.toNat
   · rw [if_neg (by omega),if_pos h1,if_pos h1];rfl
   · by_cases h2:b.toNat<a.toNat
     · rw [if_pos h2,if_neg h1,if_pos h2]
     · rw [if_neg h2,if_neg h1,if_neg h1,if_neg h2];exact ih
theorem Asa:∀ {a b c:List UInt8},Tv a b<0→Tv b c<0→Tv a c<0
 | [],[],_,h,_=>by simp [Tv] at h
 | _::_,[],_,h,_=>by simp [Tv] at h
 | _,_::_,[],_,h=>by simp [Tv] at h
 | [],_::_,_::_,_,_=>by simp [Tv]
 | a::x,b::y,c::z,h1,h2=>by
   have ih:=@Asa x y z
   unfold Tv at h1 h2 ⊢
   split at h1
   · split at h2
     · rw [if_pos (by omega)];decide
     · split at h2
       · omega
       · rw [if_pos (by omega)];decide
   · split at h1
     · omega
     · split at h2
       · rw [if_pos (by omega)];decide
       · split at h2
         · omega
         · rw [if_neg (by omega),if_neg (by omega)];exact ih h1 h2
end Go.Hw
namespace Go.Hw
open Go Go.Lib
structure Bl where
 s:Int
 c:Int
 h:Int
 a:Int
deriving DecidableEq,Inhabited
structure Fy where
 p:Int
 red:Bool
deriving DecidableEq,Inhabited
structure El where
 g:Bl
 ref:Int
 hg:Int
 ag:Int
 hp:Int
 ap:Int
 hs:List Int
 asn : List Int
 hc:List Fy
 ac:List Fy
deriving DecidableEq,Inhabited
structure Iz where
 case:Int
 inst:Int
 kind:Int
 g:Bl
 club:Int
 player:Int
 season:Int
 comp:Int
 points:Int
 amount:Int
 hg:Int
 ag:Int
 lo:Int
 hi:Int
deriving DecidableEq,Inhabited
structure Fct where
 kind:Int
 day:Int
 known:Int
 eS:Int
 eC:Int
 eClubs:List Int
 eRules:List UInt8
 fg:Bl
 venue:Int
 sh:El
 ru:Iz
 aCase:Int
 aInst:Int
 aSusp:Bool
 mP:Int
 mTo:Int
 lS:Int
 lC:Int
 lO:List Int
 void:List UInt8
deriving DecidableEq,Inhabited
def Hja:Bl:=⟨0,0,0,0⟩
def Ki:El:=⟨Hja,0,0,0,0,0,[],[],[],[]⟩
def Ps:Iz:=⟨0,0,0,Hja,0,0,0,0,0,0,0,0,0,0⟩
def Jp:Fct:=⟨0,0,0,0,0,[],[],Hja,0,Ki,Ps,0,0,false,0,0,0,0,[],List.replicate 32 0⟩
def Bel (n most:Int):Prop:=0≤n∧n<most
def Fd (g:Bl):Prop:=Bel g.s 64∧Bel g.c 16∧Bel g.h 192∧Bel g.a 192∧g.h≠g.a
def Cva (l:List Int):Prop:=l.Pairwise (· < ·)
def Yt (s:List UInt8):Prop:=s≠[]∧s.length≤24∧(∀ c,s.head? = some c→97≤c.toNat∧c.toNat≤122)∧∀ c∈s,(97≤c.toNat∧c.toNat≤122)∨(48≤c.toNat∧c.toNat≤57)∨c.toNat=95
def Cqa (l:List Int):Prop:=l.length≤40∧(∀ p∈l,Bel p 8192)∧Cva l
def I0a (l:List Fy) (sq:List Int):Prop:=l.length≤40∧∀ c∈l,c.p∈sq
def Gw (x:El):Prop :=
 Fd x.g∧Bel x.ref 2∧Bel x.hg 100∧Bel x.ag 100 ∧
 ((x.hp=0∧x.ap=0)∨(8≤x.g.c∧Bel x.hp 100∧Bel x.ap 100∧x.hp≠x.ap)) ∧
 Cqa x.hs∧Cqa x.asn∧I0a x.hc x.hs∧I0a x.ac x.asn∧∀ p∈x.hs,p ∉ x.asn
def EntOk (x:Fct):Prop :=
 Bel x.eS 64∧Bel x.eC 16∧(2≤x.eClubs.length∧x.eClubs.length≤24∧∀ c∈x.eClubs,Bel c 192)∧Cva x.eClubs∧(if x.eC<8 then Yt x.eRules else x.eRules=[])
def LotOk (x:Fct):Prop:=Bel x.lS 64∧Bel x.lC 16∧(2≤x.lO.length∧x.lO.length≤24∧∀ c∈x.lO,Bel c 192)∧x.lO.Nodup
def Li (lo hi:Int):Prop:=0≤lo∧lo≤hi∧hi≤1048576
def Ry (r:Iz):Iz :=
 let z:Iz:={ Ps with case:=r.case,inst:=r.inst,kind:=r.kind }
 if r.kind=1 then { z with g:=r.g,club:=r.club }
 else if r.kind=2 then { z with g:=r.g }
 else if r.kind=3 then { z with g:=r.g,hg:=r.hg,ag:=r.ag }
 else if r.kind=4 then { z with club:=r.club,season:=r.season,comp:=r.comp,points:=r.points }
 else if r.kind=5 then { z with club:=r.club,lo:=r.lo,hi:=r.hi }
 else if r.kind=6 then { z with player:=r.player,lo:=r.lo,hi:=r.hi }
 else if r.kind=7 then { z with club:=r.club,amount:=r.amount }
 else z
def Gk (r:Iz):Prop :=
 if r.kind=1 then Fd r.g∧(r.club=r.g.h∨r.club=r.g.a)
 else if r.kind=2 then Fd r.g
 else if r.kind=3 then Fd r.g∧Bel r.hg 100∧Bel r.ag 100
 else if r.kind=4 then Bel r.club 192∧Bel r.season 64∧Bel r.comp 16∧1≤r.points∧r.points≤99
 else if r.kind=5 then Bel r.club 192∧Li r.lo r.hi
 else if r.kind=6 then Bel r.player 8192∧Li r.lo r.hi
 else if r.kind=7 then Bel r.club 192∧1≤r.amount∧r.amount≤1125899906842624
 else r.kind=8
def Fsa (r:Iz):Prop:=1≤r.case∧r.case≤1048576∧1≤r.inst∧r.inst≤3∧Gk r∧Ry r=r
def Nr (f:Fct):Fct :=
 let z:Fct:={ Jp with kind:=f.kind,day:=f.day,known:=f.known }
 if f.kind=1 then { z with eS:=f.eS,eC:=f.eC,eClubs:=f.eClubs,eRules:=f.eRules }
 else if f.kind=2 then { z with fg:=f.fg,venue:=f.venue }
 else if f.kind=3 then { z with sh:=f.sh }
 else if f.kind=4 then { z with ru:=f.ru }
 else if f.kind=5 then { z with aCase:=f.aCase,aInst:=f.aInst,aSusp:=f.aSusp }
 else if f.kind=6 then { z with mP:=f.mP,mTo:=f.mTo }
 else if f.kind=7 then { z with lS:=f.lS,lC:=f.lC,lO:=f.lO }
 else { z with void:=f.void }
def Fb (f:Fct):Prop :=
 if f.kind=1 then EntOk f
 else if f.kind=2 then Fd f.fg∧Bel f.venue 4096
 else if f.kind=3 then Gw f.sh
 else if f.kind=4 then Fsa f.ru
 else if f.kind=5 then 1≤f.aCase∧f.aCase≤1048576∧1≤f.aInst∧f.aInst<3
 else if f.kind=6 then Bel f.mP 8192∧(f.mTo = -1∨Bel f.mTo 192)
 else if f.kind=7 then LotOk f
 else f.kind=8
def Cg (f:Fct):Prop:=Bel f.day 1048577∧Bel f.known 1048577∧Fb f∧Nr f=f
def Gj (l:List Int):List UInt8:=Cka Fi l
def Ns (g:Bl):List Int:=[g.s,g.c,g.h,g.a]
def Vj (c:Fy):List Int:=[c.p,if c.red then 1 else 0]
def Lf (l:List Fy):List UInt8:=Cka (fun c=>Gj (Vj c)) l
def ints (l:List Int):List UInt8:=l.flatMap Fi
def Pm (f:Fct):List UInt8 :=
 if f.kind=1 then Fi f.eS++(Fi f.eC++(Gj f.eClubs++Hf f.eRules))
 else if f.kind=2 then Gj (Ns f.fg)++Fi f.venue
 else if f.kind=3 then Gj (Ns f.sh.g)++(ints [f.sh.ref,f.sh.hg,f.sh.ag,f.sh.hp,f.sh.ap]++(Gj f.sh.hs++(Gj f.sh.asn++(Lf f.sh.hc++Lf f.sh.ac))))
 else if f.kind=4 then ints [f.ru.case,f.ru.inst,f.ru.kind]++(Gj (Ns f.ru.g)++ints [f.ru.club,f.ru.player,f.ru.season,f.ru.comp,f.ru.points,f.ru.amount,f.ru.hg,f.ru.ag,f.ru.lo,f.ru.hi])
 else if f.kind=5 then ints [f.aCase,f.aInst,if f.aSusp then 1 else 0]
 else if f.kind=6 then ints [f.mP,f.mTo]
 else if f.kind=7 then Fi f.lS++(Fi f.lC++Gj f.lO)
 else Hf f.void
def B9a (f:Fct):List UInt8 :=
 100::(Hf "day".toUTF8.data.toList++(Fi f.day++(Hf "kind".toUTF8.data.toList++(Fi f.kind++(Hf "known".toUTF8.data.toList++(Fi f.known++(Hf "what".toUTF8.data.toList++(108::(Pm f++[101]++[101])))))))))
theorem Lc:SD (fun _=>True) Gj:=(Ksa Lq fun a _=>M5a a).mono fun _ _ _ _=>trivial
theorem Xk {l m:List Int}{s t:List UInt8}(hl:l.length=m.length)(h:ints l++s=ints m++t):l=m∧s=t:=by
 induction l generalizing m with
 | nil =>
   cases m with
   | nil=>exact ⟨rfl,h⟩
   | cons _ _=>cases hl
 | cons a l ih =>
   cases m with
   | nil=>cases hl
   | cons b m =>
     unfold ints at h
     rw [List.flatMap_cons,List.flatMap_cons,List.append_assoc,List.append_assoc] at h
     obtain ⟨rfl,h2⟩:=Lq a b _ _ trivial trivial h
     obtain ⟨rfl,h3⟩:=ih (by simpa using hl) h2
     exact ⟨rfl,h3⟩
theorem cardL_inj {a b:Fy}(h:Vj a=Vj b):a=b:=by
 obtain ⟨p,r⟩:=a
 obtain ⟨q,t⟩:=b
 simp only [Vj,List.cons.injEq,and_true] at h
 obtain ⟨rfl,h2⟩:=h
 cases r <;> cases t <;> simp_all
theorem Xq {a b:Bl}(h:Ns a=Ns b):a=b:=by
 obtain ⟨_,_,_,_⟩:=a
 obtain ⟨_,_,_,_⟩:=b
 simp_all [Ns]
theorem card_sd:SD (fun _=>True) (fun c:Fy=>Gj (Vj c)):=fun a b s t _ _ h=>by
 obtain ⟨h1,h2⟩:=Lc _ _ _ _ trivial trivial h
 exact ⟨cardL_inj h1,h2⟩
theorem Fna:SD (fun _=>True) Lf:=(Ksa card_sd fun a _=>H7a _ _).mono fun _ _ _ _=>trivial
theorem Hxa {a b:Fct}{s t:List UInt8}(hk:a.kind=b.kind)(hv:a.void.length=b.void.length)(h:Pm a++s=Pm b++t)(hd:a.day=b.day)(hn:a.known=b.known):Nr a=Nr b∧s=t:=by
 unfold Pm at h
 unfold Nr
 rw [← hk] at h ⊢
 rw [← hd,← hn]
 dsimp only
 by_cases h1:a.kind=1
 · rw [if_pos h1,if_pos h1] at h ⊢
   simp only [List.append_assoc] at h
   obtain ⟨e1,h⟩:=Lq _ _ _ _ trivial trivial h
   obtain ⟨e2,h⟩:=Lq _ _ _ _ trivial trivial h
   obtain ⟨e3,h⟩:=Lc _ _ _ _ trivial trivial h
   obtain ⟨e4,h⟩:=Koa _ _ _ _ trivial trivial h
   rw [e1,e2,e3,e4];exact ⟨rfl,h⟩
 rw [if_neg h1,if_neg h1] at h ⊢
 by_cases h1:a.kind=2
 · rw [if_pos h1,if_pos h1] at h ⊢
   simp only [List.append_assoc] at h
   obtain ⟨e1,h⟩:=Lc _ _ _ _ trivial trivial h
   obtain ⟨e2,h⟩:=Lq _ _ _ _ trivial trivial h
   rw [Xq e1,e2];exact ⟨rfl,h⟩
 rw [if_neg h1,if_neg h1] at h ⊢
 by_cases h1:a.kind=3
 · rw [if_pos h1,if_pos h1] at h ⊢
   simp only [List.append_assoc] at h
   obtain ⟨e1,h⟩:=Lc _ _ _ _ trivial trivial h
   obtain ⟨e2,h⟩:=Xk (by rfl) h
   obtain ⟨e3,h⟩:=Lc _ _ _ _ trivial trivial h
   obtain ⟨e4,h⟩:=Lc _ _ _ _ trivial trivial h
   obtain ⟨e5,h⟩:=Fna _ _ _ _ trivial trivial h
   obtain ⟨e6,h⟩:=Fna _ _ _ _ trivial trivial h
   have e0:=Xq e1
   have:a.sh=b.sh:=by
    cases ha:a.sh;cases hb:b.sh
    simp_all
   rw [this];exact ⟨rfl,h⟩
 rw [if_neg h1,if_neg h1] at h ⊢
 by_cases h1:a.kind=4
 · rw [if_pos h1,if_pos h1] at h ⊢
   simp only [List.append_assoc] at h
   obtain ⟨e1,h⟩:=Xk (by rfl) h
   obtain ⟨e2,h⟩:=Lc _ _ _ _ trivial trivial h
   obtain ⟨e3,h⟩:=Xk (by rfl) h
   have e0:=Xq e2
   have:a.ru=b.ru:=by
    cases ha:a.ru;cases hb:b.ru
    simp_all
   rw [this];exact ⟨rfl,h⟩
 rw [if_neg h1,if_neg h1] at h ⊢
 by_cases h1:a.kind=5
 · rw [if_pos h1,if_pos h1] at h ⊢
   obtain ⟨e1,h⟩:=Xk (by rfl) h
   simp only [List.cons.injEq,and_true] at e1
   obtain ⟨e1,e2,e3⟩:=e1
   have:a.aSusp=b.aSusp:=by
    cases ha:a.aSusp <;> cases hb:b.aSusp <;> simp_all
   rw [e1,e2,this];exact ⟨rfl,h⟩
 rw [if_neg h1,if_neg h1] at h ⊢
 by_cases h1:a.kind=6
 · rw [if_pos h1,if_pos h1] at h ⊢
   obtain ⟨e1,h⟩:=Xk (by rfl) h
   simp only [List.cons.injEq,and_true] at e1
   rw [e1.1,e1.2];exact ⟨rfl,h⟩
 rw [if_neg h1,if_neg h1] at h ⊢
 by_cases h1:a.kind=7
 · rw [if_pos h1,if_pos h1] at h ⊢
   simp only [List.append_assoc] at h
   obtain ⟨e1,h⟩:=Lq _ _ _ _ trivial trivial h
   obtain ⟨e2,h⟩:=Lq _ _ _ _ trivial trivial h
   obtain ⟨e3,h⟩:=Lc _ _ _ _ trivial trivial h
   rw [e1,e2,e3];exact ⟨rfl,h⟩
 rw [if_neg h1,if_neg h1] at h ⊢
 obtain ⟨e1,h⟩:=Koa _ _ _ _ trivial trivial h
 rw [e1];exact ⟨rfl,h⟩
theorem encF_inj {a b:Fct}(ha:Cg a)(hb:Cg b)(hv:a.void.length=b.void.length)(h:B9a a=B9a b):a=b:=by
 unfold B9a at h
 have h:=(List.cons.inj h).2
 have h:=(List.append_inj h rfl).2
 obtain ⟨e1,h⟩:=Lq _ _ _ _ trivial trivial h
 have h:=(List.append_inj h rfl).2
 obtain ⟨e2,h⟩:=Lq _ _ _ _ trivial trivial h
 have h:=(List.append_inj h rfl).2
 obtain ⟨e3,h⟩:=Lq _ _ _ _ trivial trivial h
 have h:=(List.append_inj h rfl).2
 have h:=(List.cons.inj h).2
 simp only [List.append_assoc] at h
 have:=(Hxa e2 hv h e1 e3).1
 rw [ha.2.2.2,hb.2.2.2] at this
 exact this
end Go.Hw
namespace Go.Hw
open Go
instance (n m:Int):Decidable (Bel n m):=by unfold Bel;infer_instance
instance (g:Bl):Decidable (Fd g):=by unfold Fd;infer_instance
end Go.Hw
namespace Go.Hw
open Go Go.Lib
def Jv (a b:Fct):Int :=
 if Ey a.known b.known≠0 then Ey a.known b.known
 else if Ey a.day b.day≠0 then Ey a.day b.day
 else if Ey a.kind b.kind≠0 then Ey a.kind b.kind
 else Tv (B9a a) (B9a b)
theorem Ko {a b:Int}:Ey a b=0↔a=b:=by
 unfold Ey;split
 · constructor
   · intro h;cases h
   · intro h;omega
 · split
   · constructor
     · intro h;cases h
     · intro h;omega
   · constructor
     · intro _;omega
     · intro _;rfl
theorem Ye (a b:Int):Ey b a = - Ey a b:=by
 unfold Ey;by_cases h1:a<b
 · rw [if_neg (by omega),if_pos h1,if_pos h1];rfl
 · by_cases h2:b<a
   · rw [if_pos h2,if_neg h1,if_pos h2]
   · rw [if_neg h2,if_neg h1,if_neg h1,if_neg h2];rfl
theorem Yf {a b:Int}:Ey a b<0↔a<b:=by
 unfold Ey;split
 · exact ⟨fun _=>by assumption,fun _=>by decide⟩
 · split
   · exact ⟨fun h=>by omega,fun h=>by omega⟩
   · exact ⟨fun h=>by omega,fun h=>by omega⟩
def LtF (a b:Fct):Prop:=a.known<b.known∨(a.known=b.known∧(a.day<b.day∨(a.day=b.day∧(a.kind<b.kind∨(a.kind=b.kind∧Tv (B9a a) (B9a b)<0)))))
theorem It {a b:Fct}:Jv a b<0↔LtF a b:=by
 unfold Jv LtF
 have e1:=@Ko a.known b.known
 have e2:=@Ko a.day b.day
 have e3:=@Ko a.kind b.kind
 have l1:=@Yf a.known b.known
 have l2:=@Yf a.day b.day
 have l3:=@Yf a.kind b.kind
 by_cases h1:Ey a.known b.known=0
 · rw [if_neg (fun h=>h h1)]
   by_cases h2:Ey a.day b.day=0
   · rw [if_neg (fun h=>h h2)]
     by_cases h3:Ey a.kind b.kind=0
     · rw [if_neg (fun h=>h h3)]
       have:=e1.1 h1;have:=e2.1 h2;have:=e3.1 h3
       constructor
       · intro h;exact .inr ⟨by assumption,.inr ⟨by assumption,.inr ⟨by assumption,h⟩⟩⟩
       · rintro (h|⟨_,h|⟨_,h|⟨_,h⟩⟩⟩)
         · omega
         · omega
         · omega
         · exact h
     · rw [if_pos h3,l3]
       have:=e1.1 h1;have:=e2.1 h2
       constructor
       · intro h;exact .inr ⟨by assumption,.inr ⟨by assumption,.inl h⟩⟩
       · rintro (h|⟨_,h|⟨_,h|⟨h,_⟩⟩⟩)
         · omega
         · omega
         · exact h
         · exact absurd (e3.2 h) h3
   · rw [if_pos h2,l2]
     have:=e1.1 h1
     constructor
     · intro h;exact .inr ⟨by assumption,.inl h⟩
     · rintro (h|⟨_,h|⟨h,_⟩⟩)
       · omega
       · exact h
       · exact absurd (e2.2 h) h2
 · rw [if_pos h1,l1]
   constructor
   · exact .inl
   · rintro (h|⟨h,_⟩)
     · exact h
     · exact absurd (e1.2 h) h1
theorem Sm (a b:Fct):Jv b a = - Jv a b:=by
 unfold Jv
 rw [Ye a.known,Ye a.day,Ye a.kind,Fba (B9a a)]
 have k:∀ n:Int,(-n≠0)↔(n≠0):=fun n=>by omega
 simp only [k]
 split
 · rfl
 · split
   · rfl
   · split <;> rfl
theorem Sk {a b:Fct}(ha:Cg a)(hb:Cg b)(hv:a.void.length=b.void.length):Jv a b=0↔a=b:=by
 constructor
 · intro h
   unfold Jv at h
   split at h
   · contradiction
   · split at h
     · contradiction
     · split at h
       · contradiction
       · exact encF_inj ha hb hv (H1a.1 h)
 · rintro rfl
   unfold Jv
   rw [if_neg (fun h=>h (Ko.2 rfl)),if_neg (fun h=>h (Ko.2 rfl)),if_neg (fun h=>h (Ko.2 rfl))]
   exact H1a.2 rfl
theorem LtF.trans {a b c:Fct}(h1:LtF a b)(h2:LtF b c):LtF a c:=by
 rcases h1 with h1|⟨e1,h1⟩ <;> rcases h2 with h2|⟨e2,h2⟩
 · exact .inl (by omega)
 · exact .inl (by omega)
 · exact .inl (by omega)
 refine .inr ⟨by omega,?_⟩
 rcases h1 with h1|⟨f1,h1⟩ <;> rcases h2 with h2|⟨f2,h2⟩
 · exact .inl (by omega)
 · exact .inl (by omega)
 · exact .inl (by omega)
 refine .inr ⟨by omega,?_⟩
 rcases h1 with h1|⟨g1,h1⟩ <;> rcases h2 with h2|⟨g2,h2⟩
 · exact .inl (by omega)
 · exact .inl (by omega)
 · exact .inl (by omega)
 exact .inr ⟨by omega,Asa h1 h2⟩
theorem LtF.irrefl (a:Fct):¬ LtF a a:=fun h=>by
 have:=It.2 h
 have h2:=Sm a a
 omega
theorem LtF.tri {a b:Fct}(ha:Cg a)(hb:Cg b)(hv:a.void.length=b.void.length):LtF a b∨a=b∨LtF b a:=by
 have h:=Sm a b
 by_cases h1:Jv a b<0
 · exact .inl (It.1 h1)
 · by_cases h2:Jv a b=0
   · exact .inr (.inl ((Sk ha hb hv).1 h2))
   · exact .inr (.inr (It.1 (by omega)))
end Go.Hw
namespace Go.Hw
open Go Go.Lib
def Qb (f:Fct):Prop:=Cg f∧f.void.length=32
def insF (x:Fct):List Fct→List Fct
 | []=>[x]
 | y::r=>if Jv y x<0 then y::insF x r else if y=x then y::r else x::y::r
theorem Jva {x z:Fct}{l:List Fct}:z∈insF x l↔z=x∨z∈l:=by
 induction l with
 | nil=>simp [insF]
 | cons y r ih =>
   unfold insF
   split
   · rw [List.mem_cons,ih,List.mem_cons]
     constructor
     · rintro (h|h|h)
       · exact .inr (.inl h)
       · exact .inl h
       · exact .inr (.inr h)
     · rintro (h|h|h)
       · exact .inr (.inl h)
       · exact .inl h
       · exact .inr (.inr h)
   · split
     · rename_i h;subst h
       exact ⟨.inr,fun h=>by rcases h with h|h;subst h;exact List.mem_cons_self;exact h⟩
     · exact List.mem_cons
def Rb (l:List Fct):Prop:=l.Pairwise LtF
theorem G8a {x:Fct}(hx:Qb x){l:List Fct}(hl:∀ y∈l,Qb y)(hs:Rb l):Rb (insF x l):=by
 unfold Rb at hs ⊢
 induction l with
 | nil=>simp [insF]
 | cons y r ih =>
   rw [List.pairwise_cons] at hs
   have hy:=hl y List.mem_cons_self
   unfold insF
   split
   · rename_i h
     rw [List.pairwise_cons]
     refine ⟨fun z hz => ?_,ih (fun w hw=>hl w (List.mem_cons_of_mem _ hw)) hs.2⟩
     rcases Jva.1 hz with h1|h1
     · subst h1;exact It.1 h
     · exact hs.1 z h1
   · split
     · rw [List.pairwise_cons];exact hs
     · rename_i h1 h2
       have h3:LtF x y:=by
        rcases LtF.tri hx.1 hy.1 (by rw [hx.2,hy.2]) with h|h|h
        · exact h
        · exact absurd h.symm h2
        · exact absurd (It.2 h) h1
       rw [List.pairwise_cons,List.pairwise_cons]
       refine ⟨fun z hz => ?_,hs⟩
       rcases List.mem_cons.1 hz with h|h
       · subst h;exact h3
       · exact h3.trans (hs.1 z h)
theorem Rm:∀ {a b:List Fct},Rb a→Rb b→(∀ x,x∈a↔x∈b)→a=b
 | [],[],_,_,_=>rfl
 | [],y::b,_,_,h=>by have:=(h y).2 List.mem_cons_self;cases this
 | x::a,[],_,_,h=>by have:=(h x).1 List.mem_cons_self;cases this
 | x::a,y::b,ha,hb,h=>by
   unfold Rb at ha hb
   rw [List.pairwise_cons] at ha hb
   have e:x=y:=by
    rcases List.mem_cons.1 ((h x).1 List.mem_cons_self) with h1|h1
    · exact h1
    · rcases List.mem_cons.1 ((h y).2 List.mem_cons_self) with h2|h2
      · exact h2.symm
      · exact absurd ((hb.1 x h1).trans (ha.1 y h2)) (LtF.irrefl _)
   subst e
   have:a=b:=Rm ha.2 hb.2 fun z=>by
    constructor
    · intro hz
      rcases List.mem_cons.1 ((h z).1 (List.mem_cons_of_mem _ hz)) with h1|h1
      · subst h1;exact absurd (ha.1 z hz) (LtF.irrefl _)
      · exact h1
    · intro hz
      rcases List.mem_cons.1 ((h z).2 (List.mem_cons_of_mem _ hz)) with h1|h1
      · subst h1;exact absurd (hb.1 z hz) (LtF.irrefl _)
      · exact h1
   rw [this]
open Classical in
noncomputable def Da (l:List Fct):List Fct:=l.foldl (fun out x=>if Cg x then insF x out else out) []
open Classical in
theorem H6a (l:List Fct)(x:Fct):Da (l++[x])=if Cg x then insF x (Da l) else Da l:=by
 unfold Da;rw [List.foldl_append];rfl
theorem Gr (l:List Fct)(hl:∀ f∈l,f.void.length=32):Rb (Da l)∧∀ x,x∈Da l↔x∈l∧Cg x:=by
 have key:∀ n,n≤l.length→Rb (Da (l.take n))∧∀ x,x∈Da (l.take n)↔x∈l.take n∧Cg x:=by
  intro n
  induction n with
  | zero=>intro _;exact ⟨by simp [Da,Rb],by simp [Da]⟩
  | succ n ih =>
    intro hn
    obtain ⟨h1,h2⟩:=ih (by omega)
    have ht:l.take (n+1)=l.take n++[l[n]]:=by rw [List.take_append_getElem]
    rw [ht,H6a]
    have hm:l[n]∈l:=List.getElem_mem _
    generalize l[n]=x at *
    split
    · rename_i hx
      refine ⟨G8a ⟨hx,hl x hm⟩ (fun y hy=>⟨((h2 y).1 hy).2,hl y (List.mem_of_mem_take ((h2 y).1 hy).1)⟩) h1,fun z => ?_⟩
      rw [Jva,h2,List.mem_append,List.mem_singleton]
      constructor
      · rintro (h|⟨h,h'⟩)
        · subst h;exact ⟨.inr rfl,hx⟩
        · exact ⟨.inl h,h'⟩
      · rintro ⟨h|h,h'⟩
        · exact .inr ⟨h,h'⟩
        · exact .inl h
    · rename_i hx
      refine ⟨h1,fun z => ?_⟩
      rw [h2,List.mem_append,List.mem_singleton]
      constructor
      · rintro ⟨h,h'⟩;exact ⟨.inl h,h'⟩
      · rintro ⟨h|h,h'⟩
        · exact ⟨h,h'⟩
        · subst h;exact absurd h' hx
 have:=key l.length (Nat.le_refl _)
 rw [List.take_length] at this
 exact this
theorem Tz {a b:List Fct}(ha:∀ f∈a,f.void.length=32)(hb:∀ f∈b,f.void.length=32)(h:∀ x,Cg x→(x∈a↔x∈b)):Da a=Da b:=by
 obtain ⟨a1,a2⟩:=Gr a ha
 obtain ⟨b1,b2⟩:=Gr b hb
 refine Rm a1 b1 fun x => ?_
 rw [a2,b2]
 constructor
 · rintro ⟨h1,h2⟩;exact ⟨(h x h2).1 h1,h2⟩
 · rintro ⟨h1,h2⟩;exact ⟨(h x h2).2 h1,h2⟩
end Go.Hw
namespace Go.Hw
open Go Go.Lib
def Qn (o:Option Fct) (f:Fct):Option Fct:=match o with
 | none=>some f
 | some p=>if Jv p f<0 then some f else some p
def Qi (l:List Fct) (o:Option Fct):Prop:=(o=none∧l=[])∨∃ m,o=some m∧m∈l∧∀ x∈l,x=m∨LtF x m
theorem Gea {l:List Fct}{o:Option Fct}{f:Fct}(hl:∀ x∈l,Qb x)(hf:Qb f)(h:Qi l o):Qi (l++[f]) (Qn o f):=by
 rcases h with ⟨rfl,rfl⟩|⟨m,rfl,hm,hx⟩
 · exact .inr ⟨f,rfl,by simp,fun x h=>by simp at h;exact .inl h⟩
 · have him:=hl m hm
   unfold Qn
   dsimp only
   split
   · rename_i h
     have h:=It.1 h
     refine .inr ⟨f,rfl,by simp,fun x hx2 => ?_⟩
     rw [List.mem_append,List.mem_singleton] at hx2
     rcases hx2 with h2|h2
     · rcases hx x h2 with h3|h3
       · subst h3;exact .inr h
       · exact .inr (h3.trans h)
     · exact .inl h2
   · rename_i h
     refine .inr ⟨m,rfl,by simp [hm],fun x hx2 => ?_⟩
     rw [List.mem_append,List.mem_singleton] at hx2
     rcases hx2 with h2|h2
     · exact hx x h2
     · subst h2
       rcases LtF.tri him.1 hf.1 (by rw [him.2,hf.2]) with h3|h3|h3
       · exact absurd (It.2 h3) h
       · exact .inl h3.symm
       · exact .inr h3
theorem Qi.uniq {a b:List Fct}{o o':Option Fct}(h:Qi a o)(h':Qi b o')(he:∀ x,x∈a↔x∈b):o=o':=by
 rcases h with ⟨rfl,rfl⟩|⟨m,rfl,hm,hx⟩ <;> rcases h' with ⟨rfl,rfl⟩|⟨m',rfl,hm',hx'⟩
 · rfl
 · exact absurd ((he m').2 hm') (by simp)
 · exact absurd ((he m).1 hm) (by simp)
 · rcases hx m' ((he m').2 hm') with h1|h1
   · rw [h1]
   · rcases hx' m ((he m).1 hm) with h2|h2
     · rw [h2]
     · exact absurd (h1.trans h2) (LtF.irrefl _)
end Go.Hw
namespace Go.Hw
open Go Go.Lib
structure Bz where
 kind:Int
 sh:El
 day:Int
deriving DecidableEq,Inhabited
def No:Bz:=⟨0,Ki,0⟩
def Mo (a b:El):Prop:={ a with ref:=0 } = { b with ref:=0 }
instance (a b:El):Decidable (Mo a b):=by unfold Mo;infer_instance
theorem Mo.symm {a b:El}(h:Mo a b):Mo b a:=Eq.symm h
theorem M9a {a b:El}:Mo a b↔a.g=b.g∧a.hg=b.hg∧a.ag=b.ag∧a.hp=b.hp∧a.ap=b.ap∧a.hs=b.hs∧a.asn=b.asn∧a.hc=b.hc∧a.ac=b.ac:=by
 unfold Mo;cases a;cases b;simp
def Wp:Option Fct→Option Fct→Bz
 | none,none=>No
 | some a,none=>⟨1,a.sh,a.day⟩
 | none,some b=>⟨1,b.sh,b.day⟩
 | some a,some b=>if Mo a.sh b.sh then ⟨2,a.sh,max a.day b.day⟩ else ⟨3,Ki,max a.day b.day⟩
def OfGR (g:Bl) (r:Int) (f:Fct):Prop:=f.kind=3∧Cg f∧f.sh.g=g∧f.sh.ref=r
open Classical in
noncomputable def selF (l:List Fct) (g:Bl) (r:Int):List Fct:=l.filter fun f=>decide (OfGR g r f)
noncomputable def Sp (l:List Fct) (g:Bl) (r:Int):Option Fct:=(selF l g r).foldl Qn none
noncomputable def Cm (l:List Fct) (g:Bl):Bz:=Wp (Sp l g 0) (Sp l g 1)
theorem Jd:∀ (l pre:List Fct) (o:Option Fct),(∀ f∈pre,Qb f)→(∀ f∈l,Qb f)→Qi pre o→Qi (pre++l) (l.foldl Qn o)
 | [],pre,o,_,_,h=>by simpa using h
 | x::l,pre,o,hp,hl,h=>by
   have h2:=Jd l (pre++[x]) (Qn o x) (fun f hf=>by
    rw [List.mem_append,List.mem_singleton] at hf
    rcases hf with hf|rfl
    · exact hp f hf
    · exact hl _ List.mem_cons_self) (fun f hf=>hl f (List.mem_cons_of_mem _ hf)) (Gea hp (hl x List.mem_cons_self) h)
   rw [List.append_assoc] at h2
   exact h2
open Classical in
theorem Rp {l:List Fct}{g:Bl}{r:Int}{f:Fct}:f∈selF l g r↔f∈l∧OfGR g r f:=by
 unfold selF;rw [List.mem_filter,decide_eq_true_eq]
theorem Qz {l:List Fct}{g:Bl}{r:Int}(hl:∀ f∈l,f.void.length=32):Qi (selF l g r) (Sp l g r) :=
 Jd (selF l g r) [] none (fun f hf=>absurd hf (by simp)) (fun f hf=>⟨(Rp.1 hf).2.2.1,hl f (Rp.1 hf).1⟩) (.inl ⟨rfl,rfl⟩)
theorem Fja {a b:List Fct}{g:Bl}{r:Int}(ha:∀ f∈a,f.void.length=32)(hb:∀ f∈b,f.void.length=32)(h:∀ x,OfGR g r x→(x∈a↔x∈b)):Sp a g r=Sp b g r :=
 (Qz ha).uniq (Qz hb) fun x=>by
   rw [Rp,Rp]
   exact ⟨fun ⟨h1,h2⟩=>⟨(h x h2).1 h1,h2⟩,fun ⟨h1,h2⟩=>⟨(h x h2).2 h1,h2⟩⟩
theorem Uc {l:List Fct}{g:Bl}{r:Int}(hl:∀ f∈l,f.void.length=32){m:Fct}(h:Sp l g r=some m):m∈l∧OfGR g r m:=by
 rcases Qz (g:=g) (r:=r) hl with ⟨h1,_⟩|⟨m',h1,h2,_⟩
 · rw [h] at h1;cases h1
 · rw [h] at h1;injection h1 with h1;subst h1;exact Rp.1 h2
theorem ref_of {f:Fct}(ho:Cg f)(hk:f.kind=3):f.sh.ref=0∨f.sh.ref=1:=by
 have h:=ho.2.2.1
 unfold Fb at h
 rw [hk] at h
 simp only [show ¬ ((3:Int)=1) by decide,show ¬ ((3:Int)=2) by decide,if_false,if_true] at h
 have h2:=h.2.1
 unfold Bel at h2
 omega
end Go.Hw
