import Derived.Test.YtlnenhhbalpbpaaGreatDoorFE
import Derived.Test.YtlnenhhbalpbpaaGreatDoorFD
import Derived.Test.YtlnenhhbalpbpaaGreatDoorGA
import Derived.Test.YtlnenhhbalpbpaaGreatDoorHB
import Derived.Test.YtlnenhhbalpbpaaGreatDoorFA
set_option linter.all false
namespace Go.Hw
open Go Go.Lib
theorem Qn {L:List Fct}{g:Ak}(hg:Dh g){r:Fk}{d:Int}(h:Db (Ba L) g=(r,d,true)):ofF L g=Iga g r d:=by
 unfold ofF
 rw [if_pos hg,h];rfl
theorem Iz {L:List Fct}{g:Ak}(hg:Dh g)(h:(Db (Ba L) g).2.2=false):ofF L g=Hk L g:=by
 unfold ofF
 rw [if_pos hg,h];rfl
open Classical in
theorem openK_at (L:List Fct)(s c:Int)(hs aa:List Int){i k:Nat}(hi:i<hs.length)(hk:k<aa.length) :
  Ln L s c hs aa=(Ln L s c (hs.take i) aa++Jr L s c (hs.getD i 0) (aa.take k))++((if Ma L s c (hs.getD i 0) (aa.getD k 0) then [⟨s,c,hs.getD i 0,aa.getD k 0⟩] else [])++(Jr L s c (hs.getD i 0) (aa.drop (k+1))++Ln L s c (hs.drop (i+1)) aa)):=by
 have e1:hs=hs.take i++(hs.getD i 0::hs.drop (i+1)):=by
  conv=>lhs;rw [← List.take_append_drop i hs,List.drop_eq_getElem_cons hi]
  rw [List.getD_eq_getElem?_getD,List.getElem?_eq_getElem hi,Option.getD_some]
 have e2:aa=aa.take k++(aa.getD k 0::aa.drop (k+1)):=by
  conv=>lhs;rw [← List.take_append_drop k aa,List.drop_eq_getElem_cons hk]
  rw [List.getD_eq_getElem?_getD,List.getElem?_eq_getElem hk,Option.getD_some]
 have e3:∀ h,Jr L s c h aa=Jr L s c h (aa.take k)++((if Ma L s c h (aa.getD k 0) then [⟨s,c,h,aa.getD k 0⟩] else [])++Jr L s c h (aa.drop (k+1))):=fun h=>by
  conv=>lhs;rw [e2]
  unfold Jr
  rw [List.flatMap_append,List.flatMap_cons]
 conv=>lhs;rw [e1]
 have e4:Ln L s c (hs.take i++(hs.getD i 0::hs.drop (i+1))) aa=Ln L s c (hs.take i) aa++(Jr L s c (hs.getD i 0) aa++Ln L s c (hs.drop (i+1)) aa):=by
  unfold Ln
  rw [List.flatMap_append,List.flatMap_cons]
 rw [e4,e3]
 simp only [List.append_assoc]
end Go.Hw
namespace Go.Hw
open Go Go.Lib
theorem force_one {L:List Fct}(h32:Mk L){f:Fct}(hf:f∈L)(hok:Bm f)(hk:f.kind=4)(h:∀ x∈L,x≠f→x.kind≠4∧x.kind≠5):Bn (Ba L)=[f]:=by
 have hc:=Bx L h32
 have hfm:f∈Ba L:=(hc.2 f).2 ⟨hf,hok⟩
 have hm:∀ x∈Ba L,x=f∨(x.kind≠4∧x.kind≠5):=fun x hx=>by
  by_cases e:x=f
  · exact .inl e
  · exact .inr (h x ((hc.2 x).1 hx).1 e)
 have hCok:=Oc h32
 generalize Ba L=C at *
 have hof:∀ x∈C,x.kind=4→x=f:=fun x hx ho=>(hm x hx).elim id fun w=>absurd ho w.1
 have hlast:=No hCok ⟨f,hfm,hk,rfl⟩
 obtain ⟨h0,g,hg⟩:=hlast
 have hgf:g=f:=hof g (Fx hg).1 (Fx hg).2.1.1
 subst hgf
 have hin:g∈Bn C:=(Kx C g).2 ⟨hfm,hk,fun q=>by
  obtain ⟨_,x,hx,q1,_⟩:=q
  rcases hm x hx with e|e
  · subst e;omega
  · exact e.2 q1,hg⟩
 have hall:∀ x∈Bn C,x=g:=fun x hx=>hof x ((Kx C x).1 hx).1 ((Kx C x).1 hx).2.1
 have hs:=Eea C
 generalize Bn C=F at *
 cases F with
 | nil=>cases hin
 | cons a r =>
   have ha:=hall a List.mem_cons_self
   subst ha
   cases r with
   | nil=>rfl
   | cons b q =>
     have hb:=hall b QAn
     subst hb
     rw [List.pairwise_cons] at hs
     have:=hs.1 b List.mem_cons_self
     omega
theorem Lp {C:List Fct}{g:Ak}(h:∀ f∈Bn C,¬ Fv g f.ru):Db C g=(Hu,0,false):=by
 have:Jo C g=[]:=by
  rw [List.eq_nil_iff_forall_not_mem]
  intro f hf
  obtain ⟨h1,h2⟩:=Aga.1 hf
  exact h f h1 h2
 unfold Db
 rw [this];rfl
theorem Yw {C:List Fct}{g:Ak}{f:Fct}(h:Bn C=[f])(hg:Fv g f.ru):Db C g=(f.ru,f.day,true):=by
 unfold Db Jo
 rw [h]
 simp only [List.filter_cons,decide_eq_true hg,if_true,List.filter_nil]
 rfl
def gR:Ak:=⟨0,0,1,2⟩
def shR (r a b:Int):Fct:={ Ef with kind:=3,day:=10,known:=10,sh:={ Fd with g:=gR,ref:=r,hg:=a,ag:=b,«as»:=[7] } }
def ruR (r:Fk):Fct:={ Ef with kind:=4,day:=20,known:=20,ru:={ r with case:=1,inst:=1 } }
theorem Xu:Dh gR:=⟨⟨by decide,by decide⟩,⟨by decide,by decide⟩,⟨by decide,by decide⟩,⟨by decide,by decide⟩,by decide⟩
theorem shR_ok {r a b:Int}(hr:r=0∨r=1)(ha:0≤a∧a<100)(hb:0≤b∧b<100):Bm (shR r a b):=by
 refine ⟨⟨by show (0:Int)≤10;decide,by show (10:Int)<1048577;decide⟩,⟨by show (0:Int)≤10;decide,by show (10:Int)<1048577;decide⟩,?_,rfl⟩
 unfold Cw
 rw [if_neg (show ¬ (shR r a b).kind=1 from by show ¬ ((3:Int)=1);decide),if_neg (show ¬ (shR r a b).kind=2 from by show ¬ ((3:Int)=2);decide),if_pos (show (shR r a b).kind=3 from rfl)]
 refine ⟨Xu,⟨by show (0:Int)≤r;omega,by show r<2;omega⟩,ha,hb,.inl ⟨rfl,rfl⟩,?_,?_,?_,?_,?_⟩
 · exact ⟨by simp [shR,Fd],by simp [shR,Fd],by simp [shR,Fd,Yc]⟩
 · exact ⟨by simp [shR],by simp [shR,Bel],by simp [shR,Yc]⟩
 · exact ⟨by simp [shR,Fd],by simp [shR,Fd]⟩
 · exact ⟨by simp [shR,Fd],by simp [shR,Fd]⟩
 · simp [shR,Fd]
theorem shR_of {r a b r':Int}(hr:r=0∨r=1)(ha:0≤a∧a<100)(hb:0≤b∧b<100):OfGR gR r' (shR r a b)↔r=r':=⟨fun h=>h.2.2.2,fun h=>⟨rfl,shR_ok hr ha hb,rfl,h⟩⟩
theorem Xb {L:List Fct}(h32:Mk L){r a b:Int}(hr:r=0∨r=1)(ha:0≤a∧a<100)(hb:0≤b∧b<100)(hm:shR r a b∈L)(h:∀ x∈L,x.kind=3→x.sh.ref=r→x=shR r a b):Gr L gR r=some (shR r a b) :=
 best_only h32 hm ((shR_of hr ha hb).2 rfl) fun x hx ho=>h x hx ho.1 ho.2.2.2
def scR (a b:Int):Az:=⟨2,(shR 0 a b).sh,10⟩
theorem score_R {L:List Fct}(h0:Gr L gR 0=some (shR 0 2 1))(h1:Gr L gR 1=some (shR 1 2 1)):Bj L gR=scR 2 1:=by
 unfold Bj
 rw [h0,h1]
 unfold Mo scR
 have hs:Hh (shR 0 2 1).sh (shR 1 2 1).sh:=by rw [Og];exact ⟨rfl,rfl,rfl,rfl,rfl,rfl,rfl,rfl,rfl⟩
 simp only [hs,if_true]
 show Az.mk 2 _ (max 10 10)=_
 rfl
structure LisR (L:List Fct):Prop where
 in32:Mk L
 sheets:∀ x∈L,x.kind=3→x.sh.g=gR
 moves:∀ x∈L,x.kind≠6
theorem dec_R {L:List Fct}(h:LisR L)(hs:Bj L gR=scR 2 1):Lt L 0 0=[scR 2 1]:=by
 refine (G3a ⟨by simp,fun x=>⟨fun hx => ?_,?_⟩⟩).symm
 · rw [List.mem_singleton] at hx;subst hx
   exact ⟨gR,rfl,rfl,hs,rfl⟩
 · rintro ⟨g,_,_,rfl,h4⟩
   obtain ⟨f,m,ok,k,e,eg,d⟩:=Cl h.in32 h4
   have:=h.sheets f m k
   rw [eg] at this
   subst this
   rw [hs];simp
theorem susp_R (x:Az):Ew [x]=[]:=by
 unfold Ew
 show Hj [x] 1=[]
 rw [Nm]
 have e0:Hj [x] 0=[]:=by unfold Hj;rfl
 have e1:Yk [x] 0=[]:=by
  unfold Yk
  rw [List.flatMap_eq_nil_iff]
  intro m _
  unfold Cn
  split
  · rfl
  · rfl
 rw [e0,e1];rfl
theorem offB_R {L:List Fct}(h:LisR L){g:Ak}{d c p:Int}:Fia L [] g d c p↔Iq (Ba L) p d=true:=by
 unfold Fia
 constructor
 · rintro (⟨⟨x,hx,q⟩,_⟩|q|⟨s,hs,_⟩)
   · exact absurd q.1 (h.moves x hx)
   · exact q
   · cases hs
 · exact fun q=>.inr (.inl q)
open Classical in
theorem off_R {L:List Fct}(h:LisR L)(hs:Bj L gR=scR 2 1):Up L gR=([],if Iq (Ba L) 7 10=true then [7] else []):=by
 unfold Up
 rw [hs,if_pos (show (scR 2 1).kind=2 from rfl)]
 show (Md L (Ew (Lt L 0 0)) gR 10 1 [],Md L (Ew (Lt L 0 0)) gR 10 2 [7])=_
 rw [dec_R h hs,susp_R]
 unfold Md
 simp only [List.filter_nil,List.filter_cons,offB_R h,decide_eq_true_eq]
theorem H5a {L:List Fct}(h:∀ x∈L,(∃ r a b,x=shR r a b)∨∃ r,x=ruR r):LisR L:=⟨fun x hx=>by
 rcases h x hx with ⟨r,a,b,rfl⟩|⟨r,rfl⟩ <;> rfl,fun x hx hk=>by
 rcases h x hx with ⟨r,a,b,rfl⟩|⟨r,rfl⟩
 · rfl
 · exact absurd hk (by show ¬ ((4:Int)=3);decide),fun x hx=>by
 rcases h x hx with ⟨r,a,b,rfl⟩|⟨r,rfl⟩
 · show (3:Int)≠6;decide
 · show (4:Int)≠6;decide⟩
def Xr:List Fct:=[shR 0 2 1,shR 1 2 1]
def Li (r:Fk):List Fct:=ruR r::Xr
theorem twoR_is:LisR Xr:=H5a fun x hx=>by
 unfold Xr at hx
 simp only [List.mem_cons,List.not_mem_nil,or_false] at hx
 rcases hx with rfl|rfl
 · exact .inl ⟨_,_,_,rfl⟩
 · exact .inl ⟨_,_,_,rfl⟩
theorem Ul (r:Fk):LisR (Li r):=H5a fun x hx=>by
 unfold Li Xr at hx
 simp only [List.mem_cons,List.not_mem_nil,or_false] at hx
 rcases hx with rfl|rfl|rfl
 · exact .inr ⟨_,rfl⟩
 · exact .inl ⟨_,_,_,rfl⟩
 · exact .inl ⟨_,_,_,rfl⟩
theorem Ye:Bj Xr gR=scR 2 1:=by
 refine score_R (Xb twoR_is.in32 (.inl rfl) QAd QAd (by simp [Xr]) fun x hx hk hr => ?_) (Xb twoR_is.in32 (.inr rfl) QAd QAd (by simp [Xr]) fun x hx hk hr => ?_)
 · unfold Xr at hx
   simp only [List.mem_cons,List.not_mem_nil,or_false] at hx
   rcases hx with rfl|rfl
   · rfl
   · exact absurd hr (by show ¬ ((1:Int)=0);decide)
 · unfold Xr at hx
   simp only [List.mem_cons,List.not_mem_nil,or_false] at hx
   rcases hx with rfl|rfl
   · exact absurd hr QE3
   · rfl
theorem Uz (r:Fk):Bj (Li r) gR=scR 2 1:=by
 refine score_R (Xb (Ul r).in32 (.inl rfl) QAd QAd (by simp [Li,Xr]) fun x hx hk hr => ?_) (Xb (Ul r).in32 (.inr rfl) QAd QAd (by simp [Li,Xr]) fun x hx hk hr => ?_)
 · unfold Li Xr at hx
   simp only [List.mem_cons,List.not_mem_nil,or_false] at hx
   rcases hx with rfl|rfl|rfl
   · exact absurd hk (by show ¬ ((4:Int)=3);decide)
   · rfl
   · exact absurd hr (by show ¬ ((1:Int)=0);decide)
 · unfold Li Xr at hx
   simp only [List.mem_cons,List.not_mem_nil,or_false] at hx
   rcases hx with rfl|rfl|rfl
   · exact absurd hk (by show ¬ ((4:Int)=3);decide)
   · exact absurd hr QE3
   · rfl
theorem H6a:∀ f∈Xr,f.kind≠4:=fun f hf=>by
 unfold Xr at hf
 simp only [List.mem_cons,List.not_mem_nil,or_false] at hf
 rcases hf with rfl|rfl <;> (show (3:Int)≠4;decide)
theorem ex_twoR:ofF Xr gR=some ⟨gR,2,1,0,0,0,0,10,false,false⟩:=by
 have hf:Bn (Ba Xr)=[]:=Qx fun f hf=>H6a f (((Bx Xr twoR_is.in32).2 f).1 hf).1
 have ho:=Lp (C:=Ba Xr) (g:=gR) (by rw [hf];simp)
 rw [Iz Xu (by rw [ho])]
 unfold Hk
 rw [Ye,if_pos (show (scR 2 1).kind=2 from rfl),off_R twoR_is Ye,unfit_no4 twoR_is.in32 H6a]
 rfl
theorem ex_one:ofF [shR 0 2 1] gR=none:=by
 have hl:LisR [shR 0 2 1]:=H5a fun x hx=>by rw [List.mem_singleton] at hx;exact .inl ⟨_,_,_,hx⟩
 have hf:Bn (Ba [shR 0 2 1])=[]:=Qx fun f hf=>by
  have:=(((Bx _ hl.in32).2 f).1 hf).1
  rw [List.mem_singleton] at this;subst this;show (3:Int)≠4;decide
 have ho:=Lp (C:=Ba [shR 0 2 1]) (g:=gR) (by rw [hf];simp)
 rw [Iz Xu (by rw [ho])]
 unfold Hk
 have h0:Gr [shR 0 2 1] gR 0=some (shR 0 2 1):=Xb hl.in32 (.inl rfl) QAd QAd QAn fun x hx _ _=>by rw [List.mem_singleton] at hx;exact hx
 have h1:Gr [shR 0 2 1] gR 1=none:=(Aba hl.in32).2 fun x hx ho=>by
  rw [List.mem_singleton] at hx;subst hx
  exact absurd ho.2.2.2 QE3
 unfold Bj
 rw [h0,h1]
 rfl
theorem ex_apart:ofF [shR 0 2 1,shR 1 1 2] gR=none:=by
 have hl:LisR [shR 0 2 1,shR 1 1 2]:=H5a fun x hx=>by
  simp only [List.mem_cons,List.not_mem_nil,or_false] at hx
  rcases hx with rfl|rfl
  · exact .inl ⟨_,_,_,rfl⟩
  · exact .inl ⟨_,_,_,rfl⟩
 have hf:Bn (Ba [shR 0 2 1,shR 1 1 2])=[]:=Qx fun f hf=>by
  have:=(((Bx _ hl.in32).2 f).1 hf).1
  simp only [List.mem_cons,List.not_mem_nil,or_false] at this
  rcases this with rfl|rfl <;> (show (3:Int)≠4;decide)
 have ho:=Lp (C:=Ba [shR 0 2 1,shR 1 1 2]) (g:=gR) (by rw [hf];simp)
 rw [Iz Xu (by rw [ho])]
 unfold Hk
 have h0:Gr [shR 0 2 1,shR 1 1 2] gR 0=some (shR 0 2 1):=Xb hl.in32 (.inl rfl) QAd QAd QAn fun x hx _ hr=>by
  simp only [List.mem_cons,List.not_mem_nil,or_false] at hx
  rcases hx with rfl|rfl
  · rfl
  · exact absurd hr (by show ¬ ((1:Int)=0);decide)
 have h1:Gr [shR 0 2 1,shR 1 1 2] gR 1=some (shR 1 1 2):=Xb hl.in32 (.inr rfl) QAd QAd QAn fun x hx _ hr=>by
  simp only [List.mem_cons,List.not_mem_nil,or_false] at hx
  rcases hx with rfl|rfl
  · exact absurd hr QE3
  · rfl
 unfold Bj
 rw [h0,h1]
 unfold Mo
 have hs:¬ Hh (shR 0 2 1).sh (shR 1 1 2).sh:=fun q=>by
  rw [Og] at q
  exact absurd q.2.1 (by show ¬ ((2:Int)=1);decide)
 simp only [hs,if_false]
 rfl
theorem Kda (r:Fk):∀ x∈Li r,x≠ruR r→x.kind≠4∧x.kind≠5:=fun x hx hne=>by
 unfold Li Xr at hx
 simp only [List.mem_cons,List.not_mem_nil,or_false] at hx
 rcases hx with rfl|rfl|rfl
 · exact absurd rfl hne
 · exact ⟨by show (3:Int)≠4;decide,by show (3:Int)≠5;decide⟩
 · exact ⟨by show (3:Int)≠4;decide,by show (3:Int)≠5;decide⟩
theorem Pc {r:Fk}(hok:Bm (ruR r)):Bn (Ba (Li r))=[ruR r]:=force_one (Ul r).in32 (by simp [Li]) hok rfl (Kda r)
def rF:Fk:={ Hu with kind:=1,g:=gR,club:=1 }
def rA:Fk:={ Hu with kind:=2,g:=gR }
def rU:Fk:={ Hu with kind:=6,player:=7,lo:=10,hi:=10 }
theorem ruR_ok {r:Fk}(hg:Ej { r with case:=1,inst:=1 })(ho:Il { r with case:=1,inst:=1 } = { r with case:=1,inst:=1 }):Bm (ruR r):=by
 refine ⟨⟨by show (0:Int)≤20;decide,by show (20:Int)<1048577;decide⟩,⟨by show (0:Int)≤20;decide,by show (20:Int)<1048577;decide⟩,?_,rfl⟩
 unfold Cw
 rw [if_neg (show ¬ (ruR r).kind=1 from by show ¬ ((4:Int)=1);decide),if_neg (show ¬ (ruR r).kind=2 from by show ¬ ((4:Int)=2);decide),if_neg (show ¬ (ruR r).kind=3 from by show ¬ ((4:Int)=3);decide),if_pos (show (ruR r).kind=4 from rfl)]
 exact ⟨by show (1:Int)≤1;decide,by show (1:Int)≤1048576;decide,by show (1:Int)≤1;decide,by show (1:Int)≤3;decide,hg,ho⟩
theorem rF_ok:Bm (ruR rF):=ruR_ok ⟨Xu,.inl rfl⟩ rfl
theorem rA_ok:Bm (ruR rA):=ruR_ok Xu rfl
theorem rU_ok:Bm (ruR rU):=ruR_ok ⟨⟨by decide,by decide⟩,by decide,by decide,by decide⟩ rfl
theorem ex_lost:ofF (Li rF) gR=some { Aza with g:=gR,ag:=3,day:=20,forf:=true }:=by
 rw [Qn Xu (Yw (Pc rF_ok) ⟨rfl,.inl rfl⟩)]
 rfl
theorem Gwa:ofF (Li rA) gR=none:=by
 rw [Qn Xu (Yw (Pc rA_ok) ⟨rfl,.inr (.inl rfl)⟩)]
 rfl
theorem ex_unfit:ofF (Li rU) gR=some { Aza with g:=gR,hg:=3,day:=10,forf:=true }:=by
 have hf:=Pc rU_ok
 have ho:=Lp (C:=Ba (Li rU)) (g:=gR) (by
  rw [hf]
  intro f hf2
  rw [List.mem_singleton] at hf2;subst hf2
  rintro ⟨_,q|q|q⟩
  · exact absurd q (by show ¬ ((6:Int)=1);decide)
  · exact absurd q (by show ¬ ((6:Int)=2);decide)
  · exact absurd q (by show ¬ ((6:Int)=3);decide))
 rw [Iz Xu (by rw [ho])]
 unfold Hk
 have hu:Iq (Ba (Li rU)) 7 10=true:=by
  unfold Iq
  rw [hf];rfl
 rw [Uz,if_pos (show (scR 2 1).kind=2 from rfl),off_R (Ul rU) (Uz rU),hu]
 rfl
end Go.Hw
namespace Go.Hw
open Go
open Classical in
theorem entL_snoc (L:List Fct)(s c:Int)(f:Fct):entL (L++[f]) s c=if Cpa s c f then entL L s c++[f] else entL L s c:=by
 unfold entL
 rw [List.filter_append]
 by_cases q:Cpa s c f <;> simp [q]
open Classical in
theorem Qy (L:List Fct)(s c:Int)(f:Fct):Zp (L++[f]) s c=if Cpa s c f then Uc (Zp L s c) f else Zp L s c:=by
 unfold Zp
 rw [entL_snoc]
 split
 · rw [List.foldl_append];rfl
 · rfl
def LastI (l:List (Fsh×Fct)) (o:Option Fct) (z:Fsh×Fct) (ok:Bool):Prop:=(o=none∧z=(Ga,Ef)∧ok=false)∨(o=some z.2∧z∈l∧Bm z.2∧ok=true)
theorem ent_clubs {f:Fct}(h:Bm f)(hk:f.kind=1):f.eClubs.length≤24∧Yc f.eClubs:=by
 have:=h.2.2.1
 unfold Cw at this
 rw [if_pos hk] at this
 exact ⟨this.2.2.1.2.1,this.2.2.2.1⟩
end Go.Hw
namespace Go.Hw
open Go Go.Lib
def eX1:Fct:={ Ef with kind:=1,eClubs:=[1,2],eRules:=[114] }
def eX2:Fct:={ Ef with kind:=1,known:=5,eClubs:=[3,4],eRules:=[114] }
theorem eX_ok {f:Fct}{k a b:Int}(e:f = { Ef with kind:=1,known:=k,eClubs:=[a,b],eRules:=[114] })(hk:Bel k 1048577)(ha:Bel a 192)(hb:Bel b 192)(hab:a<b):Bm f:=by
 subst e
 refine ⟨⟨by show (0:Int)≤0;decide,by show (0:Int)<1048577;decide⟩,hk,?_,rfl⟩
 unfold Cw
 rw [if_pos (show (1:Int)=1 from rfl)]
 refine ⟨⟨by show (0:Int)≤0;decide,by show (0:Int)<64;decide⟩,⟨by show (0:Int)≤0;decide,by show (0:Int)<16;decide⟩,⟨by show 2≤2;decide,by show 2≤24;decide,fun c hc => ?_⟩,?_,?_⟩
 · have hc:c∈[a,b]:=hc
   simp only [List.mem_cons,List.not_mem_nil,or_false] at hc
   rcases hc with rfl|rfl
   · exact ha
   · exact hb
 · show List.Pairwise (· < ·) [a,b]
   simp [hab]
 · show (if (0:Int)<8 then Pa [114] else ([114]:List UInt8)=[])
   rw [if_pos (show (0:Int)<8 by decide)]
   refine ⟨by simp,by show 1≤24;decide,fun c hc => ?_,fun c hc => ?_⟩
   · have hc:some (114:UInt8)=some c:=hc
     cases hc;decide
   · have hc:c∈[(114:UInt8)]:=hc
     rw [List.mem_singleton] at hc;subst hc
     exact .inl QAs
theorem eX1_ok:Bm eX1:=eX_ok (k:=0) (a:=1) (b:=2) rfl QE4 QE4 QE4 QAs
theorem eX2_ok:Bm eX2:=eX_ok (k:=5) (a:=3) (b:=4) rfl QE4 QE4 QE4 QAs
theorem eX1_of:Cpa 0 0 eX1:=⟨rfl,rfl,rfl,eX1_ok⟩
theorem eX2_of:Cpa 0 0 eX2:=⟨rfl,rfl,rfl,eX2_ok⟩
theorem ent_one:Zp [eX1] 0 0=some eX1:=by
 have:=Qy [] 0 0 eX1
 rw [if_pos eX1_of] at this
 exact this
theorem ent_two:Zp [eX2,eX1] 0 0=some eX2:=by
 have h1:=Qy [] 0 0 eX2
 rw [if_pos eX2_of] at h1
 have h1:Zp [eX2] 0 0=some eX2:=h1
 have h2:=Qy [eX2] 0 0 eX1
 rw [if_pos eX1_of,h1] at h2
 refine h2.trans ?_
 have hn:¬ Gp eX2 eX1<0:=fun w=>by
  have w:=Gw.1 w
  unfold LtF at w
  have e1:eX2.known=5:=rfl
  have e2:eX1.known=0:=rfl
  omega
 show (if Gp eX2 eX1<0 then some eX1 else some eX2)=some eX2
 rw [if_neg hn]
theorem ent_nil (s c:Int):Zp [] s c=none:=rfl
theorem of_one (g:Ak):ofF [eX1] g=none:=by
 cases h:ofF [eX1] g with
 | none=>rfl
 | some x =>
   obtain ⟨hg,f,hf,_,e⟩:=ofF_ment (L:=[eX1]) (fun f hf=>by rw [List.mem_singleton] at hf;subst hf;rfl) h
   rw [List.mem_singleton] at hf
   subst hf
   have:g=Ol:=e.symm
   subst this
   exact absurd rfl hg.2.2.2.2
open Classical in
theorem Iqa:Pi [eX1] 0 0=[⟨0,0,1,2⟩,⟨0,0,2,1⟩]∧Se [eX1] 0 0=0:=by
 unfold Pi Se
 rw [if_pos QAs,if_pos QAs,ent_one]
 refine ⟨?_,rfl⟩
 show Ln [eX1] 0 0 [1,2] [1,2]=_
 simp [Ln,Jr,Ma,of_one]
theorem Dra:Pi [] 0 0=[]∧Se [] 0 0=190:=by
 unfold Pi Se
 rw [if_pos QAs,if_pos QAs,ent_nil]
 exact ⟨rfl,rfl⟩
theorem Dqa:Pi [] 0 8=[]∧Se [] 0 8=1:=by
 unfold Pi Se
 rw [if_neg QAs,if_neg QAs]
 exact ⟨rfl,rfl⟩
end Go.Hw
namespace Go.Hw
end Go.Hw
