import Derived.Test.YtbmffdagfjepgaaGreatDoorFC
import Derived.Test.YtbmffdagfjepgaaGreatDoorHE
set_option linter.all false
namespace Go.Hw
open Go Go.Lib
structure DC where
 b:Nat
 num:Int
 A:At
 c:Nat
 rs:AN
 s:List Bool
abbrev EI:=List DC
instance:Inhabited DC:=⟨⟨0,0,none,0,[],[]⟩⟩
def NM (C:Ax) (n:Int) (i:Nat):Prop:=∃f∈C,f.kind=5∧f.aCase=n∧f.aInst=(i:Int)∧f.aSusp=true
structure Hm (C:AN) (fs:EI):Prop where
 nodup:(fs.map (·.num)).Nodup
 rs:∀x∈fs,x.rs=C.filter fun p=>decide (CI x.num p.2)
 len:∀x∈fs,x.s.length=4
 sus:∀x∈fs,∀i,i<4→(x.s.getD i false=true↔NM (Ae C) x.num i)
 ru:∀p∈C,p.2.kind=4→∃x∈fs,x.num=p.2.ru.case
 ap:∀p∈C,p.2.kind=5→p.2.aSusp=true→∃x∈fs,x.num=p.2.aCase
def Hm.nil:Hm [] []:=⟨An,An,An,An,An,An⟩
def Oy (b:Nat) (n:Int):DC:=⟨b,n,none,0,[],[false,false,false,false]⟩
def Hm.get {C:AN}{fs:EI}(h:Hm C fs){b:Nat}{n:Int}(hn:∀x∈fs,x.num≠n):Hm C (fs++[Oy b n]) where
 nodup:=by
  rw[DI,Fm]
  refine⟨h.nodup,An,λa k c hc=>?_⟩
  obtain⟨x,hx,rfl⟩:=CZ.1 k
  rw[CW,Jv,Bk]at hc
  subst hc
  exact hn x hx
 rs x hx:=by
  rcases AO.1 hx with e|e
  · exact h.rs x e
  · rw[Bk]at e;subst e
    symm
    show C.filter (λp=>decide (CI n p.2))=[]
    rw[xO]
    intro p hp q
    have q:=of_decide_eq_true q
    obtain⟨x,hx,e⟩:=h.ru p hp q.1
    exact hn x hx (e.trans q.2)
 len x hx:=by
  rcases AO.1 hx with e|e
  · exact h.len x e
  · rw[Bk]at e;subst e;rfl
 sus x hx i hi:=by
  rcases AO.1 hx with e|e
  · exact h.sus x e i hi
  · rw[Bk]at e;subst e
    constructor
    · intro q
      exfalso
      have:∀i,i<4→([false,false,false,false].getD i false)=false:=by decide
      have g:([false,false,false,false].getD i false)=true:=q
      rw[this i hi]at g
      cases g
    · rintro⟨f,hf,j,hc,_,hs⟩
      obtain⟨p,hp,rfl⟩:=CZ.1 hf
      obtain⟨x,hx,e⟩:=h.ap p hp j hs
      exact absurd (e.trans hc) (hn x hx)
 ru p hp d:=by
  obtain⟨x,hx,e⟩:=h.ru p hp d
  exact⟨x,AO.2 (.inl hx),e⟩
 ap p hp d hs:=by
  obtain⟨x,hx,e⟩:=h.ap p hp d hs
  exact⟨x,AO.2 (.inl hx),e⟩
def zT {pre post:EI}{x y:DC}(h:((pre++x::post).map (·.num)).Nodup)(hy:y∈pre++post):y.num≠x.num:=by rw[DI,CW,Fm,Kv]at h;obtain⟨_,⟨h2,_⟩,h3⟩:=h;rcases AO.1 hy with e|e;{exact h3 _ (Uw e) _ An};{exactλq=>h2 (by rw[←q];exact Uw e)}
def Avt {C:Ax}{f:Al}(b:f.kind=4)(n:Int)(i:Nat):NM (C++[f]) n i↔NM C n i:=by constructor;{rintro⟨g,hg,a,r⟩;rcases AO.1 hg with e|e;{exact⟨g,e,a,r⟩};{rw[Bk]at e;subst e;omega}};{rintro⟨g,hg,r⟩;exact⟨g,AO.2 (.inl hg),r⟩}
def Hm.ruling {C:AN}{pre post:EI}{x:DC}(h:Hm C (pre++x::post)){p:AA×Al}(f:p.2.kind=4)(hn:x.num=p.2.ru.case)(A:At)(c:Nat) :
  Hm (C++[p]) (pre++⟨x.b,x.num,A,c,x.rs++[p],x.s⟩::post):=by
 have d:∀y,y∈pre++(⟨x.b,x.num,A,c,x.rs++[p],x.s⟩:DC)::post→y=⟨x.b,x.num,A,c,x.rs++[p],x.s⟩∨(y∈pre++post∧y∈pre++x::post):=λy hy=>by
  rcases AO.1 hy with e|e
  · exact .inr ⟨AO.2 (.inl e),AO.2 (.inl e)⟩
  · rcases Bx.1 e with e|e
    · exact .inl e
    · exact .inr ⟨AO.2 (.inr e),AO.2 (.inr (Ey _ e))⟩
 have hx:x∈pre++x::post:=by simp
 have a:∀n,(∃y∈pre++x::post,y.num=n)→∃y∈pre++(⟨x.b,x.num,A,c,x.rs++[p],x.s⟩:DC)::post,y.num=n:=by
  rintro n ⟨y,hy,e⟩
  rcases AO.1 hy with q|q
  · exact⟨y,AO.2 (.inl q),e⟩
  · rcases Bx.1 q with q|q
    · subst q;exact⟨_,AO.2 (.inr DX),e⟩
    · exact⟨y,AO.2 (.inr (Ey _ q)),e⟩
 constructor
 · have:=h.nodup
   rw[DI,CW]at this ⊢
   exact this
 · intro y hy
   rw[Gl]
   rcases d y hy with e|⟨e1,e2⟩
   · subst e
     show x.rs++[p]=_
     rw[h.rs x hx]
     have:CI x.num p.2:=⟨f,hn.symm⟩
     simp[this]
   · rw[h.rs y e2]
     have:¬CI y.num p.2:=λq=>zT h.nodup e1 (q.2.symm.trans hn.symm)
     simp[this]
 · intro y hy
   rcases d y hy with e|⟨e1,e2⟩
   · subst e;exact h.len x hx
   · exact h.len y e2
 · intro y hy i hi
   have hf:Ae (C++[p])=Ae C++[p.2]:=by simp[Ae]
   rw[hf,Avt f]
   rcases d y hy with e|⟨e1,e2⟩
   · subst e;exact h.sus x hx i hi
   · exact h.sus y e2 i hi
 · intro q hq b
   rcases AO.1 hq with e|e
   · exact a _ (h.ru q e b)
   · rw[Bk]at e;subst e;exact a _ ⟨x,hx,hn⟩
 · intro q hq b hs
   rcases AO.1 hq with e|e
   · exact a _ (h.ap q e b hs)
   · rw[Bk]at e;subst e;omega
def Adc {C:Ax}{f:Al}(n:Int)(i:Nat):NM (C++[f]) n i↔NM C n i∨(f.kind=5∧f.aCase=n∧f.aInst=(i:Int)∧f.aSusp=true):=by constructor;{rintro⟨g,hg,r⟩;rcases AO.1 hg with e|e;{exact .inl ⟨g,e,r⟩};{rw[Bk]at e;subst e;exact .inr r}};{rintro(⟨g,hg,r⟩|r);{exact⟨g,AO.2 (.inl hg),r⟩};{exact⟨f,An,r⟩}}
def Hm.appeal {C:AN}{pre post:EI}{x:DC}(h:Hm C (pre++x::post)){p:AA×Al}(g:p.2.kind=5)(hs:p.2.aSusp=true)(hn:x.num=p.2.aCase){j:Nat}(hj:p.2.aInst=(j:Int))(l:j<4) :
  Hm (C++[p]) (pre++⟨x.b,x.num,x.A,x.c,x.rs,x.s.set j true⟩::post):=by
 have c:∀y,y∈pre++(⟨x.b,x.num,x.A,x.c,x.rs,x.s.set j true⟩:DC)::post→y=⟨x.b,x.num,x.A,x.c,x.rs,x.s.set j true⟩∨(y∈pre++post∧y∈pre++x::post):=λy hy=>by
  rcases AO.1 hy with e|e
  · exact .inr ⟨AO.2 (.inl e),AO.2 (.inl e)⟩
  · rcases Bx.1 e with e|e
    · exact .inl e
    · exact .inr ⟨AO.2 (.inr e),AO.2 (.inr (Ey _ e))⟩
 have hx:x∈pre++x::post:=by simp
 have a:∀n,(∃y∈pre++x::post,y.num=n)→∃y∈pre++(⟨x.b,x.num,x.A,x.c,x.rs,x.s.set j true⟩:DC)::post,y.num=n:=by
  rintro n ⟨y,hy,e⟩
  rcases AO.1 hy with q|q
  · exact⟨y,AO.2 (.inl q),e⟩
  · rcases Bx.1 q with q|q
    · subst q;exact⟨_,AO.2 (.inr DX),e⟩
    · exact⟨y,AO.2 (.inr (Ey _ q)),e⟩
 have k:∀n,¬CI n p.2:=λn q=>by have:=q.1;omega
 have hf:Ae (C++[p])=Ae C++[p.2]:=by simp[Ae]
 constructor
 · have:=h.nodup
   rw[DI,CW]at this ⊢
   exact this
 · intro y hy
   rw[Gl]
   have f:[p].filter (λp=>decide (CI y.num p.2))=[]:=by simp[k]
   rw[f,DR]
   rcases c y hy with e|⟨e1,e2⟩
   · subst e
     exact h.rs x hx
   · exact h.rs y e2
 · intro y hy
   rcases c y hy with e|⟨e1,e2⟩
   · subst e
     show(x.s.set j true).length=4
     rw[Mi];exact h.len x hx
   · exact h.len y e2
 · intro y hy i hi
   rw[hf,Adc]
   rcases c y hy with e|⟨e1,e2⟩
   · subst e
     have m:=h.len x hx
     show(x.s.set j true).getD i false=true↔NM (Ae C) x.num i∨_
     rw[←h.sus x hx i hi]
     by_cases d:j=i
     · subst d
       rw[Dr,eL J]
       simp[g,hs,hn,hj]
     · rw[Dr,xJ d,←Dr]
       constructor
       · exact .inl
       · rintro(q|q)
         · exact q
         · exact absurd q.2.2.1 (by rw[hj];omega)
   · rw[h.sus y e2 i hi]
     constructor
     · exact .inl
     · rintro(q|q)
       · exact q
       · exact absurd (hn.trans q.2.1) λe=>zT h.nodup e1 e.symm
 · intro q hq b
   rcases AO.1 hq with e|e
   · exact a _ (h.ru q e b)
   · rw[Bk]at e;subst e;omega
 · intro q hq b hs2
   rcases AO.1 hq with e|e
   · exact a _ (h.ap q e b hs2)
   · rw[Bk]at e;subst e;exact a _ ⟨x,hx,hn⟩
def Hm.nop {C:AN}{fs:EI}(h:Hm C fs){p:AA×Al}(d:p.2.kind=5)(hs:p.2.aSusp=false):Hm (C++[p]) fs:=by(have c:∀n,¬CI n p.2:=λn q=>by have:=q.1;omega);(have hf:Ae (C++[p])=Ae C++[p.2]:=by simp[Ae]);constructor;{exact h.nodup};{intro y hy;rw[Gl];(have b:[p].filter (λp=>decide (CI y.num p.2))=[]:=by simp[c]);rw[b,DR];exact h.rs y hy};{exact h.len};{intro y hy i hi;rw[hf,Adc,h.sus y hy i hi];constructor;{exact .inl};{rintro(q|q);{exact q};{rw[hs]at q;exact absurd q.2.2.2 An}}};{intro q hq a;rcases AO.1 hq with e|e;{exact h.ru q e a};{rw[Bk]at e;subst e;omega}};{intro q hq a hs2;rcases AO.1 hq with e|e;{exact h.ap q e a hs2};{rw[Bk]at e;subst e;rw[hs]at hs2;cases hs2}}
def Ayf {C:AN}{fs ys:EI}(h:Hm C fs)(hp:ys.Perm (fs.filter λx=> !x.rs.isEmpty))(hs:ys.Pairwise λx y=>x.num≤y.num):ys.map (·.num)=EB (Ae C):=by(have i:(ys.map (·.num)).Nodup:=by{refine(hp.map (·.num)).nodup_iff.2 (List.Nodup.sublist ?_ h.nodup);exact xS _ xM});refine aG ?_ (Yp _) λn=>?_;{have h1:(ys.map (·.num)).Pairwise (· ≤·):=Og.2 hs;have h2:(ys.map (·.num)).Pairwise (· ≠·):=i;exact(h1.and h2).imp λ{a b} q=>by have:=q.1;have:=q.2;omega};{rw[Sl,CZ];constructor;{rintro⟨x,hx,rfl⟩;obtain⟨h1,h2⟩:=DQ.1 (hp.mem_iff.1 hx);have h3:=h.rs x h1;cases hr:x.rs with|nil=>rw[hr]at h2;simp at h2|cons p r=>(have:p∈C.filter λp=>decide (CI x.num p.2):=by rw[←h3,hr];simp);obtain⟨j,k⟩:=DQ.1 this;exact⟨p.2,Uw j,of_decide_eq_true k⟩};{rintro⟨f,hf,c⟩;obtain⟨p,d,rfl⟩:=CZ.1 hf;obtain⟨x,hx,e⟩:=h.ru p d c.1;have g:x.num=n:=e.trans c.2;refine⟨x,hp.mem_iff.2 (DQ.2 ⟨hx,?_⟩),g⟩;(have:p∈x.rs:=by rw[h.rs x hx];exact DQ.2 ⟨d,decide_eq_true (by rw[g];exact c)⟩);cases hr:x.rs with|nil=>(rw[hr]at this;cases this)|cons _ _=>rfl}}
theorem lE (p:AA×Al):∀{ns:AC},ns.Nodup→(ns.map λn=>if CI n p.2 then 1 else 0).sum≤1
 |[],_=>by simp
 |n::r,h=>by obtain⟨h1,h2⟩:=Kv.1 h;have a:=lE p h2;rw[CW,Uu];by_cases hq:CI n p.2;{(have:(r.map λn=>if CI n p.2 then 1 else 0)=r.map λ_=>0:=xF λm hm=>by{rw[if_neg];intro q;have:m=n:=q.2.symm.trans hq.2;subst this;exact h1 hm});rw[if_pos hq,this];(have h0:∀r:AC,(r.map λ_=>(0:Nat)).sum=0:=λr=>by{induction r with|nil=>rfl|cons _ _ a=>rw[CW,Uu,a]});rw[h0];exact BU _};{rw[if_neg hq];omega}
theorem mO (f g:Int→Nat):∀ns:AC,(ns.map λn=>f n+g n).sum=(ns.map f).sum+(ns.map g).sum
 |[]=>rfl
 |n::r=>by rw[CW,Uu,mO f g r,CW,CW,Uu,Uu];omega
theorem zP {ns:AC}(hn:ns.Nodup):∀C:AN,(ns.map λn=>(C.filter λp=>decide (CI n p.2)).length).sum≤C.length
 |[]=>by(have h0:∀r:AC,(r.map λn=>(([]:AN).filter λp=>decide (CI n p.2)).length).sum=0:=λr=>by{induction r with|nil=>rfl|cons _ _ a=>rw[CW,Uu,a];rfl});rw[h0];exact GT _
 |p::C=>by
  have h1:(ns.map λn=>((p::C).filter λp=>decide (CI n p.2)).length)=ns.map λn=>(if CI n p.2 then 1 else 0)+(C.filter λp=>decide (CI n p.2)).length:=xF λn _=>by
   rw[Ky];by_cases hq:CI n p.2;{simp[hq];omega};{simp[hq]}
  rw[h1,mO,Do];have:=lE p hn;have:=zP hn C;omega
def Lv (rs:AN):Int:=rs.foldl (λm p=>max m p.2.ru.inst) 0
def Avc (rs:AN)(p:AA×Al):Lv (rs++[p])=max (Lv rs) p.2.ru.inst:=by unfold Lv;rw[GL];rfl
end Go.Hw
set_option maxRecDepth 100000
set_option maxHeartbeats 8000000
namespace Go.Hw
open Go
attribute [local irreducible] AI Bz BV Aq AP Az Au CH Ap Ar BG Cm BP Dg
open Go.Proofs.Tryz
def Ar9 (gf:FuncId)(cb:Ao)(ac:BP prog gf)(h:U)(ab:∀h',V h h'→∀x y:AA×Al,DU h' x→DU h' y→Az prog gf ([BW x.1 x.2,BW y.1 y.2]++cb).toArray h' λu _=>u=.bool (decide (CO x.2 y.2=0)))(v:Value)(ys:AN)(n:Nat)(hn:n≤1000000)(am:ys.length=n)(hg:∀p∈ys,DU h p) :
  AP prog 331 #[v,.func (.func gf) #[] cb.toArray] [Ar 71 82 v n (ys.flatMap BM)] h λu Es _=>Es=[Ar 71 82 u (Ol ys).length ((Ol ys).flatMap BM)]:=by
 refine Cx func331 λ_ _=>?_
 by_cases h2:n<2
 · refine Tj Bc ?_
   intro a4 c0 aj
   subst aj
   rw[nD J,am]
   repeat'(first|refine Aa ?_|(refine Y ?_ ?_<;>intro hc<;>try omega)|fail)
   all_goals first
    |omega
    |exact DD rfl rfl rfl (FH _) rfl
 · refine VQ Bc J ?_
   intro b c hnc aj
   subst aj
   repeat'(first|refine Aa ?_|(refine Y ?_ ?_<;>intro hc<;>try omega)|fail)
   refine Bg (X:=Nat×U) (λx=>1≤x.1∧x.1≤n∧V h x.2∧Ol (ys.take x.1)=ys.take x.1) (λx=>n-x.1)
    (λx=>[(5,O x.1),(0,.slice (some (Av b)) n c),(1,.func (.func gf) #[] cb.toArray)])
    (λx=>[Ar 71 82 (.slice (some (Av b)) n c) n (ys.flatMap BM)]) (λx=>x.2) (1,h) ⟨Ah,Ah,V.refl _,nD OY⟩ Af Ad rfl ?_
   rintro⟨k,hh⟩ ⟨av,az,aw,o⟩ ag
   dsimp only at av az aw o ag ⊢
   by_cases a5:k<n
   · obtain⟨x,hx⟩:∃x,ys[k]?=some x:=⟨_,Bw J⟩
     obtain⟨y,hy⟩:∃y,ys[k-1]?=some y:=⟨_,Bw J⟩
     have ak:=hg x (Oi hx)
     have al:=hg y (Oi hy)
     have s:=nL av J hx hy
     by_cases q:CO x.2 y.2=0
     · rw[if_pos q,DR,o]at s
       repeat'(first|refine Aa ?_|(refine Z (by apply Ml (lo:=k);(iterate 5 exact F);(with_reducible exact F);omega) ?_)|(apply AU (n:=6) 11 [0,1,2,3,4,5,6,7,8,9,99,10];kernel_rfl)|(apply Be;exact Bd;(first|exact MW|exact bQ|exact sP|exact sT);exact AX)|(refine Bn ?_;first|(apply Pr (f:=gf) (fs:=[]) (cs:=cb);exact F;exact F;exact ac;exact ab _ Ag x y (ak.le Ag) (al.le Ag);rw[decide_eq_true q];rintro vr ae ad rfl;refine⟨ad,Ak,?_⟩))|(refine Y ?_ ?_<;>intro hc<;>try omega)|fail)
       rw[ZK (show k<c by omega)]
       refine Bg (X:=Nat×Nat×AN×U) (λx=>1≤x.2.1∧k+x.2.1≤n∧x.1≤k+x.2.1-1∧x.2.2.1.length=n∧V ae x.2.2.2∧x.2.2.1.take x.1=Ol (ys.take (k+x.2.1))∧(∀t,k+x.2.1-1≤t→x.2.2.1[t]?=ys[t]?)) (λx=>n-(k+x.2.1))
        (λx=>[(7,O x.2.1),(6,.slice (some ⟨b,k*82,none⟩) (n-k) (c-k)),(5,O x.1),(0,.slice (some (Av b)) n c),(1,.func (.func gf) #[] cb.toArray)])
        (λx=>[Ar 71 82 (.slice (some (Av b)) n c) n (x.2.2.1.flatMap BM)]) (λx=>x.2.2.2) (k,1,ys,ae) ⟨Ah,Ah,Ah,am,V.refl _,s.symm,λt _=>rfl⟩ Af Ad rfl ?_
       clear ag
       rintro⟨a,k2,zs,a7⟩ ⟨a1,a2,a3,ai,aq,i,w⟩ ah
       dsimp only at a1 a2 a3 ai aq i w ah ⊢
       clear s ak al hx hy q
       by_cases a6:k+k2<n
       · obtain⟨d,hx2⟩:∃d,ys[k+k2]?=some d:=⟨_,Bw J⟩
         obtain⟨g,ap⟩:∃g,ys[k+k2-1]?=some g:=⟨_,Bw J⟩
         have ar:=hg d (Oi hx2)
         have au:=hg g (Oi ap)
         have af:=nL (show 1≤k+k2 by omega) J hx2 ap
         have hzx:zs[k+k2]?=some d:=by rw[w _ J];exact hx2
         have hzy:zs[k+(k2-1)]?=some g:=by rw[w _ J,show k+(k2-1)=k+k2-1 by omega];exact ap
         by_cases aa:CO d.2 g.2=0
         · rw[if_pos aa,DR,←i]at af
           repeat'(first|refine Aa ?_|(apply AU (n:=11) 12 [0,1,2,3,4,5,6,7,8,9,99,10,99,11];kernel_rfl)|(apply Be;exact Bd;(first|exact bW|(apply MM (j:=k2-1);(iterate 5 exact F);omega;omega)|exact cS|exact sW);exact AX)|(refine Bn ?_;first|(apply Pr (f:=gf) (fs:=[]) (cs:=cb);exact F;exact F;exact ac;exact ab _ Ag d g (ar.le Ag) (au.le Ag);rw[decide_eq_true aa];rintro vr an r rfl;refine⟨r,Ak,?_⟩))|(refine Y ?_ ?_<;>intro hc<;>try omega)|fail)
           all_goals
            have e:=ah (a,k2+1,zs,an) ⟨Ah,Ah,Ah,ai,by dsimp only;exact aq.trans r,by dsimp only;exact af.symm,λt ao=>w t (by dsimp only at ao;omega)⟩ Ah
            dsimp only at e
            refine AB Af Ad e
         · rw[if_neg aa,←i]at af
           repeat'(first|refine Aa ?_|refine Z bW ?_|(refine Z (by apply MM (j:=a);(iterate 5 exact F);(with_reducible exact F);omega) ?_)|refine Z cS ?_|(refine Ac ?_;first|(apply uJ (b:=b) (enc:=BM) (sz:=82) (k:=a) (z:=d) (xs:=zs);exact F;exact F;exact OK _ _;exact F;exact Gv;exact F;exact Bp;omega;exact F;exact F))|(apply AU (n:=11) 12 [0,1,2,3,4,5,6,7,8,9,99,10,99,11];kernel_rfl)|(apply Be;exact Bd;(first|exact bW|(apply MM (j:=k2-1);(iterate 5 exact F);omega;omega)|exact cS|exact sW);exact AX)|(refine Bn ?_;first|(apply Pr (f:=gf) (fs:=[]) (cs:=cb);exact F;exact F;exact ac;exact ab _ Ag d g (ar.le Ag) (au.le Ag);rw[decide_eq_false aa];rintro vr an r rfl;refine⟨r,Ak,?_⟩))|(refine Y ?_ ?_<;>intro hc<;>try omega)|fail)
           all_goals
            have a0:(zs.set a d).take (a+1)=zs.take a++[d]:=by
             rw[LF,eL J,List.take_set_of_le (BU _)];rfl
            have e:=ah (a+1,k2+1,zs.set a d,an) ⟨Ah,Ah,Ah,by dsimp only;rw[Mi];exact ai,by dsimp only;exact aq.trans r,by dsimp only;rw[a0];exact af.symm,λt ao=>by
             dsimp only at ao ⊢
             rw[xJ J];exact w t J⟩ Ah
            dsimp only at e
            refine AB Af Ad e
       · have hkn2:k+k2=n:=by omega
         clear ah
         rw[hkn2,By (l:=ys) J]at i
         have ay:(Ol ys).length=a:=by rw[←i,CF];omega
         repeat'(first|refine Aa ?_|(refine Z (by apply Ml (lo:=a);(iterate 5 exact F);(with_reducible exact F);omega) ?_)|(refine Y ?_ ?_<;>intro hc<;>try omega)|fail)
         all_goals try omega
         rw[ZK (show a<c by omega)]
         repeat'(first|refine Aa ?_|(refine Z (by apply PA (hi:=a);(iterate 5 exact F);(with_reducible exact F);omega;exact hnc) ?_)|(refine Ac ?_;first|(apply Adx (enc:=BM) (b:=b) (k:=a) (m:=n-a) (n:=n) (c:=c) (xs:=zs);(iterate 3 exact F);exact Cf _ _;(iterate 4 exact F);exact Gv;omega;omega;exact ai;exact Bp))|fail)
         rw[Acu,i,ay]
         exact DD rfl rfl rfl (FH _) rfl
     · rw[if_neg q,o]at s
       repeat'(first|refine Aa ?_|(apply AU (n:=6) 11 [0,1,2,3,4,5,6,7,8,9,99,10];kernel_rfl)|(apply Be;exact Bd;(first|exact MW|exact bQ|exact sP|exact sT);exact AX)|(refine Bn ?_;first|(apply Pr (f:=gf) (fs:=[]) (cs:=cb);exact F;exact F;exact ac;exact ab _ Ag x y (ak.le Ag) (al.le Ag);rw[decide_eq_false q];rintro vr ae ad rfl;refine⟨ad,Ak,?_⟩))|(refine Y ?_ ?_<;>intro hc<;>try omega)|fail)
       all_goals
        have e:=ag (k+1,ae) ⟨Ah,Ah,by dsimp only;exact aw.trans ad,by dsimp only;rw[s,LF,hx];rfl⟩ Ah
        dsimp only at e
        refine AB Af Ad e
   · have ax:k=n:=by omega
     subst ax
     clear ag
     rw[By J]at o
     rw[o,am]
     repeat'(first|refine Aa ?_|(refine Y ?_ ?_<;>intro hc<;>try omega)|fail)
     all_goals exact DD rfl rfl rfl (FH _) rfl
attribute [local irreducible] El
abbrev Jl (x:DC):Ao:=O x.num::.slice x.A x.rs.length x.c::x.s.map .bool
abbrev Hx (x:DC):Value:=AD x.b
structure Fq (h:U) (x:DC):Prop where
 cells:Au h (Av x.b) (Jl x)
 row:Ai BM 82 h x.A x.rs.length x.rs
 good:∀p∈x.rs,DU h p
 len:x.s.length=4
 small:x.rs.length≤1000000
def Fq.le {h h':U}{x:DC}(a:Fq h x)(b:V h h'):Fq h' x:=⟨a.cells.le b,a.row.le b,λp hp=>(a.good p hp).le b,a.len,a.small⟩
def Fq.sus {h:U}{x:DC}(a:Fq h x){j:Nat}(hj:j<4):Au h ((((Av x.b):Addr).add 2).add (j*1)) [.bool (x.s.getD j false)]:=by have b:=a.len;(have h1:(Jl x)[2+j]?=some (.bool (x.s.getD j false)):=by{show(Value.int .i64 x.num::Value.slice x.A x.rs.length x.c::x.s.map .bool)[2+j]?=_;rw[show 2+j=j+1+1 by omega,Sp,Sp,FG,Bw J,Hg,Dr,Bw J,IQ]});have:=fK a.cells (k:=2+j) h1;rw[Mp,show 2+j*1=(2+j)*1 by omega];exact this
def DU.inst {h:U}{p:AA×Al}(a:DU h p)(b:p.2.kind=4):1≤p.2.ru.inst∧p.2.ru.inst≤3:=fO a.2.2 b
def kL (h:U)(x:DC)(hx:Fq h x):Aq prog 219 #[Hx x] h (O (Lv x.rs)):=by
 refine AK func219 λ_ _=>?_;have i:=hx.cells;have c:=hx.row;have hsm:=hx.small;obtain⟨n,hn⟩:∃n,n=x.rs.length:=⟨_,rfl⟩;obtain⟨b,g⟩:∃b,b=x.b:=⟨_,rfl⟩;show AI _ _ _ _ _ _;(repeat'(first|refine Aa ?_|refine Z Cb ?_|fail));refine Bg (X:=Nat) (λk=>k≤x.rs.length) (λk=>x.rs.length-k) (λk=>[(11,O k),(10,O x.rs.length),(9,.slice x.A x.rs.length x.c),(3,O (Lv (x.rs.take k)))]) (λ_=>[]) (λ_=>h) 0 J Af Ad rfl ?_;rintro k j d;by_cases a:k<x.rs.length
 ·have a1:=c.addrD a;have c1:=c.cellsD AS a;have f:=BY AS (xs:=x.rs) rfl a;generalize x.rs.getD k AS=p at *;(have e:Lv (x.rs.take (k+1))=max (Lv (x.rs.take k)) p.2.ru.inst:=by rw[f,Avc]);(repeat'(first|refine AH ?_|refine Z Bf ?_|refine Z BN ?_|(refine Aj ?_;intro b)|(refine Y ?_ ?_<;>intro hc<;>try omega)|fail))
  all_goals
   have h3:=d (k+1) J J
   rw[e]at h3
   refine AB Af Ad h3
 {rw[By J];clear d;(repeat'(first|refine Aa ?_|(refine Y ?_ ?_<;>intro hc<;>try omega)|refine Bm ?_|fail));all_goals rfl}
def Apa (h:U)(x:DC)(hx:Fq h x){j:Nat}(hj:Lv x.rs=(j:Int))(b:j<4):Aq prog 217 #[Hx x] h (.bool (x.s.getD j false)):=by refine AK func217 λ_ _=>?_;have a:=kL h x hx;rw[hj]at a;have hs:=hx.sus b;(repeat'(first|refine Aa ?_|(apply AU (n:=1) 8 [0,1,3,4,99,2,99,5,6,7];kernel_rfl)|(apply Be;exact Bd;(first|(apply KB (j:=j);(iterate 5 exact F);(with_reducible exact F);omega)|(apply BA;exact F;exact BH rfl hs rfl));exact AX)|(refine Bn ?_;first|(apply Aw;exact F;exact Ab func219;exact a;refine⟨V.refl _,Ak,?_⟩))|refine Bm ?_|fail));all_goals rfl
def bL (h:U)(A:At)(n c:Nat)(l:AN)(hx:Ai BM 82 h A n l)(hn:n≤1000000000)(f:FuncId)(fs cs:Ao)(p:AA×Al→Bool)(hh:BP prog f)
  (hf:∀x∈l,Aq prog f (fs++[BW x.1 x.2]++cs).toArray h (.bool (p x))) :
  Aq prog 215 #[.slice A n c,.func (.func f) fs.toArray cs.toArray] h (O (FO p l 0)):=by
 refine AK func215 λ_ _=>?_
 have e:=hx.len
 repeat'(first|refine Aa ?_|fail)
 refine Bg (X:=Nat) (λk=>k≤n∧FO p (l.drop k) k=FO p l 0) (λk=>n-k) (λk=>[(8,O k),(7,O n),(0,.slice A n c),(1,.func (.func f) fs.toArray cs.toArray)]) (λ_=>[]) (λ_=>h) 0 ⟨J,rfl⟩ Af Ad rfl ?_
 rintro k ⟨i,a⟩ g
 by_cases b:k<n
 · have a1:=hx.addrD b
   have c1:=hx.cellsD AS b
   have d:=ZX AS e b
   have hv:=hf _ (Tm AS (show k<l.length by omega))
   generalize l.getD k AS=x at *
   repeat'(first|refine Aa ?_|refine Z Bf ?_|refine Z BN ?_|(refine Ac ?_;first|(refine Qc ?_))|(refine Y ?_ ?_<;>intro hc<;>try omega)|refine Bm ?_|fail)
   · rw[←a,d,FO,if_pos hc]
   · have h3:=g (k+1) ⟨J,by rw[←a,d,FO,if_neg NS]⟩ J
     refine AB Af Ad h3
 · repeat'(first|refine Aa ?_|(refine Y ?_ ?_<;>intro hc<;>try omega)|refine Bm ?_|fail)
   rw[←a,show k=l.length by omega,Ok];rfl
theorem Se {α:Type}(p:α→Bool):∀(l:List α) (k:Nat),(FO p l k = -1∧l.find? p=none)∨∃j x,j<l.length∧FO p l k=((k+j:Nat):Int)∧l[j]?=some x∧l.find? p=some x
 |[],k=>.inl ⟨rfl,rfl⟩
 |y::r,k=>by unfold FO;by_cases h:p y=true;{exact .inr ⟨0,y,An,by rw[if_pos h];rfl,rfl,by rw[Ux,h]⟩};{(have hf:p y=false:=by simpa using h);rcases Se p r (k+1)with⟨e1,e2⟩|⟨j,x,e1,e2,a,b⟩;{exact .inl ⟨by rw[if_neg h];exact e1,by rw[Ux,hf];exact e2⟩};{exact .inr ⟨j+1,x,Nat.succ_lt_succ e1,by rw[if_neg h,e2];congr 1;omega,by rw[Sp];exact a,by rw[Ux,hf];exact b⟩}}
def mN (h:U)(b:Nat)(i:Int)(a:Au h (Av b) [O i])(p:AA×Al):Aq prog 302 #[BW p.1 p.2,AD b] h (.bool (decide (p.2.ru.inst=i))):=by refine AK func302 λ_ _=>?_;(repeat'(first|refine Aa ?_|refine Z Cb ?_|(refine Aj ?_;intro b)|refine Bm ?_|fail));all_goals rw[FP]
def MQ (rs:AN) (i:Int):YX:=rs.find? λp=>decide (p.2.ru.inst=i)
def jS (o:YX):AA×Al:=o.getD AS
def Azi (h:U)(x:DC)(hx:Fq h x)(i:Int):Aq prog 218 #[Hx x,O i] h (.tuple #[BW (jS (MQ x.rs i)).1 (jS (MQ x.rs i)).2,.bool (MQ x.rs i).isSome]):=by
 refine AK func218 λ_ _=>?_;have r:=hx.cells;have c:=hx.row;have hsm:=hx.small;rcases Se (λp:AA×Al=>decide (p.2.ru.inst=i)) x.rs 0 with⟨e1,e2⟩|⟨j,y,e1,e2,d,n⟩
 ·have d:MQ x.rs i=none:=e2;rw[d];(have k:∀h1 a,V h h1→Au h1 (Av a) [O i]→Aq prog 215 #[.slice x.A x.rs.length x.c,.func (.func 302) #[] #[AD a]] h1 (O (-1)):=λh1 a l f=>by{have:=bL h1 x.A x.rs.length x.c x.rs (c.le l) J 302 [] [AD a] (λp=>decide (p.2.ru.inst=i)) (Ab func302) (λp _=>mN h1 a i f p);rw[e1]at this;exact this});(repeat'(first|refine AH ?_|refine Z Cb ?_|(refine Aj ?_;intro b)|(refine Ac ?_;first|(refine Gt (e:=3) Bh ?_;intro h1 m g;apply Aw;exact F;exact Ab func215;exact k _ _ m g))|(refine Y ?_ ?_<;>intro hc<;>try omega)|(apply Qi;(iterate 3 exact F);exact Bc;(iterate 3 exact F))|fail))
  all_goals first
   |rfl
 ·have o:MQ x.rs i=some y:=n;rw[o];have a1:=c.addrD e1;have c1:=c.cellsD AS e1;(have q:x.rs.getD j AS=y:=by rw[Dr,d];rfl);rw[q]at c1;rw[Dy]at e2;(have k:∀h1 a,V h h1→Au h1 (Av a) [O i]→Aq prog 215 #[.slice x.A x.rs.length x.c,.func (.func 302) #[] #[AD a]] h1 (O j):=λh1 a l f=>by{have:=bL h1 x.A x.rs.length x.c x.rs (c.le l) J 302 [] [AD a] (λp=>decide (p.2.ru.inst=i)) (Ab func302) (λp _=>mN h1 a i f p);rw[e2]at this;exact this});(repeat'(first|refine AH ?_|(refine Z (by apply Cs (j:=j);(iterate 5 exact F);exact a1;(with_reducible exact F);omega) ?_)|(refine Z (by apply BA;exact F;(first|exact BH rfl (c1.le Ag) rfl|exact GA rfl (r.le Ag) rfl)) ?_)|(refine Aj ?_;intro b)|(refine Ac ?_;first|(refine Gt (e:=3) Bh ?_;intro h1 m g;apply Aw;exact F;exact Ab func215;exact k _ _ m g))|(refine Y ?_ ?_<;>intro hc<;>try omega)|(apply Qi;(iterate 3 exact F);exact Bc;(iterate 3 exact F))|fail))
  all_goals first
   |rfl
abbrev HX (x:DC):Am:=[Ap x.b 295 (Jl x),Ar 71 82 (.slice x.A x.rs.length x.c) x.rs.length (x.rs.flatMap BM)]
abbrev Dt (b:Nat):Value:=AD b
abbrev JH (i:Int):Value:=O i
def Ec (fs:EI):List (Int×Nat):=fs.map λx=>(x.num,x.b)
theorem Ac4:∀{fs:EI} {n:Int},(∀x∈fs,x.num≠n)→Co n (Ec fs)=none∧∀b,Dk n b (Ec fs)=Ec fs++[(n,b)]
 |[],n,_=>⟨rfl,λ_=>rfl⟩
 |x::r,n,h=>by obtain⟨h1,h2⟩:=Ac4 (fs:=r) (n:=n) λy hy=>h y (Ey _ hy);have h3:=h x DX;unfold Ec at *;constructor;{rw[CW];unfold Co;rw[if_neg h3];exact h1};{intro b;rw[CW];unfold Dk;rw[if_neg h3,h2 b];rfl}
theorem Ac5:∀{pre post:EI} {x:DC},(∀y∈pre,y.num≠x.num)→Co x.num (Ec (pre++x::post))=some x.b
 |[],post,x,_=>by unfold Ec;rw[FE,CW];unfold Co;rw[if_pos rfl]
 |y::pre,post,x,h=>by have h1:=Ac5 (pre:=pre) (post:=post) (x:=x) λz a=>h z (Ey _ a);have h3:=h y DX;unfold Ec at *;rw[FW,CW];unfold Co;rw[if_neg h3];exact h1
theorem yT (n:Int):∀fs:EI,(∀x∈fs,x.num≠n)∨∃pre x post,fs=pre++x::post∧x.num=n∧∀y∈pre,y.num≠x.num
 |[]=>.inl An
 |x::r=>by
  by_cases h:x.num=n;{exact .inr ⟨[],x,r,rfl,h,An⟩}
  ·rcases yT n r with q|⟨pre,y,post,e,e2,a⟩
   ·exact .inl λy hy=>by
     rcases Bx.1 hy with w|w;{rw[w];exact h};{exact q y w}
   ·exact .inr ⟨x::pre,y,post,by rw[e];rfl,e2,λz b=>by
     rcases Bx.1 b with w|w;{rw[w,e2];exact h}
     ·exact a z w⟩
def Apj (h:U)(bF bm:Nat)(fs:EI)(n:Int):AP prog 298 #[O n,Dt bF] [Ap bF 292 [.map (some bm)],BG JH Dt bm (Ec fs),El (fs.flatMap HX)] h λu Es _=>∃pre x post,u=Hx x∧x.num=n∧((pre++x::post=fs)∨(∃b,pre=fs∧post=[]∧x=Oy b n∧∀y∈fs,y.num≠n))∧Es=[Ap x.b 295 (Jl x),Ar 71 82 (.slice x.A x.rs.length x.c) x.rs.length (x.rs.flatMap BM),El (pre.flatMap HX++post.flatMap HX),Ap bF 292 [.map (some bm)],BG JH Dt bm (Ec (pre++x::post))]:=by refine Cx func298 λ_ _=>?_;rcases yT n fs with c|⟨pre,x,post,e,d,i⟩;{obtain⟨a,hi⟩:=Ac4 c;(have f:∀b,Co n (Ec fs++[(n,b)])=some b:=λb=>by rw[←hi b,KM,if_pos rfl]);(repeat'(first|refine Ba ?_|(apply LP;exact F;exact F;(apply On (ek:=JH) (ev:=Dt) (b:=bm) (key:=n) (m:=Ec fs) (r:=none) LJ;(iterate 5 exact F);exact a);focus((repeat'(first|exact trivial|apply And.intro|exact List.Mem.head _|apply List.Mem.tail));done))|(apply LP;exact F;exact F;(apply On (ek:=JH) (ev:=Dt) (b:=bm) (key:=n) (m:=Ec fs++[(n,b)]) (r:=some b) LJ;(iterate 5 exact F);exact f _);focus((repeat'(first|exact trivial|apply And.intro|exact List.Mem.head _|apply List.Mem.tail));done))|refine Eo ?_|(refine Aj ?_;intro b)|(refine Ac ?_;first|(apply Nq (ek:=JH) (ev:=Dt) (b:=bm) (m:=Ec fs) (key:=n) (u:=b) LJ;(iterate 6 exact F);rw[hi];exact Bp))|(refine Y ?_ ?_<;>intro hc<;>try omega)|fail));{generalize b=b7;refine FN 71 82 ?_;refine EF (Es':=[Ap b7 295 (Jl (Oy b7 n)),Ar 71 82 (.slice none 0 0) 0 [],El (fs.flatMap HX),Ap bF 292 [.map (some bm)],BG JH Dt bm (Ec fs++[(n,b7)])]) Ad ?_;(have e1:Ec (fs++[Oy b7 n])=Ec fs++[(n,b7)]:=by simp[Ec,Oy]);(have e2:fs.flatMap HX++([]:EI).flatMap HX=fs.flatMap HX:=by simp);exact DD rfl rfl rfl (FH _) ⟨fs,Oy b7 n,[],rfl,rfl,.inr ⟨b7,rfl,rfl,rfl,c⟩,by rw[e1,e2];rfl⟩};{exfalso;simp at hc}};{subst e;have a:=Ac5 (post:=post) i;rw[d]at a;(repeat'(first|refine Aa ?_|(refine Z (by apply On (ek:=JH) (ev:=Dt) (key:=n) (m:=Ec (pre++x::post)) (r:=some x.b) LJ;(iterate 5 exact F);exact a) ?_)|(refine Y ?_ ?_<;>intro hc<;>try omega)|fail));refine A0j (g:=HX) (pre:=pre) (post:=post) (x:=x) Bh rfl ?_;refine EF (Es':=[Ap x.b 295 (Jl x),Ar 71 82 (.slice x.A x.rs.length x.c) x.rs.length (x.rs.flatMap BM),El (pre.flatMap HX++post.flatMap HX),Ap bF 292 [.map (some bm)],BG JH Dt bm (Ec (pre++x::post))]) Ad ?_;exact DD rfl rfl rfl (FH _) ⟨pre,x,post,rfl,d,.inl rfl,rfl⟩}
abbrev HI (x:DC):Ao:=[Hx x]
def mC (h:U)(x y:DC)(hx:Fq h x)(hy:Fq h y):Aq prog 301 #[Hx x,Hx y] h (O (BJ x.num y.num)):=by refine AK func301 λ_ _=>?_;have c1:=hx.cells;have c2:=hy.cells;(repeat'(first|refine Aa ?_|(apply AU (n:=1) 10 [0,1,2,3,4,5,6,7,99,8,99,9];kernel_rfl)|(apply Be;exact Bd;(apply BA;exact F;(first|exact BH rfl c1 rfl|exact BH rfl c2 rfl));exact AX)|(refine Bn ?_;first|(apply Aw;exact F;exact Ab func55;exact Ru _ _ _;refine⟨V.refl _,Ak,?_⟩))|refine Bm ?_|fail));all_goals rfl
def Aim (h:U)(b:Nat)(a:Au h (Av b) [.func (.func 301) #[] #[]])(x y:DC)(hx:Fq h x)(hy:Fq h y):Aq prog 336 #[Hx x,Hx y,AD b] h (.bool (decide (x.num=y.num))):=by refine AK func336 λ_ _=>?_;have hv:=mC h x y hx hy;(repeat'(first|refine Aa ?_|refine Z Cb ?_|(refine Ac ?_;first|(apply Hb (f:=301) (fs:=[]) (cs:=[]);exact F;exact F;exact Ab func301;exact hv))|refine Bm ?_|fail));all_goals(congr 1;rw[Lj,Fb,decide_eq_true_eq];exact QF)
def Ain (h:U)(hG:DG h)(b:Nat)(c:Au h (Av b) [.func (.func 46) #[] #[]])(x y:AA×Al)(hx:DU h x)(hy:DU h y):Az prog 332 #[BW x.1 x.2,BW y.1 y.2,AD b] h (λu _=>u=.bool (decide (CO x.2 y.2=0))):=by refine BB func332 λ_ _=>?_;have hv:=λh' (a:V h h')=>ZF h' (hG.le a) x y (hx.le a) (hy.le a);(repeat'(first|refine Aa ?_|refine Z Cb ?_|(refine Aj ?_;intro b)|(refine Ac ?_;first|(apply Pr (f:=46) (fs:=[]) (cs:=[]);exact F;exact F;exact Ab func46;exact hv _ Ag;rintro v1 h3 d rfl))|(apply BL;(iterate 3 exact F))));all_goals(congr 1;rw[Lj,Fb,decide_eq_true_eq])
def Vw {h:U}(x y :{p:DC // Fq h p}):Go.Proofs.ltOf (λ(x y :{p:DC // Fq h p})=>BJ x.1.num y.1.num) x y=decide (x.1.num<y.1.num):=by unfold Go.Proofs.ltOf;rw[decide_eq_decide];exact UY
def Asm {h:U}:Go.Sort.SWO (Go.Proofs.ltOf λ(x y :{p:DC // Fq h p})=>BJ x.1.num y.1.num) where
 irrefl x:=by rw[Vw,decide_eq_false_iff_not];omega
 trans x y z h1 h2:=by rw[Vw,decide_eq_true_eq]at *;omega
 ntrans x y z h1 h2:=by rw[Vw,decide_eq_false_iff_not]at *;omega
theorem nB {α:Type}{P:α→Prop}(e:α→Ao):∀(l:List {x:α // P x}),l.flatMap (λa=>e a.1)=(l.map (·.1)).flatMap e
 |[]=>rfl
 |x::r=>by rw[CW,Eb,Eb,nB e r]
theorem Aiq (h:U)(v:Value)(xs:EI)(n:Nat)(hn:n≤1000000)(hx:xs.length=n)(hg:∀p∈xs,Fq h p) :
  AP prog 334 #[v,.func (.func 301) #[] #[]] [Ar 246 1 v n (xs.flatMap HI)] h λu Es _=>u=.tuple #[]∧∃ys:EI,ys.Perm xs∧(ys.Pairwise λx y=>x.num≤y.num)∧Es=[Ar 246 1 v n (ys.flatMap HI)]:=by
 have q:∀(p:At) (g:Nat) (w:World),Calls prog 334 #[.slice p 0 g,.func (.func 301) #[] #[]] w λe i=>e=.returned (.tuple #[])∧i=w:=λp g w=>Go.Proofs.AnyF.slices_SortFunc_none {Go.Proofs.Tryz.sortFiles with} p g _ w
 cases xs with
 |nil=>
   simp only[Jw]at hx
   subst hx
   unfold AP
   intro w X0 ae ⟨s,ag,af,k⟩
   have m:=Bq.start (w:=w) (X0:=X0) (h0:=h) ae ⟨s,ag,af,k⟩
   obtain⟨D,z⟩:=m.get (La _)
   obtain⟨A,c,ah⟩:=Sc z
   subst ah
   refine(q A c w).mono ?_
   rintro ai i ⟨rfl,rfl⟩
   exact⟨_,rfl,_,h,⟨rfl,[],.refl _,An,rfl⟩,m⟩
 |cons x r=>
   have ad:=hg x DX
   haveI:Inhabited {p:DC // Fq h p}:=⟨⟨x,ad⟩⟩
   have t:∀(blk off g:Nat) (d:Array {p:DC // Fq h p}) (w:World),Go.Proofs.CmpLays1 prog 301 #[] (λa :{p:DC // Fq h p}=>Hx a.1) (λx y=>BJ x.1.num y.1.num) blk off d.size w→Go.Sort.Holds (λa :{p:DC // Fq h p}=>Hx a.1) w blk off d→blk<w.heap.size→d.size<4611686018427387904→
    Calls prog 334 #[.slice (some ⟨blk,off,none⟩) d.size g,.func (.func 301) #[] #[]] w λe i=>e=.returned (.tuple #[])∧∃j n os,Go.Sort.PermIn 0 d.size d j∧Go.Sort.SortedIn (Go.Proofs.ltOf λ(x y :{p:DC // Fq h p})=>BJ x.1.num y.1.num) 0 d.size j∧i=Go.Proofs.sortWorld (λa :{p:DC // Fq h p}=>Hx a.1) w blk off n j os:=λblk off g d w hc aa k hs=>
    Go.Proofs.Any.slices_SortFunc Go.Proofs.Tryz.sortFiles (λa :{p:DC // Fq h p}=>Hx a.1) (λ_=>rfl) (λx y=>BJ x.1.num y.1.num) Asm 301 #[] blk off g d w (Go.Proofs.enters_of Go.Proofs.Tryz.func301 GH rfl) hc aa k hs
   have ac:∀x y :{p:DC // Fq h p},Az prog 301 (#[Hx x.1,Hx y.1]++#[]) h λu _=>u=O (BJ x.1.num y.1.num):=λx y=>by
    rw[YV]
    exact ZQ (mC h x.1 y.1 x.2 y.2)
   have key:=Aiv (α:={p:DC // Fq h p}) (P:=prog) (f:=334) (gf:=301) (cb:=#[]) (λa=>Hx a.1) (λx y=>BJ x.1.num y.1.num) h t q ac 246 v ((x::r).attachWith (Fq h) hg) n J (by rw[Ay0];exact hx)
   have o:∀l:List {p:DC // Fq h p},(l.flatMap λa=>[Hx a.1])=(l.map (·.1)).flatMap HI:=λl=>nB HI l
   rw[o,Wx]at key
   refine key.mono ?_
   rintro u Es h' aj ⟨rfl,ys,hp,hso,rfl⟩
   refine⟨rfl,ys.map (·.1),?_,?_,by rw[o]⟩
   · rw[←Wx (x::r) hg];exact hp.map _
   · refine Og.2 (hso.imp λ{a b} ab=>?_)
     rw[Vw,decide_eq_false_iff_not]at ab
     omega
theorem As0 (h:U)(A:At)(n c:Nat)(l:EI)(hx:Ai HI 1 h A n l)(hn:n≤1000000):AP prog 333 #[.slice A n c] [] h λu Es _=>Es=[Ar 246 1 u n (l.flatMap HI)]:=by
 refine Cx func333 λ_ _=>?_;have e:=hx.len;refine FN 246 1 ?_;cases A with
 |none=>
  have b:n=0:=by
   rcases Of n with q|q;{exact q};{have:=hx.addrD q;cases this}
  have a:l=[]:=Fu J;subst b;subst a;(repeat'(first|refine Aa ?_|(refine Y ?_ ?_<;>intro hc<;>try omega)|fail));{exact DD rfl rfl rfl (FH _) rfl};{exfalso;simp at hc}
 |some d=>
  (repeat'(first|refine Aa ?_|(refine Ac ?_;first|(refine Gi ?_;intro bo)|(apply CE (enc:=HI) (xs:=[]) (ys:=l);(iterate 7 exact F);exact hx;exactλ_=>rfl;exactλx=>En rfl;intro v1;exact Bp;omega;exact F;intro A3 c3))|(refine Y ?_ ?_<;>intro hc<;>try omega)|fail))
  all_goals
   rw[FE,Dy]
   exact DD rfl rfl rfl (.cons_cons _ (Hi _)) rfl
def Axl (h:U)(a:Nat)(i:Au h (Av a) [.func (.func 301) #[] #[]])(v:Value)(ys:EI)(n:Nat)(hn:n≤1000000)(t:ys.length=n)(hg:∀p∈ys,Fq h p)(hs:ys.Pairwise λx y=>x.num<y.num) :
  AP prog 335 #[v,.func (.func 336) #[] #[AD a]] [Ar 246 1 v n (ys.flatMap HI)] h λu Es _=>Es=[Ar 246 1 u n (ys.flatMap HI)]:=by
 refine Cx func335 λ_ _=>?_
 by_cases h2:n<2
 · refine Tj Bc ?_
   intro q c0 d
   subst d
   repeat'(first|refine Aa ?_|(refine Y ?_ ?_<;>intro hc<;>try omega)|fail)
   all_goals first
    |omega
    |exact DD rfl rfl rfl (FH _) rfl
 · refine VQ Bc J ?_
   intro b c hnc d
   subst d
   repeat'(first|refine Aa ?_|(refine Y ?_ ?_<;>intro hc<;>try omega)|fail)
   refine Bg (X:=Nat) (λx=>1≤x∧x≤n) (λx=>n-x)
    (λx=>[(5,O x),(0,.slice (some (Av b)) n c),(1,.func (.func 336) #[] #[AD a])])
    (λx=>[Ar 246 1 (.slice (some (Av b)) n c) n (ys.flatMap HI)]) (λx=>h) 1 ⟨J,J⟩ Af Ad rfl ?_
   rintro k ⟨r,s⟩ g
   by_cases w:k<n
   · obtain⟨x,hx⟩:∃x,ys[k]?=some x:=⟨_,Bw J⟩
     obtain⟨y,hy⟩:∃y,ys[k-1]?=some y:=⟨_,Bw J⟩
     have j:=hg x (Oi hx)
     have l:=hg y (Oi hy)
     have o:x.num≠y.num:=by
      rw[Uv]at hs
      have:=hs (k-1) k J J J
      rw[Bw J]at hx hy
      have e1:=Od hx
      have e2:=Od hy
      rw[e1,e2]at this
      omega
     have hv:=Aim h a i x y j l
     rw[decide_eq_false o]at hv
     have h3:=g (k+1) ⟨J,J⟩ J
     repeat'(first|refine Aa ?_|(apply AU (n:=6) 11 [0,1,2,3,4,5,6,7,8,9,99,10];kernel_rfl)|(apply Be;exact Bd;(first|exact MW|exact bQ|(apply LW (off:=0) (enc:=HI) (b:=b) (k:=k) (sz:=1) (n:=n) (c:=c) (xs:=ys) (e:=246);exact F;exact F;exact OK _ _;exactλ_=>rfl;exact hx;exact F)|(apply LW (off:=0) (enc:=HI) (b:=b) (k:=k-1) (sz:=1) (n:=n) (c:=c) (xs:=ys) (e:=246);exact F;exact F;exact OK _ _;exactλ_=>rfl;exact hy;exact F));exact AX)|(refine Bn ?_;first|(apply Hb (f:=336) (fs:=[]) (cs:=[AD a]);exact F;exact F;exact Ab func336;exact hv;refine⟨V.refl _,Ak,?_⟩))|(refine Y ?_ ?_<;>intro hc<;>try omega)|fail)
     all_goals first
      |omega
      |(refine AB Af Ad h3)
   · have m:k=n:=by omega
     subst m
     clear g
     repeat'(first|refine Aa ?_|(refine Y ?_ ?_<;>intro hc<;>try omega)|fail)
     all_goals exact DD rfl rfl rfl (FH _) rfl
attribute [local irreducible] Lh
def yN {C:Bu}{l:AW}{Es Es':Am}{h:U}{o:Oper}{G:Value→Am→U→Prop}{α:Type}{enc:α→Ao}{e sz:Nat}{v:Value}{n:Nat}{xs:List α}(f:∀x,(enc x).length=sz)(hn:xs.length=n)(hT:C' Es (Ar e sz v n (xs.flatMap enc)) Es')
  (g:∀A c h',V h h'→v=.slice A n c→n≤c→Ai enc sz h' A n xs→Cd C l Es' h' o G):Cd C l Es h o G:=λa w hs hp=>by
 obtain⟨D,h',i,d,j⟩:=hp.release hT
 obtain⟨A,c,e1,e2,b⟩:=QS f hn d
 exact g A c h' i e1 e2 b a w hs j
def Awp {C:Bu}{l:AW}{Es Es':Am}{h:U}{G:Value→Am→U→Prop}{ty:TypeId}{pos:String}{aft:Cw}{gd:Cq}{t e:TypeId}{x y:Operand}{b n j:Nat}{v:Value}{cs cs':Ao}{T:Ay}
  (hT:AM t C.ts=some T) (hx:AJ l x=some (.pointer (some ((((Av b):Addr).add n).add (j*1))))) (hy:AJ l y=some v) (a:Ei Es (Ap b e cs) (Ap b e cs') Es') (hp:BX v=[v]) (hn:n+j<cs.length) (hc:cs'=cs.set (n+j) v)
  (c:T.size=1) (h1:Ly [v]=true) (g:G undef Es' h):Cd C l Es h ⟨none,.store t x y,ty,pos,aft,gd⟩ G:=
 Mm (off:=n+j) (cs':=cs') hT (by rw[hx,Mp,GC,Dy,Gy]) hy a (by rw[hp,gH _ _ _ hn,hc]) (by rw[hp,c];rfl) (by rw[hp];exact h1) g
def Aar {ys:EI}(hs:ys.Pairwise λx y=>x.num≤y.num)(hn:(ys.map (·.num)).Nodup):ys.Pairwise λx y=>x.num<y.num:=by have h2:ys.Pairwise λx y=>x.num≠y.num:=Og.1 hn;exact(hs.and h2).imp λ{a b} q=>by have:=q.1;have:=q.2;omega
def Aik (h:U)(A:At)(n c:Nat)(l:EI)(hx:Ai HI 1 h A n l)(hn:n≤1000000)(hg:∀p∈l,Fq h p)(f:(l.map (·.num)).Nodup):AP prog 300 #[.slice A n c,.func (.func 301) #[] #[]] [] h λu Es h'=>∃(A':At) (c':Nat) (ys:EI),u=.slice A' n c'∧ys.Perm l∧(ys.Pairwise λx y=>x.num<y.num)∧Es=[Ar 246 1 (.slice A' n c') n (ys.flatMap HI)]:=by
 refine Cx func300 λ_ _=>?_;have e:=hx.len;(repeat'(first|refine Aa ?_|(refine Aj ?_;intro b)|(refine Ac ?_;first|(apply Ed;exact F;exact Ab func333;exact As0 _ A n c l (hx.le Ag) hn;exact Ad;rintro t j d q rfl)|(apply Ed;exact F;exact Ab func334;exact Aiq _ _ l n hn e (λp hp=>(hg p hp).le Ag);exact Ad;rintro vs m hs9 s ⟨rfl,ys,a,hso,rfl⟩)|(refine Gt Bh ?_;intro h1 r d;apply Ed;exact F;exact Ab func335;exact Axl h1 _ d _ ys n hn (by rw[a.length_eq,e]) (λp hp=>(hg p (a.mem_iff.1 hp)).le Ag) (Aar hso ((a.map (·.num)).nodup_iff.2 f));exact Ad;rintro v k o hlk rfl))|fail))
 all_goals
  refine Tj Bc ?_
  intro g c0 i
  subst i
  exact DD rfl rfl rfl (.cons_cons _ (Hi _)) ⟨g,c0,ys,rfl,a,Aar hso ((a.map (·.num)).nodup_iff.2 f),rfl⟩
def Ail (h:U)(hG:DG h)(A:At)(n c:Nat)(l:AN)(hx:Ai BM 82 h A n l)(hn:n≤1000000)(hg:∀p∈l,DU h p):AP prog 299 #[.slice A n c,.func (.func 46) #[] #[]] [] h λu Es h'=>∃A' e zs,u=.slice A' zs.length e∧Ae zs=BR (Ae l)∧(∀p∈zs,p∈l)∧zs.length≤n∧Es=[Ar 71 82 (.slice A' zs.length e) zs.length (zs.flatMap BM)]:=by
 refine Cx func299 λ_ _=>?_;have d:=hx.len;(repeat'(first|refine Aa ?_|(refine Aj ?_;intro b)|(refine Ac ?_;first|(apply Ed;exact F;exact Ab func329;exact Asx _ A n c l (hx.le Ag) hn;exact Ad;rintro ab q f v rfl)|(apply Ed;exact F;exact Ab func330;exact Aiy _ (hG.le Ag) _ l n hn d (λp hp=>(hg p hp).le Ag);exact Ad;rintro vs s hs9 aa ⟨rfl,ys,a,hso,rfl⟩)|(refine Gt Bh ?_;intro h1 w f;apply Ed;exact F;exact Ab func331;exact Ar9 332 [AD _] (Ab func332) h1 (λh' m x y j k=>Ain h' (hG.le Ag) _ (f.le m) x y j k) _ ys n hn (by rw[a.length_eq,d]) (λp hp=>(hg p (a.mem_iff.1 hp)).le Ag);exact Ad;rintro ac r t hlk rfl))|fail))
 all_goals
  refine Tj Bc ?_
  intro g c0 i
  subst i
  exact DD rfl rfl rfl (.cons_cons _ (Hi _)) ⟨g,c0,Ol ys,rfl,A02 a (λz o=>(hg z o).in_) hso,λp hp=>a.mem_iff.1 ((Azr ys).subset hp),Gj (Azq ys) (by rw[a.length_eq,d];exact BU _),rfl⟩
end Go.Hw