import Derived.Test.YtbmffdagfjepgaaGreatDoorFE
import Derived.Test.YtbmffdagfjepgaaGreatDoorEC
set_option linter.all false
namespace Go.Hw
open Go Go.Lib
def zU {L:Ax}{g:AL}(hg:DL g){r:Cu}{d:Int}(h:Fx (BR L) g=(r,d,true)):FA L g=SG g r d:=by unfold FA;rw[if_pos hg,h];rfl
def Acm {L:Ax}{g:AL}(hg:DL g)(h:(Fx (BR L) g).2.2=false):FA L g=Mf L g:=by unfold FA;rw[if_pos hg,h];rfl
open Classical in
theorem A1i (L:Ax)(s c:Int)(hs a:AC){i k:Nat}(hi:i<hs.length)(b:k<a.length) :
  QD L s c hs a=(QD L s c (hs.take i) a++Pz L s c (hs.getD i 0) (a.take k))++((if Zs L s c (hs.getD i 0) (a.getD k 0)then[⟨s,c,hs.getD i 0,a.getD k 0⟩]else[])++(Pz L s c (hs.getD i 0) (a.drop (k+1))++QD L s c (hs.drop (i+1)) a)):=by
 have e1:hs=hs.take i++(hs.getD i 0::hs.drop (i+1)):=by
  conv=>lhs;rw[←GW i hs,LG hi]
  rw[Dr,Bw hi,IQ]
 have e2:a=a.take k++(a.getD k 0::a.drop (k+1)):=by
  conv=>lhs;rw[←GW k a,LG b]
  rw[Dr,Bw b,IQ]
 have d:∀h,Pz L s c h a=Pz L s c h (a.take k)++((if Zs L s c h (a.getD k 0)then[⟨s,c,h,a.getD k 0⟩]else[])++Pz L s c h (a.drop (k+1))):=λh=>by
  conv=>lhs;rw[e2]
  unfold Pz
  rw[Ep,Eb]
 conv=>lhs;rw[e1]
 have e:QD L s c (hs.take i++(hs.getD i 0::hs.drop (i+1))) a=QD L s c (hs.take i) a++(Pz L s c (hs.getD i 0) a++QD L s c (hs.drop (i+1)) a):=by
  unfold QD
  rw[Ep,Eb]
 rw[e,d]
 simp only[Ck]
open Go
def Amt (s c:Int)(o:CY)(f:Al):∃r,Oz s c o f=o++r:=by unfold Oz;split;{exact⟨_,rfl⟩};{exact⟨[],(DR _).symm⟩}
def Amu (A a:Ax)(s c:Int):∃r,Fh (A++a) s c=Fh A s c++r:=by unfold Fh;rw[GL];generalize A.foldl (Oz s c) []=o;induction a generalizing o with|nil=>exact⟨[],(DR _).symm⟩|cons f r b=>rw[Nf];obtain⟨d,e1⟩:=Amt s c o f;obtain⟨r2,e2⟩:=b (Oz s c o f);exact⟨d++r2,by rw[e2,e1,Ck]⟩
def LQ (o:CY):List (AL×Bool):=o.map λg=>(g,true)
theorem Aao (g:AL):∀o:CY,(Co g (LQ o)).getD false=decide (g∈o)
 |[]=>by simp[LQ,Co]
 |x::r=>by have a:=Aao g r;unfold LQ at a ⊢;rw[CW];unfold Co;by_cases h:x=g;{rw[if_pos h];subst h;simp};{rw[if_neg h,a];rw[decide_eq_decide,Bx];exact⟨.inr,λw=>w.resolve_left (λe=>h e.symm)⟩}
theorem uZ {g:AL}:∀{o:CY},g∉o→Dk g true (LQ o)=LQ (o++[g])
 |[],_=>rfl
 |x::r,h=>by have a:=uZ (g:=g) (o:=r) (λw=>h (Ey _ w));unfold LQ at a ⊢;rw[FW,CW,CW];unfold Dk;rw[if_neg (λe=>h (by rw[←e];exact DX)),a]
open Classical in
theorem Aqk (L:Ax)(s c:Int)(f:Al):MK (L++[f]) s c=if Qt s c f then MK L s c++[f]else MK L s c:=by unfold MK;rw[Gl];by_cases q:Qt s c f<;>simp[q]
open Classical in
theorem Aql (L:Ax)(s c:Int)(f:Al):JN (L++[f]) s c=if Qt s c f then JL (JN L s c) f else JN L s c:=by unfold JN;rw[Aqk];split;{rw[GL];rfl};{rfl}
def xU (l:AN) (o:IF) (z:AA×Al) (ok:Bool):Prop:=(o=none∧z=(CP,BQ)∧ok=false)∨(o=some z.2∧z∈l∧BT z.2∧ok=true)
def zK {f:Al}(h:BT f)(a:f.kind=1):f.eClubs.length≤24∧Ns f.eClubs:=by have:=h.2.2.1;unfold EW at this;rw[if_pos a]at this;exact⟨this.2.2.1.2.1,this.2.2.2.1⟩
end Go.Hw
set_option maxRecDepth 100000
set_option maxHeartbeats 8000000
namespace Go.Hw
open Go
attribute [local irreducible] AI Bz BV Aq AP Az Au CH Ap Ar BG Cm BP Dg El Ek
open Go.Proofs.Tryz
def Azx (h:U)(b n c:Nat)(l:AN)(hn:n≤1000000000)(j:l.length=n)(f:FuncId)(cs:Ao)(p:AA×Al→Bool)(hh:BP prog f)
  (hf:∀x∈l,Aq prog f ([]++[BW x.1 x.2]++cs).toArray h (.bool (p x))) :
  AP prog 215 #[.slice (some (Av b)) n c,.func (.func f) #[] cs.toArray] [Ar 71 82 (.slice (some (Av b)) n c) n (l.flatMap BM)] h (λu Es _=>u=O (FO p l 0)∧Es=[Ar 71 82 (.slice (some (Av b)) n c) n (l.flatMap BM)]):=by
 refine Cx func215 λ_ _=>?_
 repeat'(first|refine Aa ?_|fail)
 refine Bg (X:=Nat) (λk=>k≤n∧FO p (l.drop k) k=FO p l 0) (λk=>n-k) (λk=>[(8,O k),(7,O n),(0,.slice (some (Av b)) n c),(1,.func (.func f) #[] cs.toArray)]) (λ_=>[Ar 71 82 (.slice (some (Av b)) n c) n (l.flatMap BM)]) (λ_=>h) 0 ⟨J,rfl⟩ Af Ad rfl ?_
 rintro k ⟨o,a⟩ g
 by_cases i:k<n
 · have d:=ZX AS j i
   have hv:=hf _ (Tm AS (show k<l.length by omega))
   have hx:l[k]?=some (l.getD k AS):=by rw[Dr,Bw J];rfl
   generalize l.getD k AS=x at *
   by_cases hp:p x=true
   · rw[hp]at hv
     have e:FO p l 0=k:=by rw[←a,d,FO,if_pos hp]
     rw[e]
     repeat'(first|refine Aa ?_|refine Z MW ?_|refine Z sO ?_|(refine Ac ?_;first|(refine WX ?_))|(refine Y ?_ ?_<;>intro hc<;>try omega)|fail)
     all_goals first
      |omega
      |(exact DD rfl rfl rfl (FH _) ⟨rfl,rfl⟩)
   · have m:p x=false:=by simpa using hp
     rw[m]at hv
     have h3:=g (k+1) ⟨J,by rw[←a,d,FO,if_neg hp]⟩ J
     repeat'(first|refine Aa ?_|refine Z MW ?_|refine Z sO ?_|(refine Ac ?_;first|(refine WX ?_))|(refine Y ?_ ?_<;>intro hc<;>try omega)|fail)
     all_goals first
      |omega
      |(refine AB Af Ad h3)
 · rw[show k=l.length by omega,Ok]at a
   have e:FO p l 0 = -1:=a.symm
   rw[e]
   clear g
   repeat'(first|refine Aa ?_|(refine Y ?_ ?_<;>intro hc<;>try omega)|fail)
   all_goals first
    |omega
    |(exact DD rfl rfl rfl (FH _) ⟨rfl,rfl⟩)
theorem uO {α:Type}(p:α→Bool):∀(l:List α) (k j:Nat),FO p l k=((k+j:Nat):Int)→l.take j=(l.take j).filter (λx=> !p x)∧j<l.length∧(l.take (j+1)).filter (λx=> !p x)=l.take j
 |[],k,j,h=>by unfold FO at h;omega
 |y::r,k,j,h=>by unfold FO at h;by_cases hy:p y=true;{rw[if_pos hy]at h;(have:j=0:=by omega);subst this;simp[hy]};{rw[if_neg hy]at h;(have hf:p y=false:=by simpa using hy);cases j with|zero=>(exfalso;rcases Se p r (k+1)with⟨e1,_⟩|⟨j,x,_,e2,_⟩;{omega};{omega})|succ j=>obtain⟨h1,h2,h3⟩:=uO p r (k+1) j (by rw[h];congr 1;omega);refine⟨?_,FC,?_⟩;{rw[Ut,Ky,hf];simp only[hE,if_true];rw[←h1]};{rw[Ut,Ky,hf];simp only[hE,if_true];rw[h3,Ut]}}
def Ao2 {α:Type}(p:α→Bool)(l:List α)(h:FO p l 0 = -1):l.filter (λx=> !p x)=l:=by rcases Se p l 0 with⟨_,e⟩|⟨j,x,_,e,_⟩;{rw[xN];intro x hx;have:=List.find?_eq_none.1 e x hx;simpa using this};{omega}
def Arh (h:U)(v:Value)(n:Nat)(l:AN)(hn:n≤1000000)(e:l.length=n)(f:FuncId)(cs:Ao)(p:AA×Al→Bool)(hh:BP prog f)
  (hf:∀h',V h h'→∀x∈l,Aq prog f ([]++[BW x.1 x.2]++cs).toArray h' (.bool (p x))) :
  AP prog 152 #[v,.func (.func f) #[] cs.toArray] [Ar 71 82 v n (l.flatMap BM)] h (fun u Es _=>∃A' af,u=.slice A' (l.filter fun x=> !p x).length af∧Es=[Ar 71 82 (.slice A' (l.filter fun x=> !p x).length af) (l.filter fun x=> !p x).length ((l.filter fun x=> !p x).flatMap BM)]):=by
 refine Cx func152 fun _ _=>?_
 by_cases h0:0<n
 · refine VQ Bc h0 ?_
   intro bo c hnc w
   subst w
   have a:=Azx h bo n c l J e f cs p hh (hf h (V.refl h))
   rcases Se p l 0 with⟨e1,e2⟩|⟨j,y,e1,e2,av,aw⟩
   · rw[e1]at a
     rw[Ao2 p l e1]
     repeat'(first|refine Aa ?_|(refine Ac ?_;first|(apply Ed;exact F;exact Ab func215;exact a;exact Ad;rintro ai aj aa ab ⟨rfl,rfl⟩))|(refine Y ?_ ?_<;>intro hc<;>try omega)|fail)
     all_goals first
      |(exfalso;omega)
      |(exact DD rfl rfl rfl (FH _) ⟨some (Av bo),c,by rw[e],by rw[e];rfl⟩)
   · rw[Dy]at e2
     rw[e2]at a
     obtain⟨ay,az,au⟩:=uO p l 0 j (by rw[Dy];exact e2)
     repeat'(first|refine Aa ?_|(refine Ac ?_;first|(apply Ed;exact F;exact Ab func215;exact a;exact Ad;rintro ai aj aa ab ⟨rfl,rfl⟩))|(refine Y ?_ ?_<;>intro hc<;>try omega)|fail)
     all_goals(try(exfalso;omega))
     refine Bg (X:=Nat×Nat×AN×U) (fun x=>x.1<x.2.1∧x.2.1≤n∧x.2.2.1.length=n∧V h x.2.2.2∧x.2.2.1.take x.1=(l.take x.2.1).filter (fun x=> !p x)∧(∀t,x.2.1≤t→x.2.2.1[t]?=l[t]?)) (fun x=>n-x.2.1)
      (fun x=>[(6,O x.2.1),(5,O x.1),(0,.slice (some (Av bo)) n c),(1,.func (.func f) #[] cs.toArray)])
      (fun x=>[Ar 71 82 (.slice (some (Av bo)) n c) n (x.2.2.1.flatMap BM)]) (fun x=>x.2.2.2) (j,j+1,l,aa) ⟨Ah,Ah,e,ab,au.symm,fun t _=>rfl⟩ Af Ad rfl ?_
     rintro⟨i,k,zs,ad⟩ ⟨aq,ar,q,r,g,s⟩ o
     dsimp only at aq ar q r g s o ⊢
     by_cases ax:k<n
     · obtain⟨x,hx⟩:∃x,l[k]?=some x:=⟨_,Bw J⟩
       have hzx:zs[k]?=some x:=by rw[s _ (BU _)];exact hx
       have hv:=hf ad r x (Oi hx)
       have ag:l.take (k+1)=l.take k++[x]:=by rw[LF,hx];rfl
       by_cases hp:p x=true
       · rw[hp]at hv
         have d:=o (i,k+1,zs,ad) ⟨Ah,Ah,q,r,by dsimp only;rw[ag,Gl,g];simp[hp],fun t ac=>s t (by dsimp only at ac;omega)⟩ Ah
         dsimp only at d
         repeat'(first|refine AH ?_|refine Z MW ?_|refine Z sQ ?_|(refine Aj ?_;intro b)|(refine Ac ?_;first|(refine WX ?_))|(refine Y ?_ ?_<;>intro hc<;>try omega)|fail)
         all_goals first
          |(exfalso;omega)
          |(refine AB Af Ad d)
       · have ah:p x=false:=by simpa using hp
         rw[ah]at hv
         have ap:(zs.set i x).take (i+1)=zs.take i++[x]:=by
          rw[LF,eL J,List.take_set_of_le (BU _)];rfl
         have d:=o (i+1,k+1,zs.set i x,ad) ⟨Ah,Ah,by dsimp only;rw[Mi];exact q,r,by dsimp only;rw[ap,ag,Gl,g];simp[ah],fun t ac=>by
          dsimp only at ac ⊢
          rw[xJ J];exact s t J⟩ Ah
         dsimp only at d
         repeat'(first|refine AH ?_|(refine Z (by first|exact MW|(apply MM (j:=i);(iterate 5 exact F);(with_reducible exact F);omega)) ?_)|refine Z sQ ?_|(refine Aj ?_;intro b)|(refine Ac ?_;first|(refine WX ?_)|(apply uJ (b:=bo) (enc:=BM) (sz:=82) (k:=i) (z:=x) (xs:=zs);exact F;exact F;exact OK _ _;exact F;exact Gv;exact F;exact Bp;omega;exact F;exact F))|(refine Y ?_ ?_<;>intro hc<;>try omega)|fail)
         all_goals first
          |(exfalso;omega)
          |(refine AB Af Ad d)
     · have al:k=n:=by omega
       subst al
       clear o
       rw[By (l:=l) J]at g
       rw[←g]
       have am:(zs.take i).length=i:=by rw[CF];omega
       rw[am]
       repeat'(first|refine Aa ?_|(refine Z (by apply Ml (lo:=i);(iterate 5 exact F);(with_reducible exact F);omega) ?_)|(refine Y ?_ ?_<;>intro hc<;>try omega)|fail)
       all_goals(try(exfalso;omega))
       rw[ZK (show i<c by omega)]
       repeat'(first|refine Aa ?_|(refine Z (by apply PA (hi:=i);(iterate 5 exact F);(with_reducible exact F);omega;exact hnc) ?_)|(refine Ac ?_;first|(apply Adx (enc:=BM) (b:=bo) (k:=i) (m:=k-i) (n:=k) (c:=c) (xs:=zs);(iterate 3 exact F);exact Cf _ _;(iterate 4 exact F);exact Gv;omega;omega;exact q;exact Bp))|fail)
       rw[Acu]
       exact DD rfl rfl rfl (FH _) ⟨some (Av bo),c,rfl,rfl⟩
 · have ao:n=0:=by omega
   subst ao
   have an:l=[]:=Fu e
   subst an
   refine Tj Bc ?_
   intro ae c0 w
   subst w
   have a:=ZQ (bL h ae 0 c0 [] Ai.nil J f [] cs p hh An)
   have ak:FO p ([]:AN) 0 = -1:=rfl
   rw[ak]at a
   repeat'(first|refine Aa ?_|(refine Ac ?_;first|(apply AR;exact F;exact Ab func215;exact a;rintro ai aa ab rfl))|(refine Y ?_ ?_<;>intro hc<;>try omega)|fail)
   all_goals first
    |(exfalso;omega)
    |(exact DD rfl rfl rfl (FH _) ⟨ae,c0,rfl,rfl⟩)
attribute [local irreducible] KT FB
def Am2 (h:U)(hG:DG h)(A:At)(n c:Nat)(l:AN)(hx:Ai BM 82 h A n l)(hn:n≤1000000)(hg:∀p∈l,DU h p)(h0:0<n):Az prog 155 #[.slice A n c,.func (.func 46) #[] #[]] h (λu _=>∃m,u=BW m.1 m.2∧m∈l∧FB (Ae l)=some m.2):=by
 refine BB func155 λ_ _=>?_;have t:=hx.len;have a0:=hx.addrD h0;have c0:=hx.cellsD AS h0;have ab:=Ce AS (show 0<l.length by omega);have r:=BY AS t h0;rw[Ia,FE]at r;generalize l.getD 0 AS=p at *;(have w:FB (Ae (l.take 1))=some p.2:=by rw[r];unfold FB;rfl);(repeat'(first|refine AH ?_|(refine Z (by apply BA;exact F;exact BH rfl c0 rfl) ?_)|(refine Z (by apply Cs;(iterate 5 exact F);assumption;exact F;first|assumption|omega) ?_)|(refine Aj ?_;intro b)|(refine Y ?_ ?_<;>intro hc<;>try omega)|fail));(all_goals try omega);rename_i j;generalize b=o;refine Bg (X:=Nat×(AA×Al)×U) (λx=>1≤x.1∧x.1≤n∧V h x.2.2∧x.2.1∈l∧FB (Ae (l.take x.1))=some x.2.1.2) (λx=>n-x.1) (λx=>[(6,O x.1),(0,.slice A n c),(1,.func (.func 46) #[] #[]),(4,Dt j),(5,Dt o)]) (λx=>[Ap o 71 (CS x.2.1.1 x.2.1.2),Ap j 71 (CS CP BQ)]) (λx=>x.2.2) (1,p,h) ⟨Ah,Ah,V.refl _,ab,w⟩ Af Ad rfl ?_;rintro⟨k,m,hh⟩ ⟨aa,z,a,hm,e⟩ f;dsimp only at aa z a hm e f ⊢;by_cases g:k<n
 ·have a1:=hx.addrD g;have c1:=(hx.cellsD AS g).le a;have y:=BY AS t g;have v:=Ce AS (show k<l.length by omega);generalize l.getD k AS=q at *;have hcm:=λh' (i:V hh h')=>ZF h' (hG.le (a.trans i)) q m ((hg q v).le (a.trans i)) ((hg m hm).le (a.trans i));(have hsn:FB (Ae (l.take (k+1)))=if 0<CO q.2 m.2 then some q.2 else some m.2:=by{rw[y];(have:Ae (l.take k++[q])=Ae (l.take k)++[q.2]:=by simp[Ae]);rw[this,TH,e]});by_cases s:0<CO q.2 m.2
  ·rw[if_pos s]at hsn;(repeat'(first|refine AH ?_|refine Z Bf ?_|refine Z Pb ?_|(apply AU (n:=7) 8 [0,1,2,3,4,5,99,6,99,7];kernel_rfl)|(apply Be;exact Bd;(first|exact Bf|exact Pb);exact AX)|(refine Bn ?_;first|(refine tA ?_;rintro ac h3 d rfl;refine⟨d,Ak,?_⟩))|(refine Y ?_ ?_<;>intro hc<;>try omega)|fail))
   all_goals first
    |omega
    |(
       have h3:=f (k+1,q,h3) ⟨Ah,Ah,a.trans d,v,hsn⟩ Ah
       dsimp only at h3
       refine AB Af Ad h3)
  ·rw[if_neg s]at hsn;(repeat'(first|refine Aa ?_|(apply AU (n:=7) 8 [0,1,2,3,4,5,99,6,99,7];kernel_rfl)|(apply Be;exact Bd;(first|exact Bf|exact Pb);exact AX)|(refine Bn ?_;first|(refine tA ?_;rintro ac h3 d rfl;refine⟨d,Ak,?_⟩))|(refine Y ?_ ?_<;>intro hc<;>try omega)|fail))
   all_goals first
    |omega
    |(
       have h3:=f (k+1,m,h3) ⟨Ah,Ah,a.trans d,hm,hsn⟩ Ah
       dsimp only at h3
       refine AB Af Ad h3)
 ·rw[By J]at e;clear f;(repeat'(first|refine AH ?_|(refine Y ?_ ?_<;>intro hc<;>try omega)|fail))
  all_goals first
   |omega
   |(exact Gr rfl rfl rfl Bc rfl rfl ⟨m,rfl,hm,e⟩)
def Al9 (h:U)(b:Nat)(g:AL)(a:Au h (Av b) (CG g))(p:AA×Al):Aq prog 154 #[BW p.1 p.2,AD b] h (.bool (!decide (Hk g p.2.ru))):=by
 refine AK func154 λ_ _=>?_;by_cases hg:p.2.ru.g=g
 ·(have e:(!decide (Hk g p.2.ru)) = !decide (p.2.ru.kind=1∨p.2.ru.kind=2∨p.2.ru.kind=3):=by unfold Hk;simp[hg]);rw[e];have hge:=MZ p.2.ru.g g;rw[decide_eq_true hg]at hge;(repeat'(first|refine Aa ?_|(refine Z (by apply YE;exact F;exact F;exact hge;kernel_rfl;kernel_rfl) ?_)|refine Z Cb ?_|(refine Aj ?_;intro b)|refine AF ?_|(refine AG ?_ ?_<;>intro hc<;>try omega)|refine Bm ?_|fail))
  all_goals first
   |((try simp only[FP]);congr 1;rw[Lj];simp;omega)
 ·(have e:(!decide (Hk g p.2.ru))=true:=by unfold Hk;simp[hg]);rw[e];have hge:=MZ p.2.ru.g g;rw[decide_eq_false hg]at hge;(repeat'(first|refine Aa ?_|(refine Z (by apply YE;exact F;exact F;exact hge;kernel_rfl;kernel_rfl) ?_)|refine Z Cb ?_|(refine Aj ?_;intro b)|refine Bm ?_|fail))
  all_goals first
   |rfl
   |(exfalso;simp at hc;done)
def Auk {l:AN}{C:Ax}(hf:Ae l=Ek C)(g:AL):Ae (l.filter λx=> !(!decide (Hk g x.2.ru)))=KT C g:=by unfold KT;rw[←hf];unfold Ae;rw[Sq];congr 1;refine eP λp _=>?_;rw[Bool.not_not];rfl
def Aww (h:U)(hG:DG h)(A:At)(n c:Nat)(l:AN)(hx:Cz h A n l)(g:AL):Az prog 95 #[.slice A n c,Di g] h (λu _=>u=.tuple #[.agg (DH (Fx (BR (Ae l)) g).1).toArray,O (Fx (BR (Ae l)) g).2.1,.bool (Fx (BR (Ae l)) g).2.2]):=by refine BB func95 λ_ _=>?_;obtain⟨C,s⟩:∃C,C=BR (Ae l):=⟨_,rfl⟩;have f:=λh' (a:V h h')=>yX h' (hG.le a) A n c l (hx.le a);rw[←s]at f ⊢;(repeat'(first|refine AH ?_|(refine Aj ?_;intro b)|(refine Ac ?_;first|(refine Gt (e:=36) Bh ?_;intro h1 ad t;apply Ed;exact F;exact Ab func153;exact f _ Ag;exact Ad;rintro ak y h2 w ⟨A3,c3,l3,rfl,rfl,v,hf3,j⟩)|(apply Ed;exact F;exact Ab func152;exact Arh _ _ l3.length l3 j rfl 154 [AD _] (λx=> !decide (Hk g x.2.ru)) (Ab func154) (λh' a x _=>Al9 h' _ g (t.le (w.trans a)) x);exact Ad;rintro ai z ab ae ⟨A5,c5,rfl,rfl⟩)|(refine yN (enc:=BM) (e:=71) (sz:=82) (xs:=l3.filter λx=> !(!decide (Hk g x.2.ru))) (n:=_) Gv rfl Bh ?_;intro A6 aa q af o ah hs6;cases o;apply AR;exact F;exact Ab func155;exact Am2 q (hG.le Ag) _ _ _ _ hs6 (Gj (Pn _ _) j) (λp hp=>(v p (DQ.1 hp).1).le Ag) (Nat.pos_of_ne_zero J);rintro aj ac ag ⟨m,rfl,hmm,i⟩))|(apply Da (n:=5) [0,1,4,2,3,5,6] [(0,0),(1,0),(2,0),(3,0),(4,1),(5,0),(6,0)];kernel_rfl)|(refine Y ?_ ?_<;>intro hc<;>try omega)|fail));(all_goals(have k:=Auk hf3 g));{(have r:KT C g=[]:=by{rw[←k];have:(l3.filter λx=> !(!decide (Hk g x.2.ru)))=[]:=Fu J;rw[this];rfl});(have d:Fx C g=(DB,0,false):=by unfold Fx;rw[r];unfold FB;rfl);rw[d];exact Ty rfl rfl rfl Bc rfl rfl rfl rfl rfl};{rw[k]at i;(have d:Fx C g=(m.2.ru,m.2.day,true):=by unfold Fx;rw[i]);rw[d];exact Ty rfl rfl rfl Bc rfl rfl rfl rfl rfl}
end Go.Hw
namespace Go.Hw
open Go
attribute [local irreducible] AI Bz BV Aq AP Az Au CH Ap Ar BG Cm BP Dg El Ek
open Go.Proofs.Tryz (prog)
end Go.Hw