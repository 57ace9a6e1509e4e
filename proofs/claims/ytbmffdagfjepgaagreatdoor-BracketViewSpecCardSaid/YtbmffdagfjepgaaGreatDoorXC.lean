import Derived.Test.YtbmffdagfjepgaaGreatDoorXA
set_option linter.all false
set_option maxRecDepth 100000
set_option maxHeartbeats 8000000
namespace Go.Hw
open Go
attribute [local irreducible] AI Bz BV Aq AP Az Au CH Ap Ar BG Cm BP Dg El Ek Fl Ex EV Hj Gc Ft GB GP
open Go.Proofs.Tryz
def Ao4 (h:U)(A:At)(n c:Nat)(l:Re)(hx:Ai Eg 15 h A n l)(hn:n≤1000000)(f:FuncId)(fs cs:Ao)(p:AA×Dn→Bool)(hh:BP prog f)
  (hf:∀x∈l,Aq prog f (fs++[Value.agg (Eg x).toArray]++cs).toArray h (.bool (p x))) :
  Aq prog 309 #[.slice A n c,.func (.func f) fs.toArray cs.toArray] h (O (Dz p l 0)):=by
 refine AK func309 λ_ _=>?_
 have e:=hx.len
 repeat'(first|refine Aa ?_|fail)
 refine Bg (X:=Nat) (λk=>k≤n∧Dz p (l.drop k) k=Dz p l 0) (λk=>n-k) (λk=>[(8,O k),(7,O n),(0,.slice A n c),(1,.func (.func f) fs.toArray cs.toArray)]) (λ_=>[]) (λ_=>h) 0 ⟨J,rfl⟩ Af Ad rfl ?_
 rintro k ⟨i,a⟩ g
 by_cases b:k<n
 · have a1:=hx.addrD b
   have c1:=hx.cellsD Ee b
   have d:=Lt Ee e b
   have hv:=hf _ (Ce Ee (show k<l.length by omega))
   generalize l.getD k Ee=x at *
   repeat'(first|refine Aa ?_|refine Z Bf ?_|refine Z BN ?_|(refine Ac ?_;first|(refine Qc ?_))|(refine Y ?_ ?_<;>intro hc<;>try omega)|refine Bm ?_|fail)
   · rw[←a,d,Dz,if_pos hc]
   · have h3:=g (k+1) ⟨J,by rw[←a,d,Dz,if_neg NS]⟩ J
     refine AB Af Ad h3
 · repeat'(first|refine Aa ?_|(refine Y ?_ ?_<;>intro hc<;>try omega)|refine Bm ?_|fail)
   rw[←a,show k=l.length by omega,Ok];rfl
def LX (club:Int) (z:Dn):Bool:=decide (z.sh.g.h=club∨z.sh.g.a=club)
def Aie (h:U)(x:AA×Dn)(b1:Nat)(m:Int×Int)(h1:Au h (Av b1) (FX m)):Aq prog 310 #[.agg (Eg x).toArray,AD b1] h (.bool (LX m.2 x.2)):=by refine AK func310 λ_ _=>?_;unfold LX;(repeat'(first|refine Aa ?_|refine Z Cb ?_|(refine Aj ?_;intro b)|refine AF ?_|(refine AG ?_ ?_<;>intro hc<;>try omega)|refine Bm ?_|fail));all_goals(refine Cv ?_;(try rw[Fb]);grind)
def Lu (s:Sh):Ao:=[O s.p,O s.club,O s.g.s,O s.g.c,O s.g.h,O s.g.a]
def Qq (D:Ff) (i:Nat) (ms:He) (m:He):Prop:=∀p,(Co p m).getD 0=if p∈ms.map (·.1)then Ft (D.take (i+1)) p else Ft (D.take i) p
def Ase {D:Ff}{i:Nat}{m:He}(h:∀p,(Co p m).getD 0=Ft (D.take i) p):Qq D i [] m:=λp=>by rw[h p];simp
def Asf {D:Ff}{i:Nat}{ms m:He}{x:Int×Int}{v:Int}(h:Qq D i ms m)(hv:v=Ft (D.take (i+1)) x.1):Qq D i (ms++[x]) (Dk x.1 v m):=λp=>by
 rw[KM,DI]
 have hp:=h p
 by_cases e:x.1=p
 · subst e;rw[if_pos rfl,hv];simp
 · rw[if_neg e,hp]
   simp only[CW,Jv,AO,Bk,KX e,or_false]
def Asg {D:Ff}{i:Nat}{m:He}{x:Dn}(a:D.take (i+1)=D.take i++[x])(b:GZ x.sh)(hm:Iv x.sh (Ex x.sh))(h:Qq D i (Ex x.sh) m)(p:Int):(Co p m).getD 0=Ft (D.take (i+1)) p:=by rw[h p];split;{rfl};{rename_i hp;rw[a,Wv];have h1:p∉x.sh.hs:=λq=>hp (CZ.2 ⟨(p,x.sh.g.h),(hm.2 _).2 (.inl ⟨q,rfl⟩),rfl⟩);have h2:p∉x.sh.asn:=λq=>hp (CZ.2 ⟨(p,x.sh.g.a),(hm.2 _).2 (.inr ⟨q,rfl⟩),rfl⟩);rw[Axg b h1 h2];simp}
def Ash {D:Ff}{i:Nat}{ms r m:He}{x:Int×Int}(hp:(ms++x::r).Pairwise λa b=>a.1<b.1)(h:Qq D i ms m):(Co x.1 m).getD 0=Ft (D.take i) x.1:=by rw[h x.1,if_neg];intro hm;obtain⟨y,hy,e⟩:=CZ.1 hm;have:=(Oh.1 hp).2.2 y hy x DX;omega
def Ao1 {ds:Re}{club:Int}:(Dz (λx=>LX club x.2) ds 0 = -1∧GP (ds.map (·.2)) club=none)∨∃j:Nat,j<ds.length∧Dz (λx=>LX club x.2) ds 0=(j:Int)∧GP (ds.map (·.2)) club=some (ds.getD j Ee).2:=by(have d:∀(l:Re) (k:Nat),(Dz (λx=>LX club x.2) l k = -1∧GP (l.map (·.2)) club=none)∨∃j:Nat,j<l.length∧Dz (λx=>LX club x.2) l k=((k+j:Nat):Int)∧GP (l.map (·.2)) club=some (l.getD j Ee).2:=by{intro l;induction l with|nil=>intro k;exact .inl ⟨rfl,by unfold GP;rfl⟩|cons x r e=>intro k;unfold Dz GP;rw[CW,Ux];show((if LX club x.2=true then(k:Int)else Dz (λx=>LX club x.2) r (k+1)) = -1∧_)∨_;cases a:LX club x.2 with|true=>have b:decide (x.2.sh.g.h=club∨x.2.sh.g.a=club)=true:=a;refine .inr ⟨0,An,by simp[a],?_⟩;rw[b];rfl|false=>have b:decide (x.2.sh.g.h=club∨x.2.sh.g.a=club)=false:=a;rw[b];rcases e (k+1)with⟨e1,e2⟩|⟨j,e1,e2,c⟩;{refine .inl ⟨by simpa using e1,?_⟩;unfold GP at e2;exact e2};{refine .inr ⟨j+1,FC,?_,?_⟩;{simp only[Ir,if_false];rw[e2];congr 1;omega};{unfold GP at c;simpa using c}}});rcases d ds 0 with h|⟨j,h1,h2,h3⟩;{exact .inl h};{exact .inr ⟨j,h1,by rw[h2];congr 1;omega,h3⟩}
def Adb {pre post:Ff}{x:Dn}{m:Int×Int}(h:¬QZ (Ft pre m.1) (GB x.sh m.1).1 (GB x.sh m.1).2):Gc pre post x m=[]:=by unfold Gc;rw[if_neg h]
def nJ {pre post:Ff}{x:Dn}{m:Int×Int}(h:GP post m.2=none):Gc pre post x m=[]:=by unfold Gc;rw[h];split<;>rfl
def mQ {pre post:Ff}{x:Dn}{m:Int×Int}{z:Dn}(a:QZ (Ft pre m.1) (GB x.sh m.1).1 (GB x.sh m.1).2)(h:GP post m.2=some z):Gc pre post x m=[⟨m.1,m.2,z.sh.g⟩]:=by unfold Gc;rw[h,if_pos a]
def Avs {D:Ff}(hm:∀x∈D,GZ x.sh∧Iv x.sh (Ex x.sh)){i:Nat}(hi:i<D.length):(XP D i).length≤80:=by unfold XP;have hx:D.getD i FL∈D:=Ce FL hi;obtain⟨h1,h2⟩:=hm _ hx;exact Gj (nE _ (Azl _ _ _) _) (gF h1 h2)
theorem ZM {D:Ff}(hm:∀x∈D,GZ x.sh∧Iv x.sh (Ex x.sh)):∀{i:Nat},i≤D.length→(Hj D i).length≤80*i
 |0,_=>by unfold Hj;simp
 |i+1,hi=>by rw[aI,Bt];have:=ZM hm (i:=i) J;have:=Avs hm (i:=i) J;omega
def iW (D:Ff):Hj D 0=[]:=by unfold Hj;rfl
def iM (p:Int):Ft [] p=0:=by unfold Ft;rfl
def uU {x:DV}(d:GZ x):Iv x (Ex x):=by obtain⟨ys,hp,hs⟩:∃ys,ys.Perm (ME x)∧ys.Pairwise λa b=>a.1≤b.1:=⟨(ME x).mergeSort λa b=>decide (a.1≤b.1),Yh _ _,(eG (le:=λa b:Int×Int=>decide (a.1≤b.1)) (λa b c h1 h2=>by simp at *;omega) (λa b=>by simp;omega) _).imp λ{a b} q=>by simpa using q⟩;exact(Acw d hp hs).here
def A0c (h:U)(hG:DG h)(A:At)(n c:Nat)(l:AN)(hx:Cz h A n l)(co:n≤65536)(season comp:Int):Az prog 222 #[.slice A n c,O season,O comp] h (λu h'=>∃A' a4,u=.slice A' (EV (Fl (Ae l) season comp)).length a4∧Ai Lu 6 h' A' (EV (Fl (Ae l) season comp)).length (EV (Fl (Ae l) season comp))∧(EV (Fl (Ae l) season comp)).length≤10000000):=by
 refine BB func222 λ_ _=>?_;have bb:=JC hx;have hde:=λh' (aa:V h h')=>Arj h' (hG.le aa) A n c l (hx.le aa) season comp;generalize Ae l=L at *;clear hx;(repeat'(first|refine Aa ?_|(refine Ac ?_;first|(apply AR;exact F;exact Ab func306;exact hde _ Ag;rintro cr h1 cj ⟨A3,c3,ds,rfl,hsl,b0,an,ci,hnc⟩)|(apply Nn Dq Dq;intro bm))|fail));(all_goals try omega);rw[←lZ an];clear hde;obtain⟨D,am⟩:∃D,D=ds.map (·.2):=⟨_,rfl⟩;rw[←am]at an ⊢;(have bw:D.length=ds.length:=by rw[am,Dc]);have bi:∀x∈D,GZ x.sh∧Iv x.sh (Ex x.sh):=λx hx=>⟨(an.ok bb hx).sheet,uU (an.ok bb hx).sheet⟩;have hK:=St;refine FN 258 6 ?_;refine Bg (X:=Nat×Jd×At×Nat×He×U) (λx=>x.1≤ds.length∧V h1 x.2.2.2.2.2∧x.2.1=Hj D x.1∧∀p,(Co p x.2.2.2.2.1).getD 0=Ft (D.take x.1) p) (λx=>ds.length-x.1) (λx=>[(24,O x.1),(23,O ds.length),(22,.slice A3 ds.length c3),(7,.slice A3 ds.length c3),(8,.map (some bm)),(6,.slice x.2.2.1 x.2.1.length x.2.2.2.1)]) (λx=>[Ar 258 6 (.slice x.2.2.1 x.2.1.length x.2.2.2.1) x.2.1.length (x.2.1.flatMap Lu),BG Dq Dq bm x.2.2.2.2.1]) (λx=>x.2.2.2.2.2) (0,[],none,0,[],h1) ⟨Ah,V.refl _,by rw[iW],λp=>by rw[Ia,iM];rfl⟩ Af Ad rfl ?_;rintro⟨i,out,a9,c4,m,hh⟩ ⟨hi,ar,av,hm⟩ az;dsimp only at hi ar av hm az ⊢;have b':=ZM bi (i:=i) J;rw[←av]at b';by_cases ao:i<ds.length
 ·have a1:=hsl.addrD ao;have c1:=(hsl.cellsD Ee ao).le ar;have bk:=hsl.le ar;have bc:=(b0 _ (Ce Ee ao)).le ar;(have bx:D.getD i FL=(ds.getD i Ee).2:=by rw[am];simp[List.getD,Bw ao]);have ak:=BY FL (xs:=D) rfl (show i<D.length by omega);have f:=bi _ (Ce FL (show i<D.length by omega));have ay:Hj D (i+1)=Hj D i++(Ex (D.getD i FL).sh).flatMap (Gc (D.take i) (D.drop (i+1)) (D.getD i FL)):=aI D i;rw[bx]at ak f ay;(have bj:D.drop (i+1)=(ds.drop (i+1)).map (·.2):=by rw[am,eI]);have b4:=bk.low (lo:=i+1) (c:=c3) J hnc;generalize ds.getD i Ee=x at *;obtain⟨s,x⟩:=x;dsimp only at ak f ay bc;have bo:=bc.1;(have b3:x.sh.hc.length≤1000∧x.sh.ac.length≤1000:=by{have h1:=f.1.2.2.2.2.2.2.2.1.1;have h2:=f.1.2.2.2.2.2.2.2.2.1.1;omega});have a6:=f.2.1;have b7:=gF f.1 f.2;(repeat'(first|refine Ba ?_|(apply AE;(iterate 3 exact F);apply Bo (e:=172);exact F;intro cf)|refine BF ?_|refine Z E' ?_|refine Z BN ?_|(refine Ac ?_;first|(apply Ed;exact F;exact Ab func307;exact Ai3 _ s x.sh (bo.le Ag) b3;exact Ad;rintro vs ce h2 ck ⟨ac,a0,rfl,rfl,b6⟩)|(apply AR;exact F;exact Ab func308;exact Amv _ s x.sh (bo.le Ag) f.1;rintro cq h3 cm ⟨A5,c5,rfl,a5,_⟩))|(refine Y ?_ ?_<;>intro hc<;>try omega)|fail));(all_goals try omega);obtain⟨ms,b8⟩:∃ms,ms=Ex x.sh:=⟨_,rfl⟩;have bd:=λq (hq:Qq D i (Ex x.sh) q)=>Asg (m:=q) ak f.1 f.2 hq;rw[←b8]at a5 ay a6 b7 bd ⊢;have bh:V hh h3:=Ag;have bl:=bk.le bh;have b5:=b4.le bh;refine Bg (X:=Nat×Jd×At×Nat×He×U) (λy=>y.1≤ms.length∧V h3 y.2.2.2.2.2∧y.2.1=Hj D i++(ms.take y.1).flatMap (Gc (D.take i) (D.drop (i+1)) x)∧y.2.1.length≤out.length+y.1∧Qq D i (ms.take y.1) y.2.2.2.2.1) (λy=>ms.length-y.1) (λy=>[(36,O y.1),(35,O ms.length),(34,.slice A5 ms.length c5),(11,.map (some ac)),(9,O i),(24,O i),(23,O ds.length),(22,.slice A3 ds.length c3),(7,.slice A3 ds.length c3),(8,.map (some bm)),(6,.slice y.2.2.1 y.2.1.length y.2.2.2.1)]) (λy=>[Ar 258 6 (.slice y.2.2.1 y.2.1.length y.2.2.2.1) y.2.1.length (y.2.1.flatMap Lu),BG Dq Dq bm y.2.2.2.2.1,BG Dq MJ ac a0]) (λy=>y.2.2.2.2.2) (0,out,a9,c4,m,h3) ⟨Ah,V.refl _,by rw[av];simp,Ah,by rw[Ia];exact Ase hm⟩ Af Ad rfl ?_;rintro⟨j,ou,A6,ad,mc,al⟩ ⟨hj,ag,ah,ca,af⟩ a7;dsimp only at hj ag ah ca af a7 ⊢;by_cases hjn:j<ms.length
  ·have a2:=a5.addrD hjn;have c2:=(a5.cellsD HS hjn).le ag;have ba:=BY HS (xs:=ms) rfl hjn;have cb:=WE HS (l:=ms) rfl hjn;rw[cb]at a6;generalize ms.getD j HS=y at *;obtain⟨p,cl⟩:=y;have aw:=b6 p;have ax:=Ash a6 af;have bn:=λv (hv:v=Ft (D.take (i+1)) p)=>Asf (x:=(p,cl)) (v:=v) af hv;have hy:=Wv (D.take i) x p;rw[←ak]at hy;have hb1:=eA (D.take i) p;have b1:=Wk x.sh p;have k:=Adb (pre:=D.take i) (post:=D.drop (i+1)) (x:=x) (m:=(p,cl));have ab:=nJ (pre:=D.take i) (post:=D.drop (i+1)) (x:=x) (m:=(p,cl));have o:=λz=>mQ (pre:=D.take i) (post:=D.drop (i+1)) (x:=x) (m:=(p,cl)) (z:=z);(have be:(ms.take (j+1)).flatMap (Gc (D.take i) (D.drop (i+1)) x)=(ms.take j).flatMap (Gc (D.take i) (D.drop (i+1)) x)++Gc (D.take i) (D.drop (i+1)) x (p,cl):=by rw[ba,Ep];simp);rw[CF]at hb1;dsimp only at ax bn k ab o c2;rw[bj]at k ab o be;generalize GB x.sh p=q at *;generalize Ft (D.take (i+1)) p=cs at *;generalize Ft (D.take i) p=y0 at *;obtain⟨qy,a3⟩:=q;dsimp only at aw b1 k ab o hy;(have aq:(Co p (Dk p (y0+qy) mc)).getD 0=y0+qy:=by rw[KM,if_pos rfl];rfl);have cc:=bn (y0+qy) hy.symm;have t:=λa8 A' a4 h' (aa:V al h') (he:a8=ou++Gc (D.take i) ((ds.drop (i+1)).map (·.2)) x (p,cl)) (aq:a8.length≤ou.length+1)=>a7 (j+1,a8,A',a4,Dk p (y0+qy) mc,h') ⟨Ah,ag.trans aa,by dsimp only;rw[he,ah,bj,be,Ck],Ah,by dsimp only;rw[ba];exact cc⟩ Ah;dsimp only at t;have ap:∀(h':U) (d:Nat),V al h'→Au h' (Av d) (FX (p,cl))→Aq prog 309 #[.slice (JU A3 c3 (i+1) 15) (ds.length-(i+1)) (c3-(i+1)),.func (.func 310) #[] #[AD d]] h' (O (Dz (λx=>LX cl x.2) (ds.drop (i+1)) 0)):=λh' d aa r=>Ao4 h' _ _ _ _ (b5.le (ag.trans aa)) J 310 [] [AD d] (λx=>LX cl x.2) (Ab func310) (λx _=>Aie h' x d (p,cl) r);rcases Ao1 (ds:=ds.drop (i+1)) (club:=cl)with⟨e1,e2⟩|⟨g,bs,e1,e2⟩
   ·rw[e1]at ap;have aj:=ab e2;(have ai:ou=ou++Gc (D.take i) ((ds.drop (i+1)).map (·.2)) x (p,cl):=by rw[aj,DR]);clear k o ab;cases a3;(all_goals(repeat'(first|refine Ba ?_|(apply AE;(iterate 3 exact F);apply Bo (e:=260);exact F;intro d)|(apply AE;(iterate 3 exact F);apply Bo (e:=311);exact F;intro a')|(apply LP;exact F;exact F;(apply KD (ek:=Dq) (ev:=MJ) (z0:=(0,false)) (key:=p) (b:=ac) (m:=a0) hK;(iterate 6 exact F);exact aw);focus((repeat'(first|exact trivial|apply And.intro|exact List.Mem.head _|apply List.Mem.tail));done))|(apply LP;exact F;exact F;(apply KD (ek:=Dq) (ev:=Dq) (z0:=(0:Int)) (key:=p) (b:=bm) (m:=mc) hK;(iterate 6 exact F);exact ax);focus((repeat'(first|exact trivial|apply And.intro|exact List.Mem.head _|apply List.Mem.tail));done))|(apply LP;exact F;exact F;(apply KD (ek:=Dq) (ev:=Dq) (z0:=(0:Int)) (key:=p) (b:=bm) (m:=Dk p (y0+qy) mc) hK;(iterate 6 exact F);exact aq);focus((repeat'(first|exact trivial|apply And.intro|exact List.Mem.head _|apply List.Mem.tail));done))|refine Z TQ ?_|refine BF ?_|refine Z Pc ?_|refine Z KQ ?_|(refine Z (by apply Ml (lo:=i+1) (n:=ds.length) (c:=c3);(iterate 5 exact F);omega;omega) ?_)|(refine Ac ?_;first|(refine cD ?_)|(refine Gt (b:=d) (e:=260) Bh ?_;intro bu au r;apply Aw;exact F;exact Ab func309;exact ap _ d Ag r))|(refine Y ?_ ?_<;>intro hc<;>try omega)|fail)))
    all_goals first
     |omega
     |(exfalso;simp at hc;done)
     |(
        have a:=t _ A6 ad _ au ai J
        refine AB Af Ad a)
     |(
        have a:=t _ A6 ad _ (V.refl _) ai J
        refine AB Af Ad a)
   ·rw[e1]at ap;rw[Kw]at bs;have b9:=bl.addrD (show i+1+g<ds.length by omega);have br:Au al ((addrD A3).add ((i+1+g)*QW.size)) (Eg (ds.getD (i+1+g) Ee)):=(bl.cellsD Ee (show i+1+g<ds.length by omega)).le ag;(have bf:(ds.drop (i+1)).getD g Ee=ds.getD (i+1+g) Ee:=by simp[List.getD]);rw[bf]at e2;generalize ds.getD (i+1+g) Ee=z at *;clear ab bf;by_cases ae:QZ y0 qy a3
    ·have aj:=o _ ae e2;clear k o;cases a3;(case' false=>have bz:=ae.resolve_left An);(all_goals(repeat'(first|refine Ba ?_|(apply AE;(iterate 3 exact F);apply Bo (e:=260);exact F;intro d)|(apply AE;(iterate 3 exact F);apply Bo (e:=311);exact F;intro a')|(apply LP;exact F;exact F;(apply KD (ek:=Dq) (ev:=MJ) (z0:=(0,false)) (key:=p) (b:=ac) (m:=a0) hK;(iterate 6 exact F);exact aw);focus((repeat'(first|exact trivial|apply And.intro|exact List.Mem.head _|apply List.Mem.tail));done))|(apply LP;exact F;exact F;(apply KD (ek:=Dq) (ev:=Dq) (z0:=(0:Int)) (key:=p) (b:=bm) (m:=mc) hK;(iterate 6 exact F);exact ax);focus((repeat'(first|exact trivial|apply And.intro|exact List.Mem.head _|apply List.Mem.tail));done))|(apply LP;exact F;exact F;(apply KD (ek:=Dq) (ev:=Dq) (z0:=(0:Int)) (key:=p) (b:=bm) (m:=Dk p (y0+qy) mc) hK;(iterate 6 exact F);exact aq);focus((repeat'(first|exact trivial|apply And.intro|exact List.Mem.head _|apply List.Mem.tail));done))|refine Z TQ ?_|refine BF ?_|refine Z Pc ?_|refine Z KQ ?_|(refine Z (by apply Ml (lo:=i+1) (n:=ds.length) (c:=c3);(iterate 5 exact F);omega;omega) ?_)|(refine Ac ?_;first|(refine cD ?_)|(refine Gt (b:=d) (e:=260) Bh ?_;intro bu au r;apply Aw;exact F;exact Ab func309;exact ap _ d Ag r))|(apply AU (n:=16) 18 [0,1,2,3,4,5,6,7,8,9,10,11,12,13,14,99,15,16,99,17];kernel_rfl)|(apply Be;exact Bd;(first|(apply Cs (j:=i+1+g) (n:=ds.length) (A:=A3);(iterate 5 exact F);exact b9;omega;omega)|(apply BA;exact F;apply LI;exact F;exact br.le Ag;exact F)|(apply BA;exact F;exact GA rfl r rfl));exact AX)|(refine Bn ?_;first|(refine sD ?_;intro cg bv bg hs9;refine⟨bg,Ak,?_⟩)|(refine sG ?_;intro bp bq;refine⟨V.refl _,Ak,?_⟩))|(refine Y ?_ ?_<;>intro hc<;>try omega)|fail)))
     all_goals first
      |omega
      |(exfalso;simp at hc;done)
      |(
         have a:=t (ou++[⟨p,cl,z.2.sh.g⟩]) bp bq bv (au.trans bg) (by rw[aj]) An
         rw[Bt]at a
         refine AB Af Ad a)
    ·have aj:=k ae;(have ai:ou=ou++Gc (D.take i) ((ds.drop (i+1)).map (·.2)) x (p,cl):=by rw[aj,DR]);clear k o;cases a3;(case' true=>exact absurd (.inl rfl) ae);have bz:(y0+qy) / 5=y0 / 5:=JD λw=>ae (.inr w);(repeat'(first|refine Ba ?_|(apply AE;(iterate 3 exact F);apply Bo (e:=260);exact F;intro d)|(apply AE;(iterate 3 exact F);apply Bo (e:=311);exact F;intro a')|(apply LP;exact F;exact F;(apply KD (ek:=Dq) (ev:=MJ) (z0:=(0,false)) (key:=p) (b:=ac) (m:=a0) hK;(iterate 6 exact F);exact aw);focus((repeat'(first|exact trivial|apply And.intro|exact List.Mem.head _|apply List.Mem.tail));done))|(apply LP;exact F;exact F;(apply KD (ek:=Dq) (ev:=Dq) (z0:=(0:Int)) (key:=p) (b:=bm) (m:=mc) hK;(iterate 6 exact F);exact ax);focus((repeat'(first|exact trivial|apply And.intro|exact List.Mem.head _|apply List.Mem.tail));done))|(apply LP;exact F;exact F;(apply KD (ek:=Dq) (ev:=Dq) (z0:=(0:Int)) (key:=p) (b:=bm) (m:=Dk p (y0+qy) mc) hK;(iterate 6 exact F);exact aq);focus((repeat'(first|exact trivial|apply And.intro|exact List.Mem.head _|apply List.Mem.tail));done))|refine Z TQ ?_|refine BF ?_|refine Z Pc ?_|refine Z KQ ?_|(refine Ac ?_;first|(refine cD ?_))|(refine Y ?_ ?_<;>intro hc<;>try omega)|fail))
     all_goals first
      |omega
      |(exfalso;simp at hc;done)
      |(
         have a:=t _ A6 ad _ au ai J
         refine AB Af Ad a)
      |(
         have a:=t _ A6 ad _ (V.refl _) ai J
         refine AB Af Ad a)
  ·rw[show ms.take j=ms from By J]at ah af;rw[←ay]at ah;have hcm:=bd _ af;have a:=az (i+1,ou,A6,ad,mc,al) ⟨Ah,Ag,ah,hcm⟩ Ah;dsimp only at a;clear az a7;(repeat'(first|refine Aa ?_|(refine Y ?_ ?_<;>intro hc<;>try omega)|fail))
   all_goals first
    |omega
    |(refine AB Af Ad a)
 ·(have b2:i=ds.length:=by omega);(have hsc:EV D=out:=by{rw[av,b2,←bw];unfold EV;rfl});rw[hsc];clear az;refine EE (enc:=Lu) (e:=258) (sz:=6) (n:=out.length) (xs:=out) (λ_=>rfl) rfl Bh ?_;intro cd c7 ch cn bt cp hs7;cases bt;(repeat'(first|refine Aa ?_|(refine Y ?_ ?_<;>intro hc<;>try omega)|fail))
  all_goals first
   |omega
   |(exact BL rfl rfl rfl ⟨a9,c4,rfl,hs7,J⟩)
end Go.Hw
set_option maxHeartbeats 4000000
namespace Go.Hw
open Go
attribute [local irreducible] AI Bz BV Aq AP Az Au CH Ap Ar BG Cm BP Dg Lh
open Go.Proofs.Tryz
def SC (player:Int) (f:Al):Prop:=f.kind=6∧f.mP=player∧BT f
open Classical in
noncomputable def EO (player:Int) (l:AN):AN:=l.filter λp=>decide (SC player p.2)
def Uk (pl:Int)(a b:AN):EO pl (a++b)=EO pl a++EO pl b:=by unfold EO;rw[Gl]
def Avh {pl:Int}{p:AA×Al}(h:SC pl p.2):EO pl [p]=[p]:=by unfold EO;simp[h]
def Amo {pl:Int}{p:AA×Al}(h:¬SC pl p.2):EO pl [p]=[]:=by unfold EO;simp[h]
open Classical in
theorem aB {pl:Int}{l:AN}{x:AA×Al}:x∈EO pl l↔x∈l∧SC pl x.2:=by unfold EO;rw[DQ,decide_eq_true_eq]
def RH (day:Int) (z x:AA×Al):AA×Al:=if x.2.day≤day∧(z.2.day<x.2.day∨(x.2.day=z.2.day∧0<CO x.2 z.2))then x else z
def S':Al:={BQ with day:=-1,mTo:=-1}
def Hy (day:Int) (l:AN):AA×Al:=l.foldl (RH day) (CP,S')
def Ace (day:Int)(l:AN)(x:AA×Al):Hy day (l++[x])=RH day (Hy day l) x:=by unfold Hy;rw[GL];rfl
def Anw (day:Int)(l:AN):Hy day l=(CP,S')∨Hy day l∈l:=by refine RI (P:=λl=>Hy day l=(CP,S')∨Hy day l∈l) (.inl rfl) (λl x a=>?_) l;rw[Ace];unfold RH;split;{exact .inr An};{exact a.imp id λh=>by simp[h]}
def BT.day0 {f:Al}(h:BT f):0≤f.day:=h.1.1
def vC (h:U)(A:At)(n c:Nat)(player:Int):Az prog 224 #[.slice A n c,O player] h (λu h'=>∃d a,u=.func (.func 311) #[] #[AD d,AD a]∧Au h' (Av d) [.slice A n c]∧Au h' (Av a) [O player]):=by
 refine BB func224 λ_ _=>?_;(repeat'(first|refine Aa ?_|(refine Aj ?_;intro b)|fail));refine Ii Bh ?_;intro h1 i e;refine Ii Bh ?_;intro h2 g f;(first|(apply BL;(iterate 3 exact F)))
 first
  |exact⟨_,_,rfl,f,e.le g⟩
  |exact⟨_,_,rfl,e.le g,f⟩
open Classical in
theorem vD (h:U)(A:At)(n c:Nat)(l:AN)(hx:Cz h A n l)(player:Int)(s i:Nat)(z:Au h (Av s) [.slice A n c])(hp:Au h (Av i) [O player]):HB prog 311 [AD s,AD i] UR (EO player l) h:=by
 intro lid I Ix ak al ad Es h1 q h0;refine Cx func311 λ_ _=>?_;have ah:=hx.row.len;have hn:=hx.small;have hb1:=z.le q;have ac:=hp.le q;(repeat'(first|refine Aa ?_|(refine Z (by apply BA;exact F;exact BH rfl hb1 rfl) ?_)|fail));refine Pd (X:=Nat×Am×U) (λx=>x.1≤n∧V h1 x.2.2∧I (EO player (l.take x.1)) x.2.1 x.2.2) (λx=>n-x.1) (λx=>[(8,O x.1),(7,O n),(6,.slice A n c),(0,.func (.yield lid) #[] #[]),(2,AD i)]) (λx=>x.2.1) (λx=>x.2.2) (0,Es,h1) ⟨J,V.refl _,h0⟩ Af rfl rfl ?_;rintro⟨k,e,d⟩ ⟨aa,hlk,a⟩ f;dsimp only at aa hlk a f ⊢;have o:V h d:=q.trans hlk;have r:=ac.le hlk;by_cases hkn2:k<n
 ·have a1:=hx.row.addrD hkn2;have c1:=(hx.row.cellsD AS hkn2).le o;have t:=BY AS (xs:=l) rfl (show k<l.length by omega);have ae:=WE AS (l:=l) rfl (show k<l.length by omega);have u:=hx.fat _ (Ce AS (show k<l.length by omega));generalize l.getD k AS=p at *;have hch:=Ql d p.1 p.2 (u.1.le o) u.2;(have af:SC player p.2→Dg prog lid [BW p.1 p.2] e d λv Es' h'=>(v=.bool true∧I (EO player (l.take (k+1))) Es' h')∨(v=.bool false∧Ix (EO player (l.take (k+1))) Es' h'):=λhv=>by{have e1:=Avh hv;(have e2:EO player (l.take (k+1))=EO player (l.take k)++[p]:=by rw[t,Uk,e1]);(have y:EO player l=EO player (l.take k)++p::EO player (l.drop (k+1)):=by{(conv=>lhs;rw[ae]);rw[Uk,show p::l.drop (k+1)=[p]++l.drop (k+1)from rfl,Uk,e1];rfl});rw[e2];exact ad _ _ _ _ _ _ y o rfl a});by_cases hv:SC player p.2
  ·have ai:=hv.1;have aj:=hv.2.1;rw[if_pos hv.2.2]at hch;(repeat'(first|refine AH ?_|refine Z Bf ?_|refine Z BN ?_|(refine Z (by apply BA;exact F;exact BH rfl r rfl) ?_)|(refine Aj ?_;intro b)|(refine Ac ?_;first|(refine RP ?_)|(refine Nj (JW (l₁:=[_])) ?_;apply QR (Es0:=e) (Fs:=[_]);(iterate 3 exact F);exact af hv;rintro v g h2 ab (⟨rfl,j⟩|⟨rfl,j⟩);all_goals skip))|(refine Y ?_ ?_<;>intro hc<;>try omega)|refine AF ?_|(refine AG ?_ ?_<;>intro hc<;>try omega)|fail))
   all_goals first
    |omega
    |(
       have h3:=f (k+1,g,h2) ⟨by show k+1≤n;omega,hlk.trans ab,j⟩ NT
       refine Lc (JW (l₁:=g) (l₂:=[_])) (HM .here ?_)
       exact Jz Af h3)
    |(
       refine Me (rs:=[]) (vs:=[]) (Fs:=g) rfl rfl trivial (Pm _ _) (.inr ⟨EO player (l.take (k+1)),EO player (l.drop (k+1)),?_,j⟩)
       rw[←Uk,GW])
  (have w:EO player (l.take (k+1))=EO player (l.take k):=by{rw[t,Uk,Amo hv,DR]});by_cases m:p.2.kind=6∧p.2.mP=player
  ·rw[if_neg (λh=>hv ⟨m.1,m.2,h⟩)]at hch;(repeat'(first|refine AH ?_|refine Z Bf ?_|refine Z BN ?_|(refine Z (by apply BA;exact F;exact BH rfl r rfl) ?_)|(refine Aj ?_;intro b)|(refine Ac ?_;first|(refine RP ?_))|(refine Y ?_ ?_<;>intro hc<;>try omega)|refine AF ?_|(refine AG ?_ ?_<;>intro hc<;>try omega)|fail))
   all_goals
    have h3:=f (k+1,e,d) ⟨by show k+1≤n;omega,hlk,by show I (EO player (l.take (k+1))) _ _;rw[w];exact a⟩ NT
    refine HM .here ?_
    exact Jz Af h3
  ·generalize(if BT p.2 then(0:Int)else 70)=ag at hch;(repeat'(first|refine AH ?_|refine Z Bf ?_|refine Z BN ?_|(refine Z (by apply BA;exact F;exact BH rfl r rfl) ?_)|(refine Aj ?_;intro b)|(refine Y ?_ ?_<;>intro hc<;>try omega)|refine AF ?_|(refine AG ?_ ?_<;>intro hc<;>try omega)|fail))
   all_goals first
    |(exfalso;exact m ⟨Cn,Cn⟩)
    |(
       have h3:=f (k+1,e,d) ⟨by show k+1≤n;omega,hlk,by show I (EO player (l.take (k+1))) _ _;rw[w];exact a⟩ NT
       refine HM .here ?_
       exact Jz Af h3)
 {rw[By J]at a;(repeat'(first|refine Aa ?_|(refine Y ?_ ?_<;>intro hc<;>try omega)|fail));exact FK (rs:=[]) (vs:=[]) rfl rfl trivial (.inl a)}
def Az4 (h:U)(hG:DG h)(A:At)(n c:Nat)(l:AN)(hx:Cz h A n l)(player day:Int):Az prog 225 #[.slice A n c,O player,O day] h (λu _=>u=.tuple #[O (if(Hy day (EO player l)).2.mTo<0 then 0 else(Hy day (EO player l)).2.mTo),.bool (decide (0≤(Hy day (EO player l)).2.mTo))]):=by
 refine BB func225 λ_ _=>?_;(repeat'(first|refine Ba ?_|(apply AE;(iterate 3 exact F);apply Bo (e:=71);exact F;intro d)|refine BF ?_|(refine Aj ?_;intro b)|(refine Ac ?_;first|(apply AR;exact F;exact Ab func224;exact vC _ A n c player;rintro vr ag o ⟨k,j,rfl,w,aa⟩))|fail));generalize b=a;refine EF (Es':=[Ap d 71 (CS CP S'),Ap a 3 [O day]]) Ad ?_;refine QY (R:=UR) (xs:=EO player l) (gf:=311) (lb:=[AD k,AD j]) rfl rfl (Ab func311) (vD _ A n c l (hx.le o) player k j w aa) TK rfl (λpre Es h2=>Es=[Ap d 71 (CS (Hy day pre).1 (Hy day pre).2),Ap a 3 [O day]]) (λ_ _ _ _=>False) (λpre Es h2 h3 ae e=>e) (λ_ _ _ _ _ _ h=>h.elim) rfl ?_ ?_ (λ_ _ _ _ _ _ _ _ h=>h.elim)
 ·rintro lid r0 ai ad pre x post u v h1 p rfl rfl m ac;(have hm:∀y∈EO player l,Cr h1 y.1 y.2∧Eu y.2∧BT y.2:=λy hy=>by{rw[aB]at hy;have:=hx.fat y hy.1;exact⟨this.1.le (o.trans m),this.2,hy.2.2.2⟩});obtain⟨q,r,i⟩:=hm x (by rw[p];simp)
  have g:x.2.day=(Hy day pre).2.day→Cr h1 (Hy day pre).1 (Hy day pre).2∧Eu (Hy day pre).2∧BT (Hy day pre).2:=λe=>by
   rcases Anw day pre with e2|ab;{have:=i.day0;rw[e2]at e;rw[e]at this;exact absurd this BO};{exact hm _ (by rw[p];simp[ab])}
  rw[Ace];generalize Hy day pre=z at *;obtain⟨s,f⟩:=x;obtain⟨t,e⟩:=z;unfold RH;dsimp only at q r i g ⊢;(repeat'(first|refine Ba ?_|(apply Ng;exact F;exact Bh;exact ac)|refine BF ?_|(refine Aj ?_;intro b)|(refine Ac ?_;first|(apply AR;exact F;exact Ab func46;exact Sm _ (hG.le Ag) s t f e (q.le Ag) r ((g Cn).1.le Ag) (g Cn).2.1 i (g Cn).2.2;rintro ah h2 af rfl))|(refine Y ?_ ?_<;>intro hc<;>try omega)|refine AF ?_|(refine AG ?_ ?_<;>intro hc<;>try omega)|fail))
  all_goals first
   |(
      rw[if_pos (show f.day≤day∧(e.day<f.day∨(f.day=e.day∧0<CO f e)) by omega)]
      refine EF (Es':=[FI lid {r0 with state:=.busy},Ap d 71 (CS s f),Ap a 3 [O day]]) Ad (Oa (r0:=r0) rfl .here ?_)
      rfl)
   |(
      rw[if_neg (show¬(f.day≤day∧(e.day<f.day∨(f.day=e.day∧0<CO f e))) by omega)]
      refine EF (Es':=[FI lid {r0 with state:=.busy},Ap d 71 (CS t e),Ap a 3 [O day]]) Ad (Oa (r0:=r0) rfl .here ?_)
      rfl)
 {rintro D h1 v m rfl;(repeat'(first|refine Aa ?_|(refine Y ?_ ?_<;>intro hc<;>try omega)|fail));{refine Oq (Ob rfl Bh (NQ (rs:=[.tmp 6,.tmp 7]) (vs:=[O 0,.bool false]) rfl rfl ⟨rfl,rfl,trivial⟩ (Hi _) ⟨rfl,?_⟩));rw[if_pos hc,decide_eq_false J];rfl};{refine Oq (Ob rfl Bh (NQ (rs:=[.tmp 6,.tmp 7]) (vs:=[O (Hy day (EO player l)).2.mTo,.bool true]) rfl rfl ⟨rfl,rfl,trivial⟩ (Hi _) ⟨rfl,?_⟩));rw[if_neg J,decide_eq_true hc];rfl}}
end Go.Hw
set_option maxHeartbeats 8000000
namespace Go.Hw
open Go
attribute [local irreducible] AI Bz BV Aq AP Az Au CH Ap Ar BG Cm BP Dg El Ek Fl Ex EV Hj Gc Ft GB GP GS EZ
open Go.Proofs.Tryz
def Au9 {l:AN}(pl day:Int):(Hy day (EO pl l)).2=GS (Ae l) pl day:=by(have e:Ae (EO pl l)=SD pl (Ae l):=by{unfold EO SD Ae;rw[Sq];rfl});unfold GS Hy;rw[←e];unfold Ae;(have a:∀(ms:AN) (z:AA×Al),(ms.foldl (RH day) z).2=(ms.map (·.2)).foldl (QQ day) z.2:=by{intro ms;induction ms with|nil=>intro z;rfl|cons x r b=>intro z;rw[Nf,b,CW,Nf];congr 1;unfold RH QQ;split<;>rfl});exact a (EO pl l) (CP,S')
def Ack {l:AN}{pl:Int}:EO pl l=[]↔¬∃x∈Ae l,IS pl x:=by rw[List.eq_nil_iff_forall_not_mem];constructor;{rintro h ⟨f,hf,q⟩;unfold Ae at hf;obtain⟨p,hp,rfl⟩:=CZ.1 hf;exact h p (aB.2 ⟨hp,q⟩)};{intro h p hp;have:=aB.1 hp;exact h ⟨p.2,CZ.2 ⟨p,this.1,rfl⟩,this.2⟩}
def Pu (L:Ax) (p day club:Int):Prop:=0≤(GS L p day).mTo∧(GS L p day).mTo=club
noncomputable def jG (L:Ax) (p day:Int):Value:=.tuple #[O (if(GS L p day).mTo<0 then 0 else(GS L p day).mTo),.bool (decide (0≤(GS L p day).mTo))]
def A0s (h:U)(hG:DG h)(A:At)(n c:Nat)(l:AN)(hx:Cz h A n l)(player day:Int):Az prog 225 #[.slice A n c,O player,O day] h (λu _=>u=jG (Ae l) player day):=by have:=Az4 h hG A n c l hx player day;rw[Au9]at this;exact this
open Classical in
theorem Al7 (h:U)(hG:DG h)(A:At)(n c:Nat)(l:AN)(hx:Cz h A n l)(m:Int×Int)(b2 b6:Nat)(s:AA×Dn)(h2:Au h (Av b2) [.slice A n c])(ad:Au h (Av b6) (Eg s)):Az prog 223 #[.agg (FX m).toArray,AD b2,AD b6] h (λu _=>u=.bool (!decide ((∃x∈Ae l,IS m.1 x)∧¬Pu (Ae l) m.1 s.2.day m.2))):=by
 refine BB func223 λ_ _=>?_;obtain⟨p,cl⟩:=m;obtain⟨ao,b⟩:=s;dsimp only;obtain⟨a,j⟩:∃a:Bool,(a=true↔Pu (Ae l) p b.day cl):=⟨decide (Pu (Ae l) p b.day cl),An⟩;(repeat'(first|refine Ba ?_|(apply AE;(iterate 3 exact F);apply Ci (e:=260);exact F;intro b3)|(apply AE;(iterate 3 exact F);apply Bo (e:=4);exact F;intro f)|refine Eo ?_|(refine Z (by apply BA;exact F;exact BH rfl h2 rfl) ?_)|(refine Ac ?_;first|(apply AR;exact F;exact Ab func224;exact vC _ A n c p;rintro vr an g ⟨y,v,rfl,ae,af⟩))|fail));refine EF (Es':=[Ap f 4 [.bool false],Ap b3 260 (FX (p,cl))]) Ad ?_;refine QY (R:=UR) (xs:=EO p l) (gf:=311) (lb:=[AD y,AD v]) rfl rfl (Ab func311) (vD _ A n c l (hx.le g) p y v ae af) TK rfl (λpre Es h2=>pre=[]∧Es=[Ap f 4 [.bool false],Ap b3 260 (FX (p,cl))]) (λz pre Es h2=>z=.ret∧pre≠[]∧Es=[Ap f 4 [.bool a]]) (λpre Es h2 h3 k e=>e) (λ_ _ _ _ _ _ h=>h) ⟨rfl,rfl⟩ ?_ ?_ ?_
 ·rintro lid r0 ap am pre x post u r h1 o rfl ⟨rfl,rfl⟩ d ac;have hrg:=λh' (k:V h1 h')=>A0s h' (hG.le (g.trans (d.trans k))) A n c l (hx.le (g.trans (d.trans k))) p b.day;have aa:=(h2.le g).le d;have ab:=(ad.le g).le d;unfold jG at hrg;have hv:a=true↔0≤(GS (Ae l) p b.day).mTo∧(GS (Ae l) p b.day).mTo=cl:=j;clear j;generalize(GS (Ae l) p b.day).mTo=t at *;by_cases i:0≤t
  ·rw[if_neg (show¬t<0 by omega),decide_eq_true i]at hrg;(have e:DZ t cl=a:=by rw[Lj,Fb,hv];exact⟨λq=>⟨i,q⟩,λq=>q.2⟩);subst e;(repeat'(first|refine Ba ?_|(apply Ng;exact F;exact Bh;exact ac)|refine BF ?_|(refine Z (by apply BA;exact F;exact BH rfl aa rfl) ?_)|(refine Z (by apply BA;exact F;exact GA rfl ab rfl) ?_)|(refine Ac ?_;first|(refine qK ?_;rintro al h3 ag rfl))|fail))
   all_goals first
    |(refine EF (Es':=[FI lid {r0 with state:=.busy},Ap f 4 [.bool (DZ t cl)]]) Ad (Aa9 (r0:=r0) rfl .here ⟨rfl,An,rfl⟩))
  ·rw[if_pos (show t<0 by omega),decide_eq_false i]at hrg;(have e:a=false:=by rw[←YR,hv];exactλq=>i q.1);subst e;(repeat'(first|refine Ba ?_|(apply Ng;exact F;exact Bh;exact ac)|refine BF ?_|(refine Z (by apply BA;exact F;exact BH rfl aa rfl) ?_)|(refine Z (by apply BA;exact F;exact GA rfl ab rfl) ?_)|(refine Ac ?_;first|(refine qK ?_;rintro al h3 ag rfl))|fail))
   all_goals first
    |(refine EF (Es':=[FI lid {r0 with state:=.busy},Ap f 4 [.bool false]]) Ad (Aa9 (r0:=r0) rfl .here ⟨rfl,An,rfl⟩))
 ·rintro D h1 r d ⟨ai,rfl⟩;have aj:=Ack.1 ai;rw[show(!decide ((∃x∈Ae l,IS p x)∧¬Pu (Ae l) p b.day cl))=true from by rw[decide_eq_false (λq=>aj q.1)];rfl];(repeat'(first|refine AH ?_|fail))
  all_goals
   refine Oq (Ob rfl Bh (NQ (rs:=[.cell 4 4]) (vs:=[.bool true]) rfl rfl ⟨⟨_,rfl,JS rfl Bc rfl⟩,trivial⟩ (Hi _) ⟨rfl,rfl⟩))
 ·rintro D h1 r z pre post o d ⟨rfl,ah,rfl⟩;(have ak:∃x∈Ae l,IS p x:=by{refine JD λq=>?_;rw[Ack.2 q]at o;have:=(List.append_eq_nil_iff.1 o.symm).1;exact ah this})
  rw[show(!decide ((∃x∈Ae l,IS p x)∧¬Pu (Ae l) p b.day cl))=a from by
   cases a;{rw[decide_eq_true ⟨ak,λq=>by have:=j.2 q;cases this⟩];rfl}
   ·rw[decide_eq_false (λw=>w.2 (j.1 rfl))];rfl]
  refine Oq (Ob rfl Bh (NQ (rs:=[.cell 4 4]) (vs:=[.bool a]) rfl rfl ⟨⟨_,rfl,JS rfl Bc rfl⟩,trivial⟩ (Hi _) ⟨rfl,rfl⟩))
def Al6 (h:U)(hG:DG h)(A:At)(n c:Nat)(l:AN)(hx:Cz h A n l)(m:Int×Int)(b2 b6:Nat)(s:AA×Dn)(h2:Au h (Av b2) [.slice A n c])(a:Au h (Av b6) (Eg s)):Az prog 226 #[.agg (FX m).toArray,AD b2,AD b6] h (λu _=>u=.bool (MR (BR (Ae l)) m.1 s.2.day)):=by
 refine BB func226 λ_ _=>?_;(repeat'(first|refine Aa ?_|(refine Z (by apply BA;exact F;exact BH rfl h2 rfl) ?_)|(refine Z (by apply BA;exact F;exact GA rfl a rfl) ?_)|(refine Aj ?_;intro b)|(refine Ac ?_;first|(apply AR;exact F;exact Ab func227;exact Aut _ (hG.le Ag) A n c l (hx.le Ag) m.1 s.2.day;rintro e h3 d rfl))|fail))
 all_goals first
  |((first|(apply BL;(iterate 3 exact F)));rfl)
def Al5 (h:U)(m:Int×Int)(b7 bm:Nat)(a:PL)(c:Au h (Av b7) [.map (some bm)]):AP prog 228 #[.agg (FX m).toArray,AD b7] [BG Dq Value.bool bm a] h (λu Es _=>u=.bool ((Co m.1 a).getD false)∧Es=[BG Dq Value.bool bm a]):=by
 refine Cx func228 λ_ _=>?_;have hK:=St;(repeat'(first|refine Aa ?_|(refine Z (by apply BA;exact F;exact BH rfl c rfl) ?_)|(refine Z (by apply KD (ek:=Dq) (ev:=Value.bool) (z0:=false) (key:=m.1) (b:=bm) (m:=a) hK;(iterate 7 exact F)) ?_)|(refine Aj ?_;intro b)|fail))
 all_goals first
  |(exact DD rfl rfl rfl NY ⟨rfl,rfl⟩)
def YS (S:Jd) (g:AL) (a:PL):Prop:=∀p,(Co p a).getD false=true↔∃s∈S,s.p=p∧s.g=g
def SS (b2 b6 b7:Nat):Ao:=[.func (.func 223) #[] #[AD b2,AD b6],.func (.func 226) #[] #[AD b2,AD b6],.func (.func 228) #[] #[AD b7]]
open Classical in
theorem Al4 (h:U)(hG:DG h)(A:At)(n c:Nat)(l:AN)(hx:Cz h A n l)(m:Int×Int)(b2 b6 b7 bm:Nat)(s:AA×Dn)(h2:Au h (Av b2) [.slice A n c])(i:Au h (Av b6) (Eg s))(d:PL)(t:Au h (Av b7) [.map (some bm)])(S:Jd)(g:AL)(v:YS S g d) :
  AP prog 230 #[.agg (SS b2 b6 b7).toArray,.agg (FX m).toArray] [BG Dq Value.bool bm d] h (λu Es _=>u=.bool (decide (JO (Ae l) S g s.2.day m.2 m.1))∧Es=[BG Dq Value.bool bm d]):=by
 refine Cx func230 λ_ _=>?_
 have h1:=λh' (a:V h h')=>Al7 h' (hG.le a) A n c l (hx.le a) m b2 b6 s (h2.le a) (i.le a)
 have h3:=λh' (a:V h h')=>Al6 h' (hG.le a) A n c l (hx.le a) m b2 b6 s (h2.le a) (i.le a)
 have o:=λh' (a:V h h')=>Al5 h' m b7 bm d (t.le a)
 have p:JO (Ae l) S g s.2.day m.2 m.1↔((∃x∈Ae l,IS m.1 x)∧¬Pu (Ae l) m.1 s.2.day m.2)∨MR (BR (Ae l)) m.1 s.2.day=true∨(Co m.1 d).getD false=true:=by
  unfold JO Pu
  rw[v m.1]
 by_cases j:(∃x∈Ae l,IS m.1 x)∧¬Pu (Ae l) m.1 s.2.day m.2
 · rw[decide_eq_true j]at h1
   rw[decide_eq_true (p.2 (.inl j))]
   clear h3 o
   repeat'(first|refine Aa ?_|(refine Aj ?_;intro b)|(refine Ac ?_;first|(refine cU ?_;rintro q h3 ad rfl))|fail)
   all_goals first
    |(exact DD rfl rfl rfl NY ⟨rfl,rfl⟩)
 · rw[decide_eq_false j]at h1
   cases k:MR (BR (Ae l)) m.1 s.2.day with
   |true=>
     rw[k]at h3
     rw[decide_eq_true (p.2 (.inr (.inl k)))]
     clear o
     repeat'(first|refine Aa ?_|(refine Aj ?_;intro b)|(refine Ac ?_;first|(refine cU ?_;rintro q r y rfl)|(refine tG ?_;rintro v4 i z rfl))|fail)
     all_goals first
      |(exact DD rfl rfl rfl NY ⟨rfl,rfl⟩)
   |false=>
     rw[k]at h3
     have e:decide (JO (Ae l) S g s.2.day m.2 m.1)=(Co m.1 d).getD false:=by
      rw[Lj,decide_eq_true_eq,p,k]
      exact⟨λw=>(w.resolve_left j).resolve_left An,λw=>.inr (.inr w)⟩
     rw[e]
     generalize(Co m.1 d).getD false=ab at *
     repeat'(first|refine Aa ?_|(refine Aj ?_;intro b)|(refine Ac ?_;first|(refine cU ?_;rintro q r y rfl)|(refine tG ?_;rintro v4 i z rfl)|(apply Ot (f:=228) (fs:=[]) (cs:=[AD b7]);exact F;exact F;exact Ab func228;exact o _ Ag;exact Ad;rintro v5 aa ac ae ⟨rfl,rfl⟩))|fail)
     all_goals first
      |(exact DD rfl rfl rfl NY ⟨rfl,rfl⟩)
def XB (h:U) (u:Value) (o:AC×AC):Prop:=∃a c1 b c2,u=.tuple #[.slice a o.1.length c1,.slice b o.2.length c2]∧Ai AQ 1 h a o.1.length o.1∧Ai AQ 1 h b o.2.length o.2
open Classical in
theorem jQ (h:U)(hG:DG h)(A:At)(n c:Nat)(l:AN)(hx:Cz h A n l)(t:At)(f d:Nat)(a:AC)(ac:Ai AQ 1 h t f a)(ax:f≤1000000)(cl:Int)(b2 b6 b7 y bm:Nat)(s:AA×Dn)(h2:Au h (Av b2) [.slice A n c])(af:Au h (Av b6) (Eg s))(j:PL)(ag:Au h (Av b7) [.map (some bm)])(an:Au h (Av y) (SS b2 b6 b7))(S:Jd)(g:AL)(ah:YS S g j) :
  AP prog 229 #[.slice t f d,O cl,AD y] [BG Dq Value.bool bm j] h (λu Es h'=>∃A' ak,u=.slice A' (EZ (Ae l) S g s.2.day cl a).length ak∧Ai AQ 1 h' A' (EZ (Ae l) S g s.2.day cl a).length (EZ (Ae l) S g s.2.day cl a)∧Es=[BG Dq Value.bool bm j]):=by
 refine Cx func229 λ_ _=>?_
 have hof:=λh' (b:V h h') p=>Al4 h' (hG.le b) A n c l (hx.le b) (p,cl) b2 b6 b7 bm s (h2.le b) (af.le b) j (ag.le b) S g ah
 have au:=ac.len
 have hsn:=iA (Ae l) S g s.2.day cl
 have hsl:=Tr (Ae l) S g s.2.day cl
 have ap:EZ (Ae l) S g s.2.day cl []=[]:=by unfold EZ;rfl
 dsimp only at hof
 obtain⟨r,ab⟩:∃r:Int→Bool,∀p,r p=decide (JO (Ae l) S g s.2.day cl p):=⟨_,λ_=>rfl⟩
 have hof:∀h' (b:V h h') p,AP prog 230 #[.agg (SS b2 b6 b7).toArray,.agg (FX (p,cl)).toArray] [BG Dq Value.bool bm j] h' (λu Es _=>u=.bool (r p)∧Es=[BG Dq Value.bool bm j]):=λh' b p=>by rw[ab p];exact hof h' b p
 have hsn:∀a p,EZ (Ae l) S g s.2.day cl (a++[p])=if r p=true then EZ (Ae l) S g s.2.day cl a++[p]else EZ (Ae l) S g s.2.day cl a:=λa p=>by
  rw[hsn a p,ab p]
  by_cases q:JO (Ae l) S g s.2.day cl p
  · rw[if_pos q,decide_eq_true q,if_pos rfl]
  · rw[if_neg q,decide_eq_false q,if_neg An]
 clear ab
 generalize EZ (Ae l) S g s.2.day cl=aj at *
 clear hx h2 af ag ah
 repeat'(first|refine Aa ?_|fail)
 refine FN 3 1 ?_
 refine Bg (X:=Nat×AC×At×Nat×U) (λx=>x.1≤f∧V h x.2.2.2.2∧x.2.1=aj (a.take x.1)) (λx=>f-x.1)
  (λx=>[(10,O x.1),(9,O f),(8,.slice t f d),(5,.slice x.2.2.1 x.2.1.length x.2.2.2.1),(1,O cl),(2,Dt y)])
  (λx=>[Ar 3 1 (.slice x.2.2.1 x.2.1.length x.2.2.2.1) x.2.1.length (x.2.1.flatMap AQ),BG Dq Value.bool bm j]) (λx=>x.2.2.2.2) (0,[],none,0,h) ⟨Ah,V.refl _,ap.symm⟩ Af Ad rfl ?_
 rintro⟨k,out,ad,c4,hh⟩ ⟨aq,m,o⟩ w
 dsimp only at aq m o w ⊢
 have az:out.length≤k:=by
  rw[o]
  refine Gj (hsl _) ?_
  rw[CF];omega
 by_cases aa:k<f
 · have a1:=ac.addrD aa
   have c1:Au hh ((addrD t).add (k*JG.size)) (AQ (a.getD k 0)):=(ac.cellsD 0 aa).le m
   have am:=BY 0 (xs:=a) au aa
   have ae:=an.le m
   generalize a.getD k 0=p at *
   have i:=hsn (a.take k) p
   rw[←am,←o]at i
   have hof:=λh' (b:V hh h')=>hof h' (m.trans b) p
   cases hq:r p with
   |true=>
     rw[hq]at i hof
     rw[if_pos rfl]at i
     clear hsn hsl
     repeat'(first|refine Aa ?_|refine Z Bf ?_|refine Z W' ?_|(refine Z (by apply BA;exact F;apply BH;exact F;(with_reducible exact ae);exact F) ?_)|(refine Ac ?_;first|(refine sF ?_;rintro v5 ai z v ⟨rfl,rfl⟩)|(refine Uc ?_;intro aw ao ar hs5)|(refine sE ?_;intro A5 c5))|(refine Y ?_ ?_<;>intro hc<;>try omega)|fail)
     all_goals first
      |omega
      |(exfalso;simp at hc;done)
      |(
         have h3:=w (k+1,out++[p],A5,c5,ao) ⟨Ah,m.trans (v.trans ar),by dsimp only;rw[i]⟩ Ah
         dsimp only at h3
         rw[Bt]at h3
         refine AB Af Ad h3)
   |false=>
     rw[hq]at i hof
     rw[if_neg An]at i
     clear hsn hsl
     repeat'(first|refine Aa ?_|refine Z Bf ?_|refine Z W' ?_|(refine Z (by apply BA;exact F;apply BH;exact F;(with_reducible exact ae);exact F) ?_)|(refine Ac ?_;first|(refine sF ?_;rintro v5 ai z v ⟨rfl,rfl⟩))|(refine Y ?_ ?_<;>intro hc<;>try omega)|fail)
     all_goals first
      |omega
      |(exfalso;simp at hc;done)
      |(
         have h3:=w (k+1,out,ad,c4,z) ⟨Ah,m.trans v,by dsimp only;rw[i]⟩ Ah
         dsimp only at h3
         refine AB Af Ad h3)
 · rw[By J]at o
   clear w hof hsn hsl
   rw[←o]
   refine EE (enc:=AQ) (e:=3) (sz:=1) (n:=out.length) (xs:=out) (λ_=>rfl) rfl Bh ?_
   intro av c7 z v al ay hs7
   cases al
   repeat'(first|refine Aa ?_|(refine Y ?_ ?_<;>intro hc<;>try omega)|fail)
   all_goals first
    |omega
    |(exact DD rfl rfl rfl NY ⟨ad,c4,rfl,hs7,rfl⟩)
def NG (g:AL) (S:Jd):PL:=S.foldl (λm s=>if s.g=g then Dk s.p true m else m) []
def xZ (g:AL)(S:Jd)(s:Sh):NG g (S++[s])=if s.g=g then Dk s.p true (NG g S)else NG g S:=by unfold NG;rw[GL];rfl
def At5 (g:AL)(S:Jd):YS S g (NG g S):=by refine Ny (P:=λS=>YS S g (NG g S)) (λp=>?_) (λS s a p=>?_) S;{constructor;{intro h;cases h};{rintro⟨s,hs,_⟩;cases hs}};{rw[xZ];have:=a p;by_cases hg:s.g=g;{rw[if_pos hg,KM];by_cases hp:s.p=p;{rw[if_pos hp];exact⟨λ_=>⟨s,An,hp,hg⟩,λ_=>rfl⟩};{rw[if_neg hp,this];constructor;{rintro⟨t,h1,h2⟩;exact⟨t,by simp[h1],h2⟩};{rintro⟨t,h1,h2⟩;rw[AO,Bk]at h1;rcases h1 with h1|rfl;{exact⟨t,h1,h2⟩};{exact absurd h2.1 hp}}}};{rw[if_neg hg,this];constructor;{rintro⟨t,h1,h2⟩;exact⟨t,by simp[h1],h2⟩};{rintro⟨t,h1,h2⟩;rw[AO,Bk]at h1;rcases h1 with h1|rfl;{exact⟨t,h1,h2⟩};{exact absurd h2.2 hg}}}}
def jP {L:Ax}{g:AL}(h:(CJ L g).kind≠2):Hv L g=([],[]):=by unfold Hv;rw[if_neg h]
def vK {L:Ax}{g:AL}{x:Dn}(hx:CJ L g=x)(h:x.kind=2):Hv L g=(EZ L (EV (Fl L g.s g.c)) g x.day g.h x.sh.hs,EZ L (EV (Fl L g.s g.c)) g x.day g.a x.sh.asn):=by unfold Hv;rw[hx,if_pos h]
def PN:Sh:=⟨0,0,Ga⟩
def Axu (h:U)(hG:DG h)(A:At)(n c:Nat)(l:AN)(hx:Cz h A n l)(a4:n≤65536)(g:AL):Az prog 161 #[.slice A n c,Di g] h (λu h'=>XB h' u (Hv (Ae l) g)):=by
 refine BB func161 λ_ _=>?_;have hsc:=λh' (a:V h h')=>gL h' (hG.le a) A n c l (hx.le a) g;have aa:=λh' (a:V h h')=>A0c h' (hG.le a) A n c l (hx.le a) a4 g.s g.c;have ag:=jP (L:=Ae l) (g:=g);have q:=λx=>vK (L:=Ae l) (g:=g) (x:=x);have ap:=LO (JC hx) (g:=g);rw[show EM l=Ae l from rfl]at hsc;generalize bg:CJ (Ae l) g=x at *;generalize EV (Fl (Ae l) g.s g.c)=S at *;by_cases ae:x.kind=2
 case' neg=>
  rw[ag ae]
  clear aa ag q
  repeat'(first|refine AH ?_|(refine Aj ?_;intro b)|(refine Ac ?_;first|(refine Ua ?_;rintro w2 h2 bc ⟨s,rfl,hs1,hs2⟩))|(refine Y ?_ ?_<;>intro hc<;>try omega)|fail)
  all_goals first
   |omega
   |(exact EG rfl rfl rfl rfl ⟨none,0,none,0,rfl,Ai.nil,Ai.nil⟩)
 have q:=q x rfl ae;(have bh:x.sh.hs.length≤1000000∧x.sh.asn.length≤1000000:=by{obtain⟨f,_,ok,a6,e,_⟩:=ap ae;have:=ok.2.2.1;unfold EW at this;rw[if_neg J,if_neg J,if_pos a6,e]at this;have h1:=this.2.2.2.2.2.1.1;have h2:=this.2.2.2.2.2.2.1.1;omega});rw[q];clear ag q ap;(repeat'(first|refine Ba ?_|(apply AE;(iterate 3 exact F);apply Ci (e:=22);exact F;intro b2)|(apply AE;(iterate 3 exact F);apply Ci (e:=36);exact F;intro b3)|(apply AE;(iterate 3 exact F);apply Bo (e:=172);exact F;intro b6)|(apply AE;(iterate 3 exact F);apply Bo (e:=224);exact F;intro b7)|refine BF ?_|(refine Ac ?_;first|(refine Ua ?_;rintro w2 h3 bd ⟨s,rfl,hs1,hs2⟩)|(apply Nn Dq Value.bool;intro bm)|(apply AR;exact F;exact Ab func222;exact aa _ Ag;rintro bp am an ⟨A5,c5,rfl,ao,ba⟩))|(refine Y ?_ ?_<;>intro hc<;>try omega)|fail));(all_goals try omega);have hK:=St;refine Bg (X:=Nat) (λk=>k≤S.length) (λk=>S.length-k) (λk=>[(26,O k),(25,O S.length),(24,.slice A5 S.length c5),(7,Dt b7),(6,Dt b6),(3,Dt b3),(2,Dt b2)]) (λk=>[BG Dq Value.bool bm (NG g (S.take k)),Ap b7 224 [.map (some bm)],Ap b6 172 (Eg (s,x)),Ap b3 36 (CG g),Ap b2 22 [.slice A n c]]) (λ_=>am) 0 J Af Ad rfl ?_;rintro k bb ai;by_cases af:k<S.length
 ·have a1:=ao.addrD af;have c1:=ao.cellsD PN af;have al:=BY PN (xs:=S) rfl af;generalize S.getD k PN=z at *;have hsn:=xZ g (S.take k) z;rw[←al]at hsn;have i:=ai (k+1) J J;rw[hsn]at i;generalize NG g (S.take k)=ac at *;have hge:=MZ z.g g;clear ai hsn al hsc aa;by_cases ab:z.g=g
  ·rw[if_pos ab]at i;rw[decide_eq_true ab]at hge;(repeat'(first|refine AH ?_|refine Z Bf ?_|refine Z BN ?_|refine Z MV ?_|(refine Aj ?_;intro b)|(refine Ac ?_;first|(apply Nq (ek:=Dq) (ev:=Value.bool) (b:=bm) (m:=ac) (key:=z.p) (u:=true) hK;(iterate 6 exact F);exact Bp))|(refine Y ?_ ?_<;>intro hc<;>try omega)|fail))
   all_goals first
    |omega
    |(exfalso;simp at hc;done)
    |(refine AB Af Ad i)
  ·rw[if_neg ab]at i;rw[decide_eq_false ab]at hge;(repeat'(first|refine AH ?_|refine Z Bf ?_|refine Z BN ?_|refine Z MV ?_|(refine Aj ?_;intro b)|(refine Y ?_ ?_<;>intro hc<;>try omega)|fail))
   all_goals first
    |omega
    |(exfalso;simp at hc;done)
    |(refine AB Af Ad i)
 ·rw[By J];clear ai hsc aa;have ad:=At5 g S;have az:V h am:=Ag;have v:=(hs1.hs.le an);have t:=(hs1.asn.le an);have be:=hs1.hs.len;have bf:=hs1.asn.len;generalize NG g S=ac at *;refine Ii (b:=b2) (e:=22) Bh ?_;intro bk ah d2;refine Ii (b:=b6) (e:=172) Bh ?_;intro bl y o;refine Ii (b:=b7) (e:=224) Bh ?_;intro bn p r;refine Ii (b:=b3) (e:=36) Bh ?_;intro aj j ay;have w:V h aj:=az.trans (ah.trans (y.trans (p.trans j)));have d2:=d2.le (y.trans (p.trans j));have o:=o.le (p.trans j);have r:=r.le j;have v:=v.le (ah.trans (y.trans (p.trans j)));have t:=t.le (ah.trans (y.trans (p.trans j)));have aq:=λh' (a:V aj h') d (h10:Au h' (Av d) (SS b2 b6 b7))=>jQ h' (hG.le (w.trans a)) A n c l (hx.le (w.trans a)) s.hs.A s.hs.n s.hs.c x.sh.hs (v.le a) J g.h b2 b6 b7 d bm (s,x) (d2.le a) (o.le a) ac (r.le a) h10 S g ad;have ar:=λh' (a:V aj h') d (h10:Au h' (Av d) (SS b2 b6 b7))=>jQ h' (hG.le (w.trans a)) A n c l (hx.le (w.trans a)) s.asn.A s.asn.n s.asn.c x.sh.asn (t.le a) J g.a b2 b6 b7 d bm (s,x) (d2.le a) (o.le a) ac (r.le a) h10 S g ad;dsimp only at aq ar;generalize EZ (Ae l) S g x.day g.h x.sh.hs=bi at *;generalize EZ (Ae l) S g x.day g.a x.sh.asn=bj at *;clear hx v t ad;(repeat'(first|refine Ba ?_|(apply AE;(iterate 3 exact F);apply Bo (e:=267);exact F;intro d)|refine BF ?_|(apply AU (n:=13) 16 [0,1,2,3,4,5,7,8,9,10,11,12,99,6,13,99,14,15];kernel_rfl)|(apply Be;exact Bd;(first|(apply BA;exact F;exact GA rfl (ay.le Ag) rfl)|(apply BA;exact F;exact LI rfl (o.le Ag) rfl));exact AX)|(refine Bn ?_;first|(refine Gt (b:=d) (e:=267) Bh ?_;intro a9 a0 ak;apply Ot (f:=229) (fs:=[]) (cs:=[AD d]);exact F;exact F;exact Ab func229;exact aq _ Ag d ak;exact Ad;rintro v5 a7 a' a2 ⟨au,aw,rfl,a5,rfl⟩;refine⟨a0.trans a2,Ak,?_⟩)|(apply Ot (f:=229) (fs:=[]) (cs:=[AD d]);exact F;exact F;exact Ab func229;exact ar _ Ag d (ak.le Ag);exact Ad;rintro bo a8 i a3 ⟨av,ax,rfl,hs9,rfl⟩;refine⟨a3,Ak,?_⟩))|(refine Y ?_ ?_<;>intro hc<;>try omega)|fail))
  all_goals first
   |omega
   |(exact EG rfl rfl rfl rfl ⟨au,aw,av,ax,rfl,a5.le Ag,hs9⟩)
end Go.Hw