import Derived.Test.YtbmffdagfjepgaaGreatDoorVB
import Derived.Lib.AppendZeros
set_option linter.all false
set_option maxRecDepth 100000
set_option maxHeartbeats 8000000
namespace Go.Hw
open Go
attribute [local irreducible] AI Bz BV Aq AP Az Au CH Ap Ar BG Cm BP Dg El Ek
open Go.Proofs.Tryz
def Ans {rs:AN}{C:Ax}{n:Int}(e:Ae rs=C.filter λf=>decide (CI n f)):Lv rs=Dj C n:=by(have h1:Lv rs=(Ae rs).foldl (λm f=>max m f.ru.inst) 0:=by unfold Lv Ae;rw[List.foldl_map]);rw[h1,e,List.foldl_filter];unfold Dj;congr 1;funext m f;by_cases h:CI n f<;>simp[h]
def Aii {rs:AN}{C:Ax}{n:Int}(e:Ae rs=C.filter λf=>decide (CI n f))(i:Int):(MQ rs i).map (·.2)=Gb C n i:=by(have h1:(MQ rs i).map (·.2)=(Ae rs).find? λf=>decide (f.ru.inst=i):=by unfold MQ Ae;rw[List.find?_map];rfl);rw[h1,e,List.find?_filter];unfold Gb;congr 1;funext f;simp
def KA.has {h:U}{C:Ax}{b:EI}(a:KA h C b){x:DC}(hx:x∈b):∃f∈C,CI x.num f:=(Sl C x.num).1 (a.nums▸Uw hx)
def KA.last {h:U}{C:Ax}{b:EI}(a:KA h C b){x:DC}(hx:x∈b):∃j:Nat,Lv x.rs=(j:Int)∧Dj C x.num=(j:Int)∧1≤j∧j<4:=by have e:=Ans (a.rs x hx);obtain⟨h0,f,hf⟩:=aH a.ok (a.has hx);obtain⟨h1,h2,h3⟩:=XU hf;have:=fO (a.ok f h1) h2.1;exact⟨(Dj C x.num).toNat,J,J,J,J⟩
def KA.held {h:U}{C:Ax}{b:EI}(a:KA h C b){x:DC}(hx:x∈b){j:Nat}(hj:Dj C x.num=(j:Int))(h1:1≤j)(c:j<4):x.s.getD j false=decide (Gz C x.num):=by rw[Lj,decide_eq_true_eq,a.sus x hx j c];unfold NM Gz;rw[hj];exact⟨λh=>⟨J,h⟩,λh=>h.2⟩
def KA.stand {h:U}{C:Ax}{b:EI}(a:KA h C b){x:DC}(hx:x∈b)(i:Int):(MQ x.rs i).map (·.2)=Gb C x.num i:=Aii (a.rs x hx) i
def Avq {rs:AN}{i:Int}{p:AA×Al}(h:MQ rs i=some p):p∈rs:=Ayv h
def Lz (C:Ax) (ns:AC):Ax:=ns.filterMap λn=>if Gz C n then none else Gb C n (Dj C n)
open Classical in
theorem Ac6 (C:Ax):Lz C (EB C)=Ek C:=by unfold Lz Ek;congr 1;funext n;by_cases h:Gz C n;{rw[if_pos h,if_pos h]};{rw[if_neg h,if_neg h]}
def Adr (C:Ax)(ns:AC)(n:Int):Lz C (ns++[n])=Lz C ns++(if Gz C n then none else Gb C n (Dj C n)).toList:=by unfold Lz;rw[Ay3,List.filterMap_cons,List.filterMap_nil];cases h:(if Gz C n then none else Gb C n (Dj C n))<;>rfl
def Ab9 (C:Ax)(ns:AC):(Lz C ns).length≤ns.length:=Ayz _ _
def yX (h:U)(hG:DG h)(A:At)(n c:Nat)(l:AN)(hx:Cz h A n l):AP prog 153 #[.slice A n c] [] h (λu Es h'=>∃A' ab l',u=.slice A' l'.length ab∧Es=[Ar 71 82 (.slice A' l'.length ab) l'.length (l'.flatMap BM)]∧(∀p∈l',DU h' p)∧Ae l'=Ek (BR (Ae l))∧l'.length≤1000000):=by
 refine Cx func153 λ_ _=>?_;obtain⟨C,am⟩:∃C,C=BR (Ae l):=⟨_,rfl⟩;have ad:=λh' (ag:V h h')=>Apz h' (hG.le ag) A n c l (hx.le ag);rw[←am]at ad ⊢;(repeat'(first|refine Aa ?_|(refine Ac ?_;first|(apply AR;exact F;exact Ab func216;exact ad _ Ag;rintro a0 h1 ay ⟨A3,c3,a,rfl,hsl,d⟩))|fail));have hsm:=d.small;refine FN 71 82 ?_;refine Bg (X:=Nat×AN×At×Nat×U) (λx=>x.1≤a.length∧V h1 x.2.2.2.2∧(∀p∈x.2.1,DU h1 p)∧Ae x.2.1=Lz C ((a.take x.1).map (·.num))) (λx=>a.length-x.1) (λx=>[(12,O x.1),(11,O a.length),(10,.slice A3 a.length c3),(2,.slice x.2.2.1 x.2.1.length x.2.2.2.1)]) (λx=>[Ar 71 82 (.slice x.2.2.1 x.2.1.length x.2.2.2.1) x.2.1.length (x.2.1.flatMap BM)]) (λx=>x.2.2.2.2) (0,[],none,0,h1) ⟨Ah,V.refl _,An,rfl⟩ Af Ad rfl ?_;rintro⟨k,out,aa,c4,hh⟩ ⟨ao,e,s,o⟩ v;dsimp only at ao e s o v ⊢;(have az:out.length≤k:=by{have q:=congrArg List.length o;have av:=Ab9 C ((a.take k).map (·.num));rw[Dc]at q;rw[Dc,CF]at av;omega});by_cases t:k<a.length
 ·have a1:=hsl.addrD t;have c1:=(hsl.cellsD default t).le e;have ak:=BY default (xs:=a) rfl t;have g:a.getD k default∈a:=Tm default t;generalize a.getD k default=x at *;obtain⟨j,ae,y,an,af⟩:=d.last g;have z:=(d.at_ x g).le e;have m:=Apa hh x z ae af;rw[d.held g y an af]at m;have ah:=kL hh x z;rw[ae]at ah;have aj:=Azi hh x z (j:Int);have ai:=d.stand g (j:Int);(have i:Lz C ((a.take (k+1)).map (·.num))=Ae out++(if Gz C x.num then none else Gb C x.num (j:Int)).toList:=by rw[ak,DI,o];show Lz C (_++[x.num])=_;rw[Adr,y]);by_cases r:Gz C x.num
  ·rw[decide_eq_true r]at m;rw[if_pos r]at i;(repeat'(first|refine Aa ?_|refine Z Bf ?_|refine Z BN ?_|(refine Ac ?_;first|(apply Hb (f:=217) (fs:=[Hx x]) (cs:=[]);exact F;exact F;exact Ab func217;exact m))|(refine Y ?_ ?_<;>intro hc<;>try omega)|fail))
   all_goals first
    |omega
    |(
       have h3:=v (k+1,out,aa,c4,hh) ⟨Ah,e,s,by dsimp only;rw[i];simp⟩ Ah
       dsimp only at h3
       refine AB Af Ad h3)
  ·rw[decide_eq_false r]at m;rw[if_neg r]at i;obtain⟨_,ax,ac⟩:=aH d.ok (d.has g);rw[y]at ac;rw[ac]at i ai;obtain⟨p,hp,aq⟩:=XR.1 ai;rw[hp]at aj;have ar:DU h1 p:=((d.at_ x g)).good p (Avq hp);have au:Aq prog 218 #[Hx x,O j] hh (.tuple #[BW p.1 p.2,.bool true]):=aj;(repeat'(first|refine AH ?_|refine Z Bf ?_|refine Z BN ?_|(refine Aj ?_;intro b)|(refine Ac ?_;first|(apply Hb (f:=217) (fs:=[Hx x]) (cs:=[]);exact F;exact F;exact Ab func217;exact m)|(apply Aw;exact F;exact Ab func219;exact ah)|(apply Hb (f:=218) (fs:=[Hx x]) (cs:=[]);exact F;exact F;exact Ab func218;exact au)|(refine cP ?_;intro aw al ap hs5)|(refine qZ ?_;intro A5 c5))|(refine Y ?_ ?_<;>intro hc<;>try omega)|fail))
   all_goals first
    |omega
    |(
       have h3:=v (k+1,out++[p],A5,c5,al) ⟨Ah,e.trans ap,λq hq=>by
        rcases AO.1 hq with w|w
        · exact s q w
        · rw[Bk]at w;subst w;exact ar,by dsimp only;rw[i];show Ae (out++[p])=_;simp[Ae,aq]⟩ Ah
       dsimp only at h3
       rw[Bt]at h3
       refine AB Af Ad h3)
 ·rw[By J,d.nums,Ac6]at o;clear v;(repeat'(first|refine Aa ?_|(refine Y ?_ ?_<;>intro hc<;>try omega)|fail))
  all_goals first
   |omega
   |(exact DD rfl rfl rfl (.cons_cons _ (Hi _)) ⟨aa,c4,out,rfl,rfl,λp hp=>(s p hp).le e,o,J⟩)
def Az1 (h:U)(hG:DG h)(A:At)(n c:Nat)(l:AN)(hx:Cz h A n l):Az prog 313 #[.slice A n c] h (λu h'=>∃A' r d,u=.slice A' d.length r∧Ai DH 17 h' A' d.length d∧d=(Ek (BR (Ae l))).map (·.ru)∧d.length≤1000000):=by
 refine BB func313 λ_ _=>?_;obtain⟨L,hL⟩:∃L,L=Ek (BR (Ae l)):=⟨_,rfl⟩;have m:=λh' (o:V h h')=>yX h' (hG.le o) A n c l (hx.le o);rw[←hL]at m ⊢;(repeat'(first|refine Aa ?_|(refine Ac ?_;first|(apply Ed;exact F;exact Ab func153;exact m _ Ag;exact Ad;rintro ao ad h1 z ⟨A3,c3,l3,rfl,rfl,ah,hf3,ak⟩))|fail));have z:V h h1:=Ag;refine EE (enc:=BM) (e:=71) (sz:=82) (n:=l3.length) (xs:=l3) Gv rfl Bh ?_;intro ac af j aj t am hs9;cases t;refine FN 61 17 ?_;refine Bg (X:=Nat×List Cu×At×Nat×U) (λx=>x.1≤l3.length∧V j x.2.2.2.2∧x.2.1=(Ae (l3.take x.1)).map (·.ru)) (λx=>l3.length-x.1) (λx=>[(8,O x.1),(7,O l3.length),(6,.slice A3 l3.length c3),(2,.slice x.2.2.1 x.2.1.length x.2.2.2.1)]) (λx=>[Ar 61 17 (.slice x.2.2.1 x.2.1.length x.2.2.2.1) x.2.1.length (x.2.1.flatMap DH)]) (λx=>x.2.2.2.2) (0,[],none,0,j) ⟨Ah,V.refl _,rfl⟩ Af Ad rfl ?_;rintro⟨k,out,q,c4,hh⟩ ⟨y,g,a⟩ i;dsimp only at y g a i ⊢;(have an:out.length≤k:=by{rw[a,Dc,Dc,CF];omega});by_cases f:k<l3.length
 ·have a1:=hs9.addrD f;have c1:=(hs9.cellsD AS f).le g;have v:=BY AS (xs:=l3) rfl f;generalize l3.getD k AS=p at *;(repeat'(first|refine AH ?_|refine Z Bf ?_|refine Z BN ?_|(refine Aj ?_;intro b)|(refine Ac ?_;first|(refine rO ?_;intro ae w aa hs5)|(refine sH ?_;intro A5 c5))|(refine Y ?_ ?_<;>intro hc<;>try omega)|fail))
  all_goals first
   |omega
   |(
      have h3:=i (k+1,out++[p.2.ru],A5,c5,w) ⟨Ah,g.trans aa,by dsimp only;rw[a,v];simp[Ae]⟩ Ah
      dsimp only at h3
      rw[Bt]at h3
      refine AB Af Ad h3)
 ·rw[By J,hf3]at a;clear i;refine EE (enc:=DH) (e:=61) (sz:=17) (n:=out.length) (xs:=out) (λ_=>rfl) rfl Bh ?_;intro ab c7 ag ai s al hs7;cases s;(repeat'(first|refine Aa ?_|(refine Y ?_ ?_<;>intro hc<;>try omega)|fail))
  all_goals first
   |omega
   |(exact BL rfl rfl rfl ⟨q,c4,out,rfl,hs7,a,J⟩)
end Go.Hw
namespace Go.Hw
open Go
def fS {C:Bu}{ds:CL}{l:AW}{Es Es':Am}{h:U}{ops:Dm}{os:Hc}{K:CB}{b:Nat}{e:TypeId}{cs:Ao}(hT:C' Es (Ap b e cs) Es')
  (g:∀h',V h h'→Au h' (Av b) cs→Bz C ds l Es' h' ops os K):Bz C ds l Es h ops os K:=
 Ac9 hT λD h' c a=>g h' c (SA a.2)
def App (w:World)(b k:Nat){a:Dx}{e:TypeId}(c:w.heap[b]?=some (.cells a e (0,0))):(w.freeze ⟨b,k,none⟩ 1).heap[b]?=some (.cells a e (k,k+1)):=by unfold World.freeze;rw[if_neg BO];show(w.heap.modify b _)[b]?=_;rw[Is,if_pos rfl,c];rfl
def Azw (w:World)(b k i:Nat)(h:i≠b):(w.freeze ⟨b,k,none⟩ 1).heap[i]?=w.heap[i]?:=by unfold World.freeze;rw[if_neg BO];show(w.heap.modify b _)[i]?=_;rw[Is,if_neg (λe=>h e.symm)]
def Adu (w:World)(b k:Nat):(w.freeze ⟨b,k,none⟩ 1).heap.size=w.heap.size:=by unfold World.freeze;rw[if_neg BO];exact Array.size_modify
section
variable {C:Bu} {l:AW} {Es:Am} {h:U} {G:Value→Am→U→Prop} {ty:TypeId} {pos:String} {aft:Cw} {gd:Cq} {dst:CK}
def ZP {t e:TypeId}{x:Operand}{b n c:Nat}{xs:Ao}{Es':Am}{T k:Ay}(hT:AM t C.ts=some T)(ak:T.desc=.slice e)(ai:AM e C.ts=some k)(aj:k.desc=.int .u8)(hx:AJ l x=some (.slice (some (Av b)) n c))
  (p:Ei Es (Ar e 1 (.slice (some (Av b)) n c) n xs) (Cm true e (.slice (some (Av b)) n c) n xs) Es')
  (g:G (.slice (some (Av b)) n c) Es' h):Cd C l Es h ⟨dst,.convert t t x,ty,pos,aft,gd⟩ G:=by
 intro a w hs hp
 obtain⟨ar,v,s⟩:=C.ok.und hT
 rw[ak]at s;rw[Ho s]at v
 obtain⟨j,y,u⟩:=C.ok.und ai
 rw[aj]at u;rw[Nk u]at y
 obtain⟨au,an,am,a0⟩:=hp.own
 obtain⟨D,ae,ay,a1,_⟩:=p.own an am
 obtain⟨z,hr⟩:=ae
 rcases hr with⟨h0,_⟩|⟨aw,av,f,h2,h3,ab,ac,ad,m,o⟩
 · cases h0
 · injection h2 with h2 _ aa
   injection h2 with h2;injection h2 with h2
   subst h2;subst aa
   have r:w.heap[b]?=some (.cells f e (0,0)):=ab
   have ap:w.shape? b=some (e,f.size):=by unfold World.shape?;rw[r]
   have ao:(convert t t (.slice (some (Av b)) n c)).run C.P w=.ok (.slice (some (Av b)) n c) (w.freeze ⟨b,f.size,none⟩ 1):=by
    simp[convert,run_underlying v,run_underlying y,markStringish,ap]
   refine .inl ⟨_,w.freeze ⟨b,f.size,none⟩ 1,Es',h,by simp only[execOp,hs.eval hx,BK,ao,B',CV],?_,g⟩
   refine hp.repl p rfl rfl rfl (by rw[Adu];exact BU _) λj af az ah=>?_
   have ag:j=[b]:=by
    rcases af.2 with⟨q,_⟩|⟨ax,_,_,d,aq,_⟩
    · cases q
    · injection d with d _ _;injection d with d;injection d with d;rw[aq,d]
   subst ag
   rw[Gy]at m o z
   refine⟨[b],⟨z,.inr ⟨b,c,f,_,rfl,rfl,App w b f.size r,.inr ⟨rfl,.inl Ah⟩,ac,ad,m,o⟩⟩,An,λq hq=>⟨.inl hq,by rw[Adu];exact ah q hq⟩,λi hi al=>Azw w b _ i λe=>al MS⟩
def Auc {f:Bool}{P:Program}{e t ty:TypeId}{i:TypeInfo}(k:P.underlying t=some (.slice e))(hi:P.info? e=some i)(y:i.zero=some (.int .u8 0))(hs1:i.size=1)(hb1:i.bytes=1)
  {v:Value} {n m c:Nat} {xs:Ao} {s:Bj} {D:BD} {w:World} (p:(Cm f e v n xs).holds D (mem w)) {h:Addr} (hm:s.length=m) (hc:∀j u,(s.flatMap BZ)[j]?=some u→w.cell? (h.add j)=some u) (ac:n+m≤1000000000) :
  ∃z a,(Builtin.append_ #[t,t] ty #[v,.slice (some h) m c]).run P w=.ok z a∧a.os=w.os∧a.tape=w.tape∧a.output=w.output∧w.heap.size≤a.heap.size∧
   ∃l,(Cm f e z (n+m) (xs++s.flatMap BZ)).holds l (mem a)∧l.Nodup∧(∀b∈l,(b∈D∨w.heap.size≤b)∧b<a.heap.size)∧∀i,i<w.heap.size→i∉D→a.heap[i]?=w.heap[i]?:=by
 have d:(s.flatMap BZ).length=m:=by rw[Hp (sz:=1) (λ_=>rfl),Gy,hm]
 have ag:∀u∈s.flatMap BZ,u.oneCell'=true:=λu ai=>by
  obtain⟨x,_,hx⟩:=GJ.1 ai
  have:u=.int .u8 x.toNat:=by simpa[BZ]using hx
  rw[this];rfl
 have aj:xs.length=n:=p.1
 have hf:=run_firstCells_some (P:=P) (w:=w) 1 m h m c (s.flatMap BZ) (by rw[d,Gy]) hc
 refine yQ p d ac ?_ ?_ ?_ ?_
 · intro g o aa ab hv hg ae ah q
   subst hv
   have r:=eX P g n e ab (s.flatMap BZ) 0 aa w hg ae (by rw[d]at q ⊢;simpa using q) ag
   simp only[Sg,d]at r
   simp[Builtin.append_,run_underlying k,sizeOf,typeInfo,hi,hs1,Builtin.lenOf,ah,hf,Addr.add_lit,r]
 · intro b o hv ad af
   subst hv
   exact run_append_grow (P:=P) w t ty e i (.int .u8 0) k hi y b n o xs (by rw[hs1,aj,Gy]) ad h m c (s.flatMap BZ) (by rw[hs1,d,Gy]) hc af J (by rw[hb1];exact growslice_fits J J)
 · intro hv h0
   subst hv
   have hn:s.flatMap BZ=[]:=Fu J
   rw[hn]at hf
   subst h0
   simp[Builtin.append_,run_underlying k,sizeOf,typeInfo,hi,hs1,Builtin.lenOf,hf]
 · intro hv h0
   subst hv
   exact run_append_nil (P:=P) w t ty e i (.int .u8 0) k hi y h m c (s.flatMap BZ) (by rw[hs1,d,Gy]) hc h0 J (by rw[hb1];omega)
def UE {f:Bool}{t e:TypeId}{x y:Operand}{v:Value}{n m c:Nat}{xs:Ao}{s:Bj}{A:At}{T d:Ay}{Es':Value→Am}(hT:AM t C.ts=some T)(am:T.desc=.slice e)(ai:AM e C.ts=some d)(al:d.zero=.int .u8 0)(ak:d.size=1)(aj:d.bytes=1)
  (hx:AJ l x=some v) (hy:AJ l y=some (.slice A m c)) (hsl:Ai BZ 1 h A m s) (hm:0<m) (r:∀o,Ei Es (Cm f e v n xs) (Cm f e o (n+m) (xs++s.flatMap BZ)) (Es' o)) (af:n+m≤1000000000)
  (g:∀A c,G (.slice A (n+m) c) (Es' (.slice A (n+m) c)) h):Cd C l Es h ⟨dst,.call ⟨.builtin .append,#[x,y],#[t,t]⟩,ty,pos,aft,gd⟩ G:=λa w hs hp=>by
 obtain⟨i,hi,an,ao,ap⟩:=C.ok.info ai
 obtain⟨aw,ab,z⟩:=C.ok.und hT
 rw[am]at z;rw[Ho z]at ab
 obtain⟨ay,rfl⟩:=hsl.addr hm
 obtain⟨ax,ar,aq,a1⟩:=hp.own
 obtain⟨D,p,a0,a2,_⟩:=(r v).own ar aq
 obtain⟨o,au,aa,h1,h2,h3,ae,q⟩:=Auc (P:=C.P) (ty:=ty) (c:=c) ab hi (by rw[ap,al]) (by rw[an,ak]) (by rw[ao,aj]) p hsl.len (λj u e=>by rw[Ps];exact Ph hp.ro (hsl.flat (λ_=>rfl) j u e)) af
 obtain⟨av,ah,_⟩:=id q
 obtain⟨A',ad,rfl⟩:=gR ah
 refine .inl ⟨_,au,Es' _,h,?_,?_,g A' ad⟩
 · simp only[execOp,resolve,invoke,builtin,BK,CV,B',QM,CW,Jv,hs.eval hx,hs.eval hy,aa]
 · refine hp.repl (r _) h1 h2 h3 ae (hdr:=Io _ aa) λac ag _ _=>?_
   have:ac=D:=by
    rcases ag.2 with⟨e1,_,e2⟩|⟨g1,_,_,_,e1,e2,_⟩<;>rcases p.2 with⟨b,_,k⟩|⟨az,_,_,_,b,k,_⟩
    · rw[e2,k]
    · rw[e1]at b;cases b
    · rw[e1]at b;cases b
    · rw[e1]at b;injection b with b _;injection b with b;injection b with b;rw[e2,k,b]
   rw[this];exact q
end
end Go.Hw
set_option maxHeartbeats 4000000
namespace Go.Hw
open Go
attribute [local irreducible] AI Bz BV Aq AP Az Au CH Ap Ar BG Cm BP
open Go.Proofs.Tryz (prog)
end Go.Hw
set_option maxHeartbeats 40000000
namespace Go.Hw
open Go
attribute [local irreducible] AI Bz BV Aq AP Az Au CH Ap Ar BG Cm BP SR XZ
open Go.Proofs.Tryz (prog)
end Go.Hw
set_option maxHeartbeats 4000000
namespace Go.Hw
open Go
open Go.Proofs.Tryz (prog)
attribute [local irreducible] AI Bz BV Aq AP Az Au CH Ap Ar BG Cm BP SR
end Go.Hw
set_option maxHeartbeats 40000000
namespace Go.Hw
open Go
attribute [local irreducible] AI Bz BV Aq AP Az Au CH Ap Ar BG Cm BP SR SW Ro SX Ti VH
open Go.Proofs.Tryz (prog)
end Go.Hw
set_option maxHeartbeats 8000000
namespace Go.Hw
open Go
attribute [local irreducible] AI Bz BV Aq AP Az Au CH Ap Ar BG Cm BP Ze
open Go.Proofs.Tryz (prog)
def Rk (f:Al):Bj:=Arf [102,97,99,116] (Ev f)
end Go.Hw
namespace Go.Hw
open Go
attribute [local irreducible] AI Bz BV Aq AP Az Au CH Ap Ar BG Cm BP Dg
open Go.Proofs.Tryz (prog)
open Classical in
noncomputable def A1j (l:Ax) (k:Int):Ax×Int:=if VB l≠0 then([],VB l)else if¬(0≤k∧k≤1048576)then([],1)else(An1 l k,0)
attribute [local irreducible] Rk
abbrev Acr:Type:={d:List UInt8 // d.length=32}
def kU (d:Bj):Acr:=if h:d.length=32 then⟨d,h⟩else⟨List.replicate 32 0,rfl⟩
def Aey (l:AN):List (Acr×Bool):=l.foldl (λm p=>if p.2.kind=8 then Dk (kU p.2.void) true m else m) []
open Classical in
noncomputable def A1h (l:Ax) (day known:Int):Ax×Int:=if VB l≠0 then([],VB l)else if¬(0≤day∧day≤1048576)∨¬(0≤known∧known≤1048576)then([],1)else(Ae1 Rk l day known,0)
open Classical in
noncomputable def Ae0 (l:AN) (day known:Int) (x:AN):AN:=x.filter λp=>decide (Aaa Rk (Ae l) day known p.2)
attribute [local irreducible] Aey Ae0 kU
end Go.Hw
namespace Go.Hw
open Go
attribute [local irreducible] AI Bz BV Aq AP Az Au CH Ap Ar BG Cm BP Dg Rk
open Go.Proofs.Tryz (prog)
section
variable {C:Bu} {l:AW} {h:U} {ty t ty':TypeId} {pos:String} {aft:Cw} {gd:Cq} {dst:CK} {x y:Operand} {T:Ay}
end
def Cz.len {h:U}{A:At}{n:Nat}{l:AN}(a:Cz h A n l):(Ae l).length=n:=by unfold Ae;rw[Dc];exact a.row.len
def Rr {h:U}{l:AN}(hf:∀p∈l,Cr h p.1 p.2∧Eu p.2):D' (Ae l):=λf hf2=>by
 obtain⟨p,hp,rfl⟩:=CZ.1 hf2
 exact(hf p hp).1.void
end Go.Hw
namespace Go.Hw
open Go
def Pp (h:U) (A:At) (k c:Nat) (l:AN) (L:Ax):Prop:=k≤c∧Nu h A k l∧Ae l=L
def Pp.le {h h':U}{A:At}{k c:Nat}{l:AN}{L:Ax}(a:Pp h A k c l L)(b:V h h'):Pp h' A k c l L:=⟨a.1,a.2.1.le b,a.2.2⟩
def Ap3 {l r:AN}(hs:∀p∈r,p∈l):∀f∈Ae r,f∈Ae l:=λf hf=>by
 obtain⟨p,hp,rfl⟩:=CZ.1 hf
 exact CZ.2 ⟨p,hs p hp,rfl⟩
end Go.Hw