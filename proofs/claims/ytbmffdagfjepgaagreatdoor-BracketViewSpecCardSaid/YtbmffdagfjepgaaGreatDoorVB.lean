import Derived.Test.YtbmffdagfjepgaaGreatDoorVA
set_option linter.all false
set_option maxRecDepth 100000
set_option maxHeartbeats 8000000
namespace Go.Hw
open Go
attribute [local irreducible] AI Bz BV Aq AP Az Au CH Ap Ar BG Cm BP Dg El Lh
open Go.Proofs.Tryz
structure KA (h:U) (C:Ax) (bs:EI):Prop where
 nums:bs.map (·.num)=EB C
 at_:∀x∈bs,Fq h x
 rs:∀x∈bs,Ae x.rs=C.filter fun f=>decide (CI x.num f)
 sus:∀x∈bs,∀i,i<4→(x.s.getD i false=true↔NM C x.num i)
 small:bs.length≤1000000
 sum:(bs.map fun x=>x.rs.length).sum≤1000000
 ok:∀f∈C,BT f
def KA.le {h h':U}{C:Ax}{b:EI}(a:KA h C b)(c:V h h'):KA h' C b:=⟨a.nums,λx hx=>(a.at_ x hx).le c,a.rs,a.sus,a.small,a.sum,a.ok⟩
open Classical in
noncomputable def KW (l:AN):AN:=l.filter λp=>decide (LK p.2∧BT p.2)
open Classical in
theorem Ayn (l:AN)(p:AA×Al):KW (l++[p])=if LK p.2∧BT p.2 then KW l++[p]else KW l:=by unfold KW;rw[Gl];by_cases h:LK p.2∧BT p.2<;>simp[h]
open Classical in
theorem Ul {l:AN}{p:AA×Al}:p∈KW l↔p∈l∧LK p.2∧BT p.2:=by unfold KW;rw[DQ,decide_eq_true_eq]
def Az7 {l:AN}(a:D' (Ae l)):BR (Ae (KW l))=IM (BR (Ae l)):=by rw[←Atr a];refine Ats (λf hf=>?_) (λf hf=>a f (DQ.1 hf).1) λx hx=>?_;{obtain⟨p,hp,rfl⟩:=CZ.1 hf;exact a _ (Uw (Ul.1 hp).1)};{unfold IM Ae;rw[DQ,CZ,CZ];constructor;{rintro⟨p,hp,rfl⟩;have:=Ul.1 hp;exact⟨⟨p,this.1,rfl⟩,decide_eq_true this.2.1⟩};{rintro⟨⟨p,hp,rfl⟩,b⟩;exact⟨p,Ul.2 ⟨hp,of_decide_eq_true b,hx⟩,rfl⟩}}
def Ayg:∀{R:EI} {c r2:List (Int×Nat)} {q:Int×Nat},Ec R=c++q::r2→∃a y b,R=a++y::b∧c=Ec a∧q=(y.num,y.b)∧r2=Ec b:=λ{R c r2 q} h=>by
 unfold Ec at *
 obtain⟨a,t,e1,e2,d⟩:=Ayw.1 h
 obtain⟨y,b,e,f,g⟩:=List.map_eq_cons_iff.1 d
 exact⟨a,y,b,by rw[e1,e],e2.symm,f.symm,g.symm⟩
def Au0 {fs:EI}{D:BD}{m:U}(h:(El (fs.flatMap HX)).holds D m):∀x∈fs,Au m (Av x.b) (Jl x)∧Ai BM 82 m x.A x.rs.length x.rs:=λx hx=>by
 have h1:=El.each h
 obtain⟨b,a1⟩:=h1 (Ap x.b 295 (Jl x)) (GJ.2 ⟨x,hx,An⟩)
 obtain⟨d,a2⟩:=h1 (Ar 71 82 (.slice x.A x.rs.length x.c) x.rs.length (x.rs.flatMap BM)) (GJ.2 ⟨x,hx,An⟩)
 obtain⟨A,c,e1,_,a⟩:=QS Gv rfl a2
 injection e1 with e1 _ _
 subst e1
 unfold Ap at a1
 exact⟨SA a1.2,a⟩
def Hm.nums_len {C:AN}{fs:EI}(h:Hm C fs){x:DC}(hx:x∈fs):x.rs.length≤C.length:=by rw[h.rs x hx];exact Pn _ _
def IH (x:DC):Bool:=!x.rs.isEmpty
def jW {x:DC}:IH x=true↔0<x.rs.length:=by unfold IH;cases x.rs<;>simp
def Apy {h:U}{zs:AN}{C:Ax}{fs ys:EI}(d:Ae zs=IM C)(hi:Hm zs fs)(hp:ys.Perm (fs.filter IH))(hs:ys.Pairwise λx y=>x.num<y.num)(l:∀f∈C,BT f)(hn:zs.length≤1000000)(g:∀x∈fs,Fq h x)(j:fs.length≤1000000):KA h C ys where
 nums:=by
  have:=Ayf hi hp (hs.imp λ{a b} q=>eZ q)
  rw[this,d,Atk]
 at_ x hx:=g x (DQ.1 (hp.mem_iff.1 hx)).1
 rs x hx:=by
  have h1:=hi.rs x (DQ.1 (hp.mem_iff.1 hx)).1
  rw[h1]
  have h2:Ae (zs.filter λp=>decide (CI x.num p.2))=(Ae zs).filter λf=>decide (CI x.num f):=by unfold Ae;rw[Sq];rfl
  rw[h2,d]
  unfold IM
  rw[eO]
  refine eP λf _=>?_
  by_cases c:CI x.num f
  · simp[c,c.k45]
  · simp[c]
 sus x hx i e:=by
  rw[hi.sus x (DQ.1 (hp.mem_iff.1 hx)).1 i e,d]
  unfold NM IM
  exact⟨λ⟨f,hf,q⟩=>⟨f,(DQ.1 hf).1,q⟩,λ⟨f,hf,q⟩=>⟨f,DQ.2 ⟨hf,decide_eq_true (.inr q.1)⟩,q⟩⟩
 small:=by
  rw[hp.length_eq]
  exact Gj (Pn _ _) j
 sum:=by
  have e1:(ys.map λx=>x.rs.length)=(ys.map (·.num)).map λn=>(zs.filter λp=>decide (CI n p.2)).length:=by
   rw[Nc]
   refine xF λx hx=>?_
   show x.rs.length=_
   rw[hi.rs x (DQ.1 (hp.mem_iff.1 hx)).1];rfl
  have k:(ys.map (·.num)).Nodup:=(hs.imp λ{a b} q=>Int.ne_of_lt q) |>Og.2
  rw[e1]
  exact Gj (zP k zs) hn
 ok:=l
attribute [local irreducible] KW Ec IH
def yV (pre post:EI)(x y:DC)(hn:y.num=x.num)(a:y.b=x.b):Ec (pre++y::post)=Ec (pre++x::post):=by unfold Ec;simp[hn,a]
def Apv:Ec []=[]:=by unfold Ec;rfl
def Ap0 (x:DC)(j:Nat):(Jl x).set (2+j) (.bool true)=Jl ⟨x.b,x.num,x.A,x.c,x.rs,x.s.set j true⟩:=by show(Value.int .i64 x.num::Value.slice x.A x.rs.length x.c::x.s.map .bool).set (2+j) _=Value.int .i64 x.num::Value.slice x.A x.rs.length x.c::(x.s.set j true).map .bool;rw[show 2+j=j+1+1 by omega,eF,eF,List.map_set]
open Classical in
theorem Avz (l:AN):(KW l).length≤l.length:=by unfold KW;exact Pn _ _
def Ae6:KW []=[]:=by unfold KW;rfl
def yU (a b:EI):Ec (a++b)=Ec a++Ec b:=by unfold Ec;rw[DI]
def Apu {a:EI}(h:Ec a=[]):a=[]:=by unfold Ec at h;exact List.map_eq_nil_iff.1 h
def Ali {out a b T:EI}{y:DC}(h:(out++(a++y::b).filter IH).Perm T)(hy:IH y=true):((out++[y])++(a++b).filter IH).Perm T:=by refine List.Perm.trans ?_ h;simp only[Gl,Ky,hy,if_true,Ck,eE];exact eR _ List.perm_middle.symm
def Alj {out a b T:EI}{y:DC}(h:(out++(a++y::b).filter IH).Perm T)(hy:IH y=false):(out++(a++b).filter IH).Perm T:=by simpa only[Gl,Ky,hy,Ir,if_false]using h
def Awo {C:Bu}{l:AW}{Es Es':Am}{h:U}{G:Value→Am→U→Prop}{ty:TypeId}{pos:String}{aft:Cw}{gd:Cq}{t e:TypeId}{x y:Operand}{b n:Nat}{v:Value}{cs cs':Ao}{T:Ay}
  (hT:AM t C.ts=some T) (hx:AJ l x=some (.pointer (some (((Av b):Addr).add n)))) (hy:AJ l y=some v) (a:Ei Es (Ap b e cs) (Ap b e cs') Es') (hp:BX v=[v]) (hn:n<cs.length) (hc:cs'=cs.set n v)
  (c:T.size=1) (h1:Ly [v]=true) (g:G undef Es' h):Cd C l Es h ⟨none,.store t x y,ty,pos,aft,gd⟩ G:=
 Mm (off:=n) (cs':=cs') hT (by rw[hx,GC,Dy]) hy a (by rw[hp,gH _ _ _ hn,hc]) (by rw[hp,c];rfl) (by rw[hp];exact h1) g
def Apz (h:U)(hG:DG h)(A:At)(n c:Nat)(l:AN)(hx:Cz h A n l):Az prog 216 #[.slice A n c] h (λu h'=>∃A' bx ak,u=.slice A' ak.length bx∧Ai HI 1 h' A' ak.length ak∧KA h' (BR (Ae l)) ak):=by
 refine BB func216 λ_ _=>?_;have bl:=hx.row.len;have hn:=hx.small;(have bf:D' (Ae l):=λf hf=>by{obtain⟨p,hp,rfl⟩:=CZ.1 hf;exact(hx.fat p hp).1.void});refine FN 71 82 ?_;(repeat'(first|refine Aa ?_|fail));refine Bg (X:=Nat×AN×At×Nat×U) (λx=>x.1≤n∧V h x.2.2.2.2∧x.2.1=KW (l.take x.1)) (λx=>n-x.1) (λx=>[(16,O x.1),(15,O n),(14,.slice A n c),(3,.slice x.2.2.1 x.2.1.length x.2.2.2.1)]) (λx=>[Ar 71 82 (.slice x.2.2.1 x.2.1.length x.2.2.2.1) x.2.1.length (x.2.1.flatMap BM)]) (λx=>x.2.2.2.2) (0,[],none,0,h) ⟨Ah,V.refl _,by rw[Ia,Ae6]⟩ Af Ad rfl ?_;rintro⟨k,out,bt,c4,hh⟩ ⟨a2,ag,ab⟩ s;dsimp only at a2 ag ab s ⊢;(have dr:out.length≤k:=by{have:=Avz (l.take k);rw[←ab,CF]at this;omega});by_cases a4:k<n
 ·have a1:=hx.row.addrD a4;have c1:=(hx.row.cellsD AS a4).le ag;have ad:=BY AS bl a4;have ar:=Ce AS (show k<l.length by omega);have ac:=hx.fat _ ar;generalize l.getD k AS=p at *;have hch:=Ql hh p.1 p.2 (ac.1.le ag) ac.2;have hsn:=Ayn (l.take k) p;rw[←ad,←ab]at hsn;by_cases ae:LK p.2∧BT p.2
  ·rw[if_pos ae]at hsn;rw[if_pos ae.2]at hch;obtain⟨ca,dc⟩:=ae;have am:p.2.kind=4∨p.2.kind=5:=ca;clear hx bl;(repeat'(first|refine AH ?_|refine Z Bf ?_|refine Z BN ?_|(refine Aj ?_;intro b)|(refine Ac ?_;first|(refine RP ?_)|(refine cP ?_;intro bw ax aq hs5)|(refine qZ ?_;intro A5 c5))|(refine Y ?_ ?_<;>intro hc<;>try omega)|refine AF ?_|(refine AG ?_ ?_<;>intro hc<;>try omega)|fail))
   all_goals first
    |omega
    |(
       have h3:=s (k+1,out++[p],A5,c5,ax) ⟨Ah,ag.trans aq,by dsimp only;exact hsn.symm⟩ Ah
       dsimp only at h3
       rw[Bt]at h3
       refine AB Af Ad h3)
  ·rw[if_neg ae]at hsn;have h3:=s (k+1,out,bt,c4,hh) ⟨Ah,ag,by dsimp only;exact hsn.symm⟩ Ah;dsimp only at h3;by_cases am:p.2.kind=4∨p.2.kind=5
   ·rw[if_neg (λq=>ae ⟨am,q⟩)]at hch;(repeat'(first|refine AH ?_|refine Z Bf ?_|refine Z BN ?_|(refine Aj ?_;intro b)|(refine Ac ?_;first|(refine RP ?_))|(refine Y ?_ ?_<;>intro hc<;>try omega)|refine AF ?_|(refine AG ?_ ?_<;>intro hc<;>try omega)|fail))
    all_goals first
     |omega
     |(refine AB Af Ad h3)
   ·have dd:p.2.kind≠4∧p.2.kind≠5:=⟨λq=>am (.inl q),λq=>am (.inr q)⟩;(repeat'(first|refine AH ?_|refine Z Bf ?_|refine Z BN ?_|(refine Aj ?_;intro b)|(refine Y ?_ ?_<;>intro hc<;>try omega)|refine AF ?_|(refine AG ?_ ?_<;>intro hc<;>try omega)|fail))
    all_goals first
     |omega
     |(refine AB Af Ad h3)
 ·rw[By J]at ab;clear s;obtain⟨C,al⟩:∃C,C=BR (Ae l):=⟨_,rfl⟩;(have bj:BR (Ae out)=IM C:=by rw[ab,Az7 bf,al]);have bn:∀f∈C,BT f:=λf hf=>(((Ip (Ae l) bf).2 f).1 (al▸hf)).2;rw[←al];(have a0:∀p∈out,DU h p:=λp hp=>by{rw[ab]at hp;obtain⟨cv,_,cw⟩:=Ul.1 hp;have:=hx.fat p cv;exact⟨this.1,this.2,cw⟩});(have bh:∀p∈out,p.2.kind=4∨p.2.kind=5:=λp hp=>by{rw[ab]at hp;exact(Ul.1 hp).2.1});refine EE (enc:=BM) (e:=71) (sz:=82) (n:=out.length) (xs:=out) Gv rfl Bh ?_;intro cz c7 b9 de b4 dm hs7;cases b4;have df:V h b9:=Ag;clear ab hx;(repeat'(first|refine AH ?_|(refine Aj ?_;intro b)|(refine Ac ?_;first|(apply Nn JH Dt;intro bm)|(apply Ed;exact F;exact Ab func299;exact Ail _ (hG.le Ag) _ out.length _ out (hs7.le Ag) J (λp hp=>(a0 p hp).le Ag);exact Ad;rintro vs c8 b' dh ⟨bu,b0,zs,rfl,a9,ba,dt,rfl⟩))|(refine Y ?_ ?_<;>intro hc<;>try omega)|fail));generalize b=bF;have cg:V h b':=Ag;refine EE (enc:=BM) (e:=71) (sz:=82) (n:=zs.length) (xs:=zs) Gv rfl Bh ?_;intro c3 c' ay ch b5 dn a7;cases b5;have dg:V h ay:=cg.trans ch;have a':∀p∈zs,DU h p:=λp hp=>a0 p (ba p hp);have bo:∀p∈zs,p.2.kind=4∨p.2.kind=5:=λp hp=>bh p (ba p hp);(have bp:zs.length≤1000000:=by omega);rw[bj]at a9;clear a0 bh ba bj hs7 al;refine A0i ?_;rw[show([]:List (Int×Nat))=Ec []from Apv.symm];refine Bg (X:=Nat×EI×U) (λx=>x.1≤zs.length∧V ay x.2.2∧Hm (zs.take x.1) x.2.1∧x.2.1.length≤x.1) (λx=>zs.length-x.1) (λx=>[(43,O x.1),(42,O zs.length),(41,.slice bu zs.length b0),(7,.func (.func 298) #[] #[Dt bF]),(6,Dt bF)]) (λx=>[Ap bF 292 [.map (some bm)],BG JH Dt bm (Ec x.2.1),El (x.2.1.flatMap HX)]) (λx=>x.2.2) (0,[],ay) ⟨Ah,V.refl _,Hm.nil,BU _⟩ Af Ad rfl ?_;rintro⟨i,fs,hq⟩ ⟨hi,ah,t,cb⟩ s;dsimp only at hi ah t cb s ⊢;by_cases ao:i<zs.length
  ·have a1:=a7.addrD ao;have c1:=(a7.cellsD AS ao).le ah;have ad:=BY AS (xs:=zs) rfl ao;have ar:=Ce AS ao;have cn:=a' _ ar;have cm:=bo _ ar;generalize zs.getD i AS=p at *
   have an:∀pre (x:DC) post nn,((pre++x::post=fs)∨(∃b,pre=fs∧post=[]∧x=Oy b nn∧∀y∈fs,y.num≠nn))→Hm (zs.take i) (pre++x::post)∧(pre++x::post).length≤i+1∧x.rs.length≤i:=by
    intro pre x post nn hor
    have h1:Hm (zs.take i) (pre++x::post)∧(pre++x::post).length≤i+1:=by
     rcases hor with e|⟨b,e1,e2,b2,b3⟩;{rw[e];exact⟨t,J⟩};{subst e1;subst e2;subst b2;exact⟨t.get b3,FC⟩}
    refine⟨h1.1,h1.2,?_⟩;have:=h1.1.nums_len (x:=x) An;rw[CF]at this;omega
   by_cases bk:p.2.kind=4
   ·(repeat'(first|refine AH ?_|refine Z E' ?_|refine Z BN ?_|(refine Aj ?_;intro b)|(refine Ac ?_;first|(refine pI ?_;rintro vg bv h2 ap ⟨pre,⟨d,o,r,cx,rs,a⟩,post,rfl,a5,hor,rfl⟩))|(apply AU (n:=15) 11 [0,1,2,3,4,5,99,6,7,99,8,9,99,10];kernel_rfl)|(refine Bn ?_;first|(refine cP ?_;intro bw ax aq hs5;refine⟨aq,Ak,?_⟩)|(apply CE (enc:=BM) (xs:=rs);(iterate 7 exact F);exact hs5;exact Gv;exact Uh;intro v1;exact Bp;(have cy:rs.length≤i:=(an _ _ _ _ hor).2.2;exact Gj (Nat.add_le_add_right cy 1) J);exact F;intro A5 c5;refine⟨V.refl _,Ak,?_⟩)|(apply Awo (b:=d) (n:=1) (cs:=Jl ⟨d,o,r,cx,rs,a⟩) (cs':=Jl ⟨d,o,A5,c5,rs++[p],a⟩) (e:=295);(iterate 3 exact F);exact Bp;exact F;(show 1<(a.map Value.bool).length+1+1;omega);(show(Value.int .i64 o::Value.slice A5 (rs++[p]).length c5::a.map Value.bool)=Value.int .i64 o::Value.slice A5 (rs.length+1) c5::a.map Value.bool;rw[Bt];rfl);exact F;exact F;refine⟨V.refl _,Ak,?_⟩))|(refine Y ?_ ?_<;>intro hc<;>try omega)|fail))
    all_goals
     have af:=an _ _ _ _ hor
     have b6:rs.length+1=(rs++[p]).length:=by simp
     refine EF (Es':=[El (pre.flatMap HX++post.flatMap HX),Ap d 295 (Jl ⟨d,o,A5,c5,rs++[p],a⟩),Ar 71 82 (.slice A5 (rs.length+1) c5) (rs.length+1) ((rs++[p]).flatMap BM),Ap bF 292 [.map (some bm)],BG JH Dt bm (Ec (pre++⟨d,o,r,cx,rs,a⟩::post))]) Ad ?_
     rw[b6,←yV pre post ⟨d,o,r,cx,rs,a⟩ ⟨d,o,A5,c5,rs++[p],a⟩ rfl rfl]
     refine Ab5 (g:=HX) (pre:=pre) (post:=post) (y:=⟨d,o,A5,c5,rs++[p],a⟩) rfl Ad ?_
     have h3:=s (i+1,pre++⟨d,o,A5,c5,rs++[p],a⟩::post,ax) ⟨Ah,ah.trans (ap.trans aq),by dsimp only;rw[ad];exact af.1.ruling bk a5 A5 c5,by
      have:=af.2.1
      simp only[Bt,Do]at this ⊢
      omega⟩ Ah
     dsimp only at h3
     refine AB Af Ad h3
   ·have a3:p.2.kind=5:=cm.resolve_left bk;cases au:p.2.aSusp with
    |false=>
     have h3:=s (i+1,fs,hq) ⟨Ah,ah,by dsimp only;rw[ad];exact t.nop a3 au,Ah⟩ Ah;dsimp only at h3;(repeat'(first|refine AH ?_|refine Z E' ?_|refine Z BN ?_|(refine Aj ?_;intro b)|(apply AU (n:=17) 12 [0,1,2,3,5,6,7,99,4,99,8,9,10,99,11];kernel_rfl)|(refine Y ?_ ?_<;>intro hc<;>try omega)|fail))
     all_goals first
      |omega
      |(exfalso;exact absurd (hc.symm.trans au) BO)
      |(refine AB Af Ad h3)
    |true=>
     (obtain⟨j,hj,cd⟩:∃j:Nat,p.2.aInst=(j:Int)∧j<4:=by{have bg:=cn.2.2.2.2.1;unfold EW at bg;rw[if_neg J,if_neg J,if_neg J,if_neg J,if_pos a3]at bg;exact⟨p.2.aInst.toNat,J,J⟩});(repeat'(first|refine AH ?_|refine Z E' ?_|refine Z BN ?_|(refine Aj ?_;intro b)|(apply AU (n:=17) 12 [0,1,2,3,5,6,7,99,4,99,8,9,10,99,11];kernel_rfl)|(apply Be;exact Bd;(apply KB (j:=j);(iterate 5 exact F);exact hj;omega);exact AX)|(refine Bn ?_;first|(refine pI ?_;rintro vg bv h2 ap ⟨pre,⟨d,o,r,cx,rs,a⟩,post,rfl,a5,hor,rfl⟩;refine⟨ap,Ak,?_⟩)|(apply Awp (b:=d) (n:=2) (j:=j) (cs:=Jl ⟨d,o,r,cx,rs,a⟩) (cs':=Jl ⟨d,o,r,cx,rs,a.set j true⟩) (e:=295);(iterate 3 exact F);exact Bp;exact F;(have du:a.length=4:=(an _ _ _ _ hor).1.len ⟨d,o,r,cx,rs,a⟩ An;show 2+j<(a.map Value.bool).length+1+1;rw[Dc];omega);exact(Ap0 ⟨d,o,r,cx,rs,a⟩ j).symm;exact F;exact F;refine⟨V.refl _,Ak,?_⟩))|(refine Y ?_ ?_<;>intro hc<;>try omega)|fail));(all_goals(try(exfalso;exact absurd (hc.symm.trans au) BO)))
     all_goals
      have af:=an _ _ _ _ hor
      refine EF (Es':=[El (pre.flatMap HX++post.flatMap HX),Ap d 295 (Jl ⟨d,o,r,cx,rs,a.set j true⟩),Ar 71 82 (.slice r rs.length cx) rs.length (rs.flatMap BM),Ap bF 292 [.map (some bm)],BG JH Dt bm (Ec (pre++⟨d,o,r,cx,rs,a⟩::post))]) Ad ?_
      rw[←yV pre post ⟨d,o,r,cx,rs,a⟩ ⟨d,o,r,cx,rs,a.set j true⟩ rfl rfl]
      refine Ab5 (g:=HX) (pre:=pre) (post:=post) (y:=⟨d,o,r,cx,rs,a.set j true⟩) rfl Ad ?_
      have h3:=s (i+1,pre++⟨d,o,r,cx,rs,a.set j true⟩::post,h2) ⟨Ah,ah.trans ap,by dsimp only;rw[ad];exact af.1.appeal a3 au a5 hj cd,by
       have:=af.2.1
       simp only[Bt,Do]at this ⊢
       omega⟩ Ah
      dsimp only at h3
      refine AB Af Ad h3
  ·rw[By J]at t;clear s;refine Ue (A:=El (fs.flatMap HX)) Bh ?_;intro c6 hr di bi;have az:=Au0 bi;(have cc:fs.length≤1000000:=by omega);have ci:V h hr:=Ag
   have ac:∀x∈fs,Fq hr x:=λx hx=>⟨(az x hx).1,(az x hx).2,λp hp=>by
    rw[t.rs x hx]at hp
    exact(a' p (DQ.1 hp).1).le ci,t.len x hx,Gj (t.nums_len hx) bp⟩
   have hfo:∀{h':U} {ys:EI},V hr h'→ys.Perm (fs.filter IH)→(ys.Pairwise λx y=>x.num<y.num)→KA h' C ys:=λce hp hs=>Apy a9 t hp hs bn bp (λx hx=>(ac x hx).le ce) cc;have cj:=t.nodup;clear bi az a' bo a7 bn a9 t;refine FN 246 1 ?_;(repeat'(first|refine Aa ?_|(refine Ac ?_;first|(apply Abh (ek:=JH) (ev:=Dt);(iterate 3 exact F);intro bb;exact Bp;intro bb))|(refine Y ?_ ?_<;>intro hc<;>try omega)|fail));refine Bg (X:=List DC×EI×Option (Int×Nat)×At×Nat×U) (λx=>V hr x.2.2.2.2.2∧(x.1++x.2.1.filter IH).Perm (fs.filter IH)∧(∀y∈x.2.1,y∈fs)∧x.1.length+x.2.1.length≤fs.length) (λx=>x.2.1.length) (λx=>[(81,AD bb),(11,.slice x.2.2.2.1 x.1.length x.2.2.2.2.1)]) (λx=>[Lh JH Dt bm bb (Ec fs) (Ec x.2.1) x.2.2.1,Ar 246 1 (.slice x.2.2.2.1 x.1.length x.2.2.2.2.1) x.1.length (x.1.flatMap HI)]) (λx=>x.2.2.2.2.2) ([],fs,none,none,0,hr) ⟨V.refl _,.refl _,λ_ h=>h,An⟩ Af Ad rfl ?_;rintro⟨out,rem,da,A6,bz,a2⟩ ⟨hlk,v,av,ai⟩ s;dsimp only at hlk v av ai s ⊢;have cl:∀p∈out,p∈fs:=λp hp=>(DQ.1 (v.mem_iff.1 (AO.2 (.inl hp)))).1;(have ck:(out.map (·.num)).Nodup:=by{have g1:((fs.filter IH).map (·.num)).Nodup:=List.Nodup.sublist (xS _ xM) cj;have be:=(v.map (·.num)).nodup_iff.2 g1;rw[DI]at be;exact(Fm.1 be).1});(repeat'(first|refine Aa ?_|(refine Z (by apply uH (ek:=JH) (ev:=Dt) (b:=bm) (m:=Ec fs) (rem:=Ec bc++Ec bd) (p:=(y.num,y.b));exact F) ?_)|refine Z Cb ?_|(refine Ac ?_;first|(apply yM;exact F;intro dw db;exact Bp;intro a6;rotate_left;intro q dv r2 a6;(obtain⟨bc,y,bd,aa,rfl,rfl,rfl⟩:=Ayg a6);(have ct:y∈fs:=av y (by rw[aa];simp));(have ds:=((ac y ct).le hlk).cells);rotate_left;all_goals skip)|(apply DE (enc:=HI) (n:=1) [y];(iterate 3 exact F);exact Cf _ _;(iterate 4 exact F);exactλ_=>rfl;exact F;exact F;intro b1 h1 cf hs1)|(apply CE (enc:=HI) (xs:=out);(iterate 7 exact F);exact hs1;exactλ_=>rfl;exactλx=>En rfl;intro v1;exact Bp;omega;exact F;intro br c1)|(refine yN (enc:=HI) (e:=246) (sz:=1) (xs:=out) (n:=out.length) (λ_=>rfl) rfl Bh ?_;intro bs c2 aj dl b8 dq cr;cases b8;apply Ed;exact F;exact Ab func300;exact Aik aj _ _ _ out cr J (λp hp=>(ac p (cl p hp)).le Ag) ck;exact Ad;rintro vs c9 hv dj ⟨bq,c0,ys,rfl,aw,cu,rfl⟩))|(refine Y ?_ ?_<;>intro hc<;>try omega)|fail));{have cp:=Apu a6;subst cp;rw[List.filter_nil,DR]at v;refine EE (enc:=HI) (e:=246) (sz:=1) (n:=out.length) (xs:=ys) (λ_=>rfl) aw.length_eq Bh ?_;intro bs c2 hw dk b7 dp cq;cases b7;exact BL rfl rfl rfl ⟨bq,c0,ys,by rw[aw.length_eq],by rw[aw.length_eq];exact cq,hfo Ag (aw.trans v) cu⟩}
   ·have a8:IH y=true:=jW.2 J
    have h3:=s (out++[y],bc++bd,some (y.num,y.b),br,c1,h1) ⟨hlk.trans cf,by dsimp only;rw[aa]at v;exact Ali v a8,λz aj=>av z (by
     rw[aa];rcases AO.1 aj with w|w;{exact AO.2 (.inl w)}
     ·exact AO.2 (.inr (Ey _ w))),by
     rw[aa]at ai;simp only[Bt,Do,Jw]at ai ⊢
     omega⟩ (by rw[aa];simp only[Bt,Do];omega)
    dsimp only at h3;rw[yU,Bt]at h3;refine AB Af Ad h3
   ·(have a8:IH y=false:=by{cases co:IH y with|false=>rfl|true=>have:=jW.1 co;omega})
    have h3:=s (out,bc++bd,some (y.num,y.b),A6,bz,a2) ⟨hlk,by dsimp only;rw[aa]at v;exact Alj v a8,λz aj=>av z (by
     rw[aa];rcases AO.1 aj with w|w;{exact AO.2 (.inl w)}
     ·exact AO.2 (.inr (Ey _ w))),by
     rw[aa]at ai;simp only[Bt,Do]at ai ⊢
     omega⟩ (by rw[aa];simp only[Bt,Do];omega)
    dsimp only at h3;rw[yU]at h3;refine AB Af Ad h3
end Go.Hw