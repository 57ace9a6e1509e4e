import Derived.Test.YtbmffdagfjepgaaGreatDoorVE
set_option linter.all false
set_option maxRecDepth 100000
set_option maxHeartbeats 8000000
namespace Go.Hw
open Go
attribute [local irreducible] AI Bz BV Aq AP Az Au CH Ap Ar BG Cm BP Dg El Ek Fl Ex EV Hj
open Go.Proofs.Tryz
def Ao6 (h:U)(A:At)(n c:Nat)(l:List Cu)(hx:Ai DH 17 h A n l)(hn:n≤1000000)(f:FuncId)(fs cs:Ao)(p:Cu→Bool)(hh:BP prog f)
  (hf:∀x∈l,Aq prog f (fs++[Ew x]++cs).toArray h (.bool (p x))) :
  Aq prog 344 #[.slice A n c,.func (.func f) fs.toArray cs.toArray] h (O (Dz p l 0)):=by
 refine AK func344 λ_ _=>?_
 have e:=hx.len
 repeat'(first|refine Aa ?_|fail)
 refine Bg (X:=Nat) (λk=>k≤n∧Dz p (l.drop k) k=Dz p l 0) (λk=>n-k) (λk=>[(8,O k),(7,O n),(0,.slice A n c),(1,.func (.func f) fs.toArray cs.toArray)]) (λ_=>[]) (λ_=>h) 0 ⟨J,rfl⟩ Af Ad rfl ?_
 rintro k ⟨i,a⟩ g
 by_cases b:k<n
 · have a1:=hx.addrD b
   have c1:=hx.cellsD DB b
   have d:=Lt DB e b
   have hv:=hf _ (Ce DB (show k<l.length by omega))
   generalize l.getD k DB=x at *
   repeat'(first|refine Aa ?_|refine Z Bf ?_|refine Z BN ?_|(refine Ac ?_;first|(refine Qc ?_))|(refine Y ?_ ?_<;>intro hc<;>try omega)|refine Bm ?_|fail)
   · rw[←a,d,Dz,if_pos hc]
   · have h3:=g (k+1) ⟨J,by rw[←a,d,Dz,if_neg NS]⟩ J
     refine AB Af Ad h3
 · repeat'(first|refine Aa ?_|(refine Y ?_ ?_<;>intro hc<;>try omega)|refine Bm ?_|fail)
   rw[←a,show k=l.length by omega,Ok];rfl
def Ar7 (h:U)(A:At)(n c:Nat)(l:List Cu)(hx:Ai DH 17 h A n l)(hn:n≤1000000)(f:FuncId)(fs cs:Ao)(p:Cu→Bool)(hh:BP prog f)
  (hf:∀x∈l,Aq prog f (fs++[Ew x]++cs).toArray h (.bool (p x))) :
  Aq prog 312 #[.slice A n c,.func (.func f) fs.toArray cs.toArray] h (.bool (l.any p)):=by
 refine AK func312 λ_ _=>?_
 repeat'(first|refine Aa ?_|(refine Ac ?_;first|(apply Aw;exact F;exact Ab func344;exact Ao6 _ _ _ _ _ hx hn f fs cs p hh hf))|refine Bm ?_|fail)
 rw[ON];congr 1;rw[Lj,decide_eq_true_eq];exact Sv _ _ _
def Ae9 (h:U)(r:Cu)(b1 b2:Nat)(pl day:Int)(h1:Au h (Av b1) [O pl])(h2:Au h (Av b2) [O day]):Aq prog 314 #[Ew r,AD b1,AD b2] h (.bool (Nz pl day r)):=by refine AK func314 λ_ _=>?_;unfold Nz;(repeat'(first|refine Aa ?_|(refine Z (by apply BA;exact F;exact BH rfl h1 rfl) ?_)|(refine Z (by apply BA;exact F;exact BH rfl h2 rfl) ?_)|(refine Aj ?_;intro b)|refine AF ?_|(refine AG ?_ ?_<;>intro hc<;>try omega)|refine Bm ?_|fail));all_goals(refine Cv ?_;(try rw[GV]);grind)
def Aut (h:U)(hG:DG h)(A:At)(n c:Nat)(l:AN)(hx:Cz h A n l)(pl day:Int):Az prog 227 #[.slice A n c,O pl,O day] h (λu _=>u=.bool (MR (BR (Ae l)) pl day)):=by
 refine BB func227 λ_ _=>?_;have e:MR (BR (Ae l)) pl day=((Ek (BR (Ae l))).map (·.ru)).any (Nz pl day):=rfl;rw[e];obtain⟨L,hL⟩:∃L,L=(Ek (BR (Ae l))).map (·.ru):=⟨_,rfl⟩;have f:=λh' (g:V h h')=>Az1 h' (hG.le g) A n c l (hx.le g);rw[←hL]at f ⊢;clear hL e;(repeat'(first|refine Aa ?_|(refine Aj ?_;intro b)|fail));rename_i d;generalize b=a;refine fS (b:=d) (e:=3) Bh ?_;intro h1 o i;refine fS (b:=a) (e:=3) Bh ?_;intro h2 p j;(repeat'(first|refine Aa ?_|(refine Ac ?_;first|(apply AR;exact F;exact Ab func313;exact f _ Ag;rintro s h3 q ⟨A3,c3,m,rfl,hsl,rfl,k⟩)|(apply Aw;exact F;exact Ab func312;exact Ar7 _ A3 _ c3 m hsl k 314 [] [AD d,AD a] (Nz pl day) (Ab func314) (λr _=>Ae9 _ r d a pl day (i.le Ag) (j.le Ag))))|fail))
 all_goals first
  |((first|(apply BL;(iterate 3 exact F)));rfl)
def Eg (p:AA×Dn):Ao:=O p.2.kind::(LZ p.1 p.2.sh++[O p.2.day])
def QH (p:AA×Dn):(Eg p).length=15:=rfl
def Ee:AA×Dn:=(CP,FL)
instance:Inhabited (AA×Dn):=⟨Ee⟩
def LR (a b:AA×Dn):Int:=HF [BJ a.2.day b.2.day,BJ a.2.sh.g.h b.2.sh.g.h,BJ a.2.sh.g.a b.2.sh.g.a]
def Asi {a b:AA×Dn}:LR a b<0↔Ea a.2 b.2:=by unfold LR Ea;simp only[Ts,show HF []=0 from rfl];unfold BJ;(repeat' split)<;>omega
def Vu (a b:AA×Dn):Go.Proofs.ltOf LR a b=decide (Ea a.2 b.2):=by unfold Go.Proofs.ltOf;rw[decide_eq_decide];exact Asi
def Aia:Go.Sort.SWO (Go.Proofs.ltOf LR) where
 irrefl x:=by rw[Vu];exact decide_eq_false (Ea.irrefl x.2)
 trans x y z h1 h2:=by rw[Vu,decide_eq_true_eq]at *;exact Ea.trans _ _ _ h1 h2
 ntrans x y z h1 h2:=by rw[Vu,decide_eq_false_iff_not]at *;unfold Ea at *;omega
def Arl (h:U)(x y:AA×Dn):Az prog 340 #[.agg (Eg x).toArray,.agg (Eg y).toArray] h (λu _=>u=O (LR x y)):=by refine BB func340 λ_ _=>?_;unfold LR;generalize hor:HF [BJ x.2.day y.2.day,BJ x.2.sh.g.h y.2.sh.g.h,BJ x.2.sh.g.a y.2.sh.g.a]=o at *;(repeat'(first|refine AH ?_|(refine Aj ?_;intro b)|(apply Da (n:=1) [0,1,2,6,7,8,3,4,5,9] [(0,0),(1,0),(2,0),(3,0),(4,0),(5,0),(6,2),(3,7),(7,1),(8,1),(9,1),(6,1),(8,1),(9,1)];kernel_rfl)|(apply AU (n:=2) 18 [0,1,2,3,5,6,7,8,10,11,12,13,99,4,9,14,15,16,99,17];kernel_rfl)|(refine Bn ?_;first|(apply Aw;exact F;exact Ab func55;exact Ru _ _ _;refine⟨V.refl _,Ak,?_⟩)|(apply HQ (e:=3) (cs:=[BJ x.2.day y.2.day,BJ x.2.sh.g.h y.2.sh.g.h,BJ x.2.sh.g.a y.2.sh.g.a].map λi=>O i);(iterate 3 exact F);exact Cf _ _;(iterate 4 exact F);intro b1 h1 c hcs1;refine⟨c,Ak,?_⟩)|(apply Aw;exact F;exact Ab func54;(have a:=Vq _ _ 3 3 [BJ x.2.day y.2.day,BJ x.2.sh.g.h y.2.sh.g.h,BJ x.2.sh.g.a y.2.sh.g.a] (Jc hcs1) J;rw[hor]at a;exact a);refine⟨V.refl _,Ak,?_⟩))|(apply GQ;kernel_rfl;exact F;exact F)|(apply BL;(iterate 3 exact F))));all_goals rfl
def Aio (h:U)(v:Value)(xs:Re)(n:Nat)(hn:n≤1000000)(hx:xs.length=n) :
  AP prog 339 #[v,.func (.func 340) #[] #[]] [Ar 172 15 v n (xs.flatMap Eg)] h λu Es _=>u=.tuple #[]∧∃ys:Re,ys.Perm xs∧(ys.Pairwise λx y=>¬Ea y.2 x.2)∧Es=[Ar 172 15 v n (ys.flatMap Eg)]:=by
 have m:∀(p:At) (c:Nat) (w:World),Calls prog 339 #[.slice p 0 c,.func (.func 340) #[] #[]] w λe i=>e=.returned (.tuple #[])∧i=w:=λp c w=>Go.Proofs.AnyF.slices_SortFunc_none Go.Proofs.Tryz.sortScores p c _ w
 have k:∀(blk off c:Nat) (d:Array (AA×Dn)) (w:World),Go.Proofs.CmpLays prog 340 #[] Eg 15 LR blk off d.size w→Go.Sort.HoldsK Eg 15 w blk off d→blk<w.heap.size→d.size<4611686018427387904→
  Calls prog 339 #[.slice (some ⟨blk,off,none⟩) d.size c,.func (.func 340) #[] #[]] w λe i=>e=.returned (.tuple #[])∧∃g n os,Go.Sort.PermIn 0 d.size d g∧Go.Sort.SortedIn (Go.Proofs.ltOf LR) 0 d.size g∧i=Go.Proofs.sortWorldK Eg 15 w blk off n g os:=λblk off c d w hc l o hs=>
  Go.Proofs.AnyQ.slices_SortFunc Go.Proofs.Tryz.sortScores 15 (λw=>It.run_agg (n:=172) rfl w) (λw=>It.run_size (n:=172) rfl w) Eg (λ_=>rfl) (λa=>En rfl) LR Aia 340 #[] blk off c d w (Go.Proofs.enters_of Go.Proofs.Tryz.func340 GH rfl) hc l o hs
 have q:∀x y:AA×Dn,Az prog 340 (#[.agg (Eg x).toArray,.agg (Eg y).toArray]++#[]) h λu _=>u=O (LR x y):=λx y=>by
  rw[YV]
  exact Arl h x y
 have key:=YK (α:=AA×Dn) (P:=prog) (f:=339) (gf:=340) (cb:=#[]) Eg 15 (λ_=>rfl) BO LR h k m q 172 v xs n J hx
 refine key.mono ?_
 rintro u Es h' r ⟨rfl,ys,hp,hso,rfl⟩
 refine⟨rfl,ys,hp,hso.imp λ{a b} j=>?_,rfl⟩
 rw[Vu,decide_eq_false_iff_not]at j
 exact j
def PW (h:U) (p:AA×Dn):Prop:=Ef h p.1 p.2.sh∧Gg p.2.sh
def PW.le {h h':U}{p:AA×Dn}(a:PW h p)(b:V h h'):PW h' p:=⟨a.1.le b,a.2⟩
noncomputable def JB (L:Ax) (gs:CY):Ff:=(gs.map (CJ L)).filter λx=>decide (x.kind=2)
def nA (L:Ax)(gs:CY)(g:AL):JB L (gs++[g])=if(CJ L g).kind=2 then JB L gs++[CJ L g]else JB L gs:=by unfold JB;rw[DI,Gl];by_cases h:(CJ L g).kind=2<;>simp[h]
def aT {L:Ax}{gs:CY}{x:Dn}:x∈JB L gs↔∃g∈gs,CJ L g=x∧x.kind=2:=by unfold JB;rw[DQ,CZ,decide_eq_true_eq];exact⟨λ⟨⟨g,h1,h2⟩,h3⟩=>⟨g,h1,h2,h3⟩,λ⟨g,h1,h2,h3⟩=>⟨⟨g,h1,h2⟩,h3⟩⟩
def nF {l:AN}(h:D' (Ae l)){s c:Int}{x:Dn}:x∈JB (Ae l) (If l s c)↔∃g:AL,g.s=s∧g.c=c∧CJ (Ae l) g=x∧x.kind=2:=by rw[aT];constructor;{rintro⟨g,h1,h2,h3⟩;have:=Ui.1 h1;exact⟨g,this.1,this.2.1,h2,h3⟩};{rintro⟨g,h1,h2,rfl,a⟩;obtain⟨f,m,ok,k,e,b,d⟩:=LO h a;exact⟨g,Ui.2 ⟨h1,h2,f,m,k,ok,b⟩,rfl,a⟩}
def A0d {l:AN}(f:D' (Ae l))(s c:Int):(JB (Ae l) (If l s c)).Nodup:=by(have hn:(If l s c).Nodup:=(iI l s c).imp λ{a b} d e=>by subst e;exact CC.irrefl _ d);unfold JB;rw[Sq];refine Og.2 ((hn.filter _).imp_of_mem λ{a b} i j d e=>d ?_);have k:=(DQ.1 i).2;have m:=(DQ.1 j).2;obtain⟨_,_,_,_,e1,g1,_⟩:=LO f (g:=a) (by simpa using k);obtain⟨_,_,_,_,e2,h,_⟩:=LO f (g:=b) (by simpa using m);rw[←g1,←h,e1,e2,e]
def Ad8 {h:U}{A:At}{n:Nat}{l:AN}(hx:Cz h A n l)(s c:Int):(If l s c).length≤1000000:=by unfold If;rw[Aa6];unfold HK;rw[Dc];exact Gj (Pn _ _) (Aco hx)
def Axb (L:Ax)(gs:CY):(JB L gs).length≤gs.length:=by unfold JB;exact Gj (Pn _ _) (by rw[Dc];exact BU _)
def JC {h:U}{A:At}{n:Nat}{l:AN}(hx:Cz h A n l):D' (Ae l):=λf hf=>by
 unfold Ae at hf
 obtain⟨p,hp,rfl⟩:=CZ.1 hf
 exact(hx.fat p hp).1.void
def Arj (h:U)(hG:DG h)(A:At)(n c:Nat)(l:AN)(hx:Cz h A n l)(season comp:Int):Az prog 306 #[.slice A n c,O season,O comp] h (λu h'=>∃A' ae ds,u=.slice A' ds.length ae∧Ai Eg 15 h' A' ds.length ds∧(∀p∈ds,PW h' p)∧Jj (Ae l) season comp (ds.map (·.2))∧ds.length≤n∧ds.length≤ae):=by
 refine BB func306 λ_ _=>?_;have j:=JC hx;(have ao:(Ae l).length=n:=by unfold Ae;rw[Dc,hx.row.len]);have o:=λh' (a:V h h')=>Apk h' (hG.le a) A n c l (hx.le a) season comp;have hsc:=λh' (a:V h h') g=>gL h' (hG.le a) A n c l (hx.le a) g;have ay:=Ad8 hx season comp;have aa:=λx=>nF (l:=l) j (s:=season) (c:=comp) (x:=x);have ab:=A0d j season comp;rw[show EM l=Ae l from rfl]at hsc;generalize If l season comp=gs at *;generalize hL:Ae l=L at *;clear hL hx;(repeat'(first|refine Aa ?_|(refine Ac ?_;first|(apply AR;exact F;exact Ab func338;exact o _ Ag;rintro a3 h1 a0 ⟨A3,c3,rfl,hsl⟩))|fail));refine FN 172 15 ?_;refine Bg (X:=Nat×Re×At×Nat×U) (λx=>x.1≤gs.length∧V h1 x.2.2.2.2∧(∀p∈x.2.1,PW x.2.2.2.2 p)∧x.2.1.map (·.2)=JB L (gs.take x.1)) (λx=>gs.length-x.1) (λx=>[(16,O x.1),(15,O gs.length),(14,.slice A3 gs.length c3),(7,.slice x.2.2.1 x.2.1.length x.2.2.2.1),(0,.slice A n c)]) (λx=>[Ar 172 15 (.slice x.2.2.1 x.2.1.length x.2.2.2.1) x.2.1.length (x.2.1.flatMap Eg)]) (λx=>x.2.2.2.2) (0,[],none,0,h1) ⟨Ah,V.refl _,An,rfl⟩ Af Ad rfl ?_;rintro⟨k,out,ad,c4,hh⟩ ⟨al,r,m,d⟩ v;dsimp only at al r m d v ⊢;(have a2:out.length≤k:=by{have q:=congrArg List.length d;have aq:=Axb L (gs.take k);rw[Dc]at q;rw[CF]at aq;omega});by_cases y:k<gs.length
 ·have a1:=hsl.addrD y;have c1:=(hsl.cellsD Jg y).le r;have aj:=BY Jg (xs:=gs) rfl y;generalize gs.getD k Jg=g at *;have f:=nA L (gs.take k) g;rw[←aj]at f;have hsg:=λh' (a:V h h')=>hsc h' a g;generalize CJ L g=x at *;have az:V h hh:=Ag;by_cases ag:x.kind=2
  ·rw[if_pos ag,←d]at f;clear o aa ab;(repeat'(first|refine AH ?_|refine Z Bf ?_|refine Z BN ?_|(refine Aj ?_;intro b)|(refine Ac ?_;first|(refine qL ?_;rintro w2 h2 i ⟨s,rfl,hs1,hs2⟩)|(refine cQ ?_;intro av ak z hs5)|(apply CE (enc:=Eg) (xs:=out);(iterate 7 exact F);exact hs5;exact QH;exactλx=>En rfl;intro v1;exact Bp;omega;exact F;intro A5 c5))|(refine Y ?_ ?_<;>intro hc<;>try omega)|fail))
   all_goals first
    |omega
    |(
       have h3:=v (k+1,out++[(s,x)],A5,c5,ak) ⟨Ah,r.trans (i.trans z),λq hq=>by
        rcases AO.1 hq with w|w
        · exact(m q w).le (i.trans z)
        · rw[Bk]at w;subst w;exact⟨hs1.le z,hs2⟩,by dsimp only;rw[f,DI];rfl⟩ Ah
       dsimp only at h3
       rw[Bt]at h3
       refine AB Af Ad h3)
  ·rw[if_neg ag]at f;clear o aa ab;(repeat'(first|refine AH ?_|refine Z Bf ?_|refine Z BN ?_|(refine Aj ?_;intro b)|(refine Ac ?_;first|(refine qL ?_;rintro w2 h2 i ⟨s,rfl,hs1,hs2⟩))|(refine Y ?_ ?_<;>intro hc<;>try omega)|fail))
   all_goals first
    |omega
    |(
       have h3:=v (k+1,out,ad,c4,h2) ⟨Ah,r.trans i,λq hq=>(m q hq).le i,by dsimp only;rw[f];exact d⟩ Ah
       dsimp only at h3
       refine AB Af Ad h3)
 ·rw[By J]at d;clear v hsc o;(repeat'(first|refine Aa ?_|(refine Ac ?_;first|(apply Ed;exact F;exact Ab func339;exact Aio _ _ out out.length J rfl;exact Ad;rintro vs au ax an ⟨rfl,ys,t,hso,rfl⟩))|(refine Y ?_ ?_<;>intro hc<;>try omega)|fail));(all_goals try omega);refine EE (enc:=Eg) (e:=172) (sz:=15) (n:=out.length) (xs:=ys) QH (t.length_eq) Bh ?_;intro ar c7 aw am ai ap hs7;cases ai;have af:Jj L season comp (ys.map (·.2)):=Avo j (λx=>by rw[d];exact aa x) (by rw[d];exact ab) (t.map _) (Og.2 hso);have ah:=af.len j;rw[Dc,ao]at ah;have ac:=t.length_eq;rw[←ac]at hs7;skip
  all_goals first
   |(exact BL rfl rfl rfl ⟨ad,c4,ys,by rw[ac],hs7,λp hp=>((m p (t.mem_iff.1 hp)).le (an.trans am)),af,ah,by rw[ac];exact ap⟩)
end Go.Hw
namespace Go.Hw
open Go
open Go.Proofs.Tryz
def A0z {C:Bu}{l:AW}{Es:Am}{h:U}{G:Value→Am→U→Prop}{ty:TypeId}{pos:String}{aft:Cw}{gd:Cq}{dst:CK}{t j e:TypeId}{x y:Operand}{n:Nat}{T N d:Ay}(hT:AM t C.ts=some T)(ad:T.desc=.slice e)(ab:AM j C.ts=some N)(ac:N.desc=.int .i64)(r:AM e C.ts=some d)(aa:d.zero.cells.size=d.size)(v:Nat.blt 0 d.size=true)(s:Nat.ble d.bytes 100000=true)
  (hx:AJ l x=some (.slice none 0 0)) (hy:AJ l y=some (O (n:Int))) (hn:0<n∧n≤1000000000)
  (g:∀b c zs,n≤c→G (.slice (some (Av b)) n c) (Ar e d.size (.slice (some (Av b)) n c) n zs::Es) h):Cd C l Es h ⟨dst,.call ⟨.builtin .append,#[x,y],#[t,j]⟩,ty,pos,aft,gd⟩ G:=λa w hs hp=>by
 obtain⟨i,hi,ae,af,ag⟩:=C.ok.info r
 obtain⟨ah,o,k⟩:=C.ok.und hT
 rw[ad]at k;rw[Ho k]at o
 obtain⟨ai,p,hb1⟩:=C.ok.und ab
 rw[ac]at hb1;rw[Nk hb1]at p
 have u:d.bytes≤100000:=Oe s
 have z:0<d.size:=Oe v
 have q:n*i.bytes≤281474976710656:=by
  rw[af]
  exact Gj (dM hn.2 u) BO
 have hr:=Lib.run_append_nil_zeros (P:=C.P) w t j ty e i d.zero .i64 .i64 o p hi ag n hn.1 (by rw[ae];exact z) J q
 have hge:=grownCap_ge w n 0 e
 have hcm:=grownCap_le_maxLen w n 0 e RN
 have f:∀m,(Builtin.zeroCells d.zero.cells m).size=m*d.size:=λm=>by unfold Builtin.zeroCells;simp[aa]
 refine .inl ⟨_,_,_,h,by simp only[execOp,resolve,invoke,builtin,BK,CV,B',QM,CW,Jv,hs.eval hx,hs.eval hy,hr];rfl,(hp.drew).alloc (.cells (Builtin.zeroCells d.zero.cells n++Builtin.zeroCells d.zero.cells (grownCap w n 0 e-n)) e) (Ar e d.size (.slice (some (Av w.heap.size)) n (grownCap w n 0 e)) n (Builtin.zeroCells d.zero.cells n).toList) (λm hm=>(show(Ar e d.size (.slice (some (Av w.heap.size)) n (grownCap w n 0 e)) n (Builtin.zeroCells d.zero.cells n).toList).holds [w.heap.size] m from by exact⟨by simp[f],.inr ⟨w.heap.size,grownCap w n 0 e,_,rfl,rfl,hm,hge,hcm,(by rw[YT,f,f,←KZ];congr 1;omega),(by rw[hW];exact eD (by simp[f]))⟩⟩)),g _ _ _ hge⟩
attribute [local irreducible] AI Bz BV Aq AP Az Au CH Ap Ar BG Cm BP Dg El Ek Fl Ex EV Hj
def Az9 (A:At)(c sz:Nat):Ig A c sz=A:=by unfold Ig;split;{rfl};{cases A<;>simp[Addr.add]}
def Ape (h:U)(n:Nat)(hn:n≤1000000000):AP prog 356 #[.slice none 0 0,O n] [] h λu Es _=>Es=[Ar 186 2 u 0 []]:=by refine Cx func356 λ_ _=>?_;refine FN 186 2 ?_;by_cases h0:n=0;{subst h0;(repeat'(first|refine Aa ?_|(refine Y ?_ ?_<;>intro hc<;>try omega)|fail));exact DD rfl rfl rfl (FH _) rfl};{(repeat'(first|refine Aa ?_|(refine Z (by apply PA (hi:=0);(iterate 6 exact F);omega;omega) ?_)|(refine Ac ?_;first|(apply A0z;(iterate 10 exact F);(constructor<;>omega);intro b2 c2 zs b))|(refine Y ?_ ?_<;>intro hc<;>try omega)|fail));rw[Az9];refine A0o (A':=Ar 186 2 (.slice (some (Av b2)) 0 c2) 0 []) Bp (λD m a=>by have:=fE (m:=0) (GT _) a;rw[show Tx.size=2 from rfl]at this;simpa using this) ?_;exact DD rfl rfl rfl (.cons_cons _ (Hi _)) rfl}
def Ar5 (h:U)(A a:At)(n c m d b:Nat)(x y:Fz)(hx:Ai Fk 2 h A n x)(hy:Ai Fk 2 h a m y)(hn:n≤100000000)(hm:m≤100000000)(f:Au h (Av b) [.slice A n c,.slice a m d]) :
  Az prog 341 #[.slice (some (Av b)) 2 2] h λu h'=>∃A' l,u=.slice A' (n+m) l∧Ai Fk 2 h' A' (n+m) (x++y):=by
 refine BB func341 λ_ _=>?_
 have p:=fK f (k:=0) rfl
 have hb1:=fK f (k:=1) rfl
 have q:=hx.len
 have r:=hy.len
 repeat'(first|refine Ba ?_|(apply UU)|(apply Wg)|refine Eo ?_|(refine Z (by apply MM (j:=0);(iterate 5 exact F);omega;omega) ?_)|(refine Z (by apply MM (j:=1);(iterate 5 exact F);omega;omega) ?_)|(refine Z (by apply BA;exact F;exact BH rfl (p.le Ag) rfl) ?_)|(refine Z (by apply BA;exact F;exact BH rfl (hb1.le Ag) rfl) ?_)|(refine Ac ?_;first|(apply Ed;exact F;exact Ab func356;(have g:=Ape h (n+m) J;rw[show((n+m:Nat):Int)=0+(n:Int)+(m:Int) by omega]at g;exact g);exact Ad;rintro vg t w hlg rfl)|(apply CE (enc:=Fk) (xs:=[]) (ys:=x);(iterate 7 exact F);exact hx.le Ag;exactλ_=>rfl;exactλ_=>En rfl;intro v1;exact Bp;omega;exact F;intro i c1)|(apply CE (enc:=Fk) (xs:=[]++x) (ys:=y);(iterate 7 exact F);exact hy.le Ag;exactλ_=>rfl;exactλ_=>En rfl;intro v1;exact Bp;omega;exact F;intro i c1))|(refine Y ?_ ?_<;>intro hc<;>try omega)|fail)
 all_goals
  rw[FE,Dy]
  refine EE (enc:=Fk) (e:=186) (sz:=2) (n:=n+m) (xs:=x++y) (λ_=>rfl) (by rw[Bt,q,r]) Bh ?_
  intro s c7 v z o aa hs7
  cases o
  exact BL rfl rfl rfl ⟨_,_,rfl,hs7⟩
theorem KD {κ α:Type}[DecidableEq κ]{ek:κ→Value}{ev:α→Value}{z0:α}{C:Bu}{l:AW}{h:U}{ty:TypeId}{pos:String}{aft:Cw}{gd:Cq}{dst:CK}{t k e:TypeId}{x y:Operand}{b:Nat}{key:κ}{m:List (κ×α)}{T d:Ay}{q:α}(K:Gw C.P k ek)(hT:AM t C.ts=some T)(i:T.desc=.map k e)(g:AM e C.ts=some d)(j:d.zero=ev z0)
  (hx:AJ l x=some (.map (some b))) (hy:AJ l y=some (ek key)) (hq:(Co key m).getD z0=q):DN C l [BG ek ev b m] h ⟨dst,.lookup t x y false,ty,pos,aft,gd⟩ (ev q):=by
 have:=On (ev:=ev) (h:=h) (ty:=ty) (pos:=pos) (aft:=aft) (gd:=gd) (dst:=dst) (c:=false) (m:=m) (b:=b) K hT i g hx hy rfl
 subst hq
 cases f:Co key m with
 |none=>rw[f]at this;rw[show ev ((none:Option α).getD z0)=d.zero from j.symm];exact this
 |some a=>rw[f]at this;exact this
def Dq (i:Int):Value:=O i
def MJ (z:Int×Bool):Value:=.agg #[O z.1,.bool z.2]
def St:Gw prog 3 Dq:=LJ
def Th (m:List (Int×(Int×Bool))) (c:Jb):List (Int×(Int×Bool)):=Dk c.p (Hh c.p ((Co c.p m).getD (0,false)) c) m
def Atp (m:List (Int×(Int×Bool)))(c:Jb)(p:Int):(Co p (Th m c)).getD (0,false)=Hh p ((Co p m).getD (0,false)) c:=by unfold Th;rw[KM];by_cases h:c.p=p;{subst h;simp};{rw[if_neg h];unfold Hh;rw[if_neg h]}
def MN (cs:Fz):List (Int×(Int×Bool)):=cs.foldl Th []
def Adk (cs:Fz)(c:Jb):MN (cs++[c])=Th (MN cs) c:=by unfold MN;rw[GL];rfl
def Adj (cs:Fz)(p:Int):(Co p (MN cs)).getD (0,false)=cs.foldl (Hh p) (0,false):=by refine Ny (P:=λcs=>(Co p (MN cs)).getD (0,false)=cs.foldl (Hh p) (0,false)) rfl (λl x a=>?_) cs;rw[Adk,Atp,a,GL];rfl
def Ato (cs:Fz)(p:Int):0≤((Co p (MN cs)).getD (0,false)).1∧((Co p (MN cs)).getD (0,false)).1≤2:=by rw[Adj];exact VW p cs (0,false) ⟨BO,BO⟩
def Ai3 (h:U)(s:AA)(x:DV)(hx:Ef h s x)(v:x.hc.length≤1000∧x.ac.length≤1000):AP prog 307 #[KV s x] [] h λu Es h'=>∃bm m,u=.map (some bm)∧Es=[BG Dq MJ bm m]∧∀p,(Co p m).getD (0,false)=GB x p:=by
 refine Cx func307 λ_ _=>?_;have n:=hx.hc.len;have o:=hx.ac.len;obtain⟨cs,a⟩:∃cs,cs=x.hc++x.ac:=⟨_,rfl⟩;(have l:cs.length=s.hc.n+s.ac.n:=by rw[a,Bt,n,o]);(repeat'(first|refine Aa ?_|(refine Aj ?_;intro b)|(refine Ac ?_;first|(apply Nn Dq MJ;intro bm)|(apply HQ (e:=55) (cs:=[.slice s.hc.A s.hc.n s.hc.c,.slice s.ac.A s.ac.n s.ac.c]);(iterate 3 exact F);exact Cf _ _;(iterate 4 exact F);intro b1 h1 w hcs1)|(apply AR;exact F;exact Ab func341;exact Ar5 _ s.hc.A s.ac.A s.hc.n s.hc.c s.ac.n s.ac.c b1 x.hc x.ac (hx.hc.le Ag) (hx.ac.le Ag) J J hcs1;rintro aa h2 y ⟨i,c2,rfl,hs2⟩))|fail));rw[←a]at hs2;have hK:=St;refine Bg (X:=Nat) (λk=>k≤s.hc.n+s.ac.n) (λk=>s.hc.n+s.ac.n-k) (λk=>[(15,O k),(14,O ((s.hc.n+s.ac.n:Nat):Int)),(13,.slice i (s.hc.n+s.ac.n) c2),(3,.map (some bm))]) (λk=>[BG Dq MJ bm (MN (cs.take k))]) (λ_=>h2) 0 J Af Ad rfl ?_;rintro k t f;by_cases c:k<s.hc.n+s.ac.n
 ·have a1:=hs2.addrD c;have c1:=hs2.cellsD De c;have j:=BY De (xs:=cs) l c;generalize cs.getD k De=z at *;have hsn:=Adk (cs.take k) z;have d:=Ato (cs.take k) z.p;rw[←j]at hsn;have h3:=f (k+1) J J;rw[hsn]at h3;generalize MN (cs.take k)=m at *;unfold Th at h3;obtain⟨q,hq⟩:∃q,(Co z.p m).getD (0,false)=q:=⟨_,rfl⟩;rw[hq]at h3 d;unfold Hh at h3;rw[if_pos rfl]at h3;obtain⟨zp,zr⟩:=z;obtain⟨g,r⟩:=q;dsimp only at hq d h3 a1 c1;cases zr
  ·rw[if_neg BO]at h3;(repeat'(first|refine Ba ?_|(apply Aa7;(iterate 3 exact F);intro ab hwn)|refine BF ?_|refine Z Bf ?_|refine Z BN ?_|refine Z pS ?_|(refine Aj ?_;intro b)|(refine Ac ?_;first|(apply Nq (ek:=Dq) (ev:=MJ) (b:=bm) (m:=m) (key:=zp) (u:=(min 2 (g+1),r)) hK;(iterate 5 exact F);rw[hwn];exact F;exact Bp))|(refine Y ?_ ?_<;>intro hc<;>try omega)|fail))
   all_goals first
    |omega
    |(exfalso;simp at hc;done)
    |(refine AB Af Ad h3)
  ·rw[if_pos rfl]at h3;(repeat'(first|refine AH ?_|refine Z Bf ?_|refine Z BN ?_|refine Z pS ?_|(refine Aj ?_;intro b)|(refine Ac ?_;first|(apply Nq (ek:=Dq) (ev:=MJ) (b:=bm) (m:=m) (key:=zp) (u:=(g,true)) hK;(iterate 6 exact F);exact Bp))|(refine Y ?_ ?_<;>intro hc<;>try omega)|fail))
   all_goals first
    |omega
    |(exfalso;simp at hc;done)
    |(refine AB Af Ad h3)
 ·rw[By J];clear f;(repeat'(first|refine Aa ?_|(refine Y ?_ ?_<;>intro hc<;>try omega)|fail))
  all_goals first
   |omega
   |(exact DD rfl rfl rfl NY ⟨bm,MN cs,rfl,rfl,λp=>by rw[Adj,a];rfl⟩)
def FX (m:Int×Int):Ao:=[O m.1,O m.2]
def HS:Int×Int:=(0,0)
def Avf (h:U)(x y:Int×Int):Aq prog 343 #[.agg (FX x).toArray,.agg (FX y).toArray] h (O (BJ x.1 y.1)):=by refine AK func343 λ_ _=>?_;(repeat'(first|refine Aa ?_|(refine Aj ?_;intro b)|(refine Ac ?_;first|(apply Aw;exact F;exact Ab func55;exact Ru _ _ _))|refine Bm ?_|fail));all_goals rfl
def Vx (x y:Int×Int):Go.Proofs.ltOf (λ(x y:Int×Int)=>BJ x.1 y.1) x y=decide (x.1<y.1):=by unfold Go.Proofs.ltOf;rw[decide_eq_decide];exact UY
def Asn:Go.Sort.SWO (Go.Proofs.ltOf λ(x y:Int×Int)=>BJ x.1 y.1) where
 irrefl x:=by rw[Vx,decide_eq_false_iff_not];omega
 trans x y z h1 h2:=by rw[Vx,decide_eq_true_eq]at *;omega
 ntrans x y z h1 h2:=by rw[Vx,decide_eq_false_iff_not]at *;omega
def Air (h:U)(v:Value)(xs:He)(n:Nat)(hn:n≤1000000)(hx:xs.length=n) :
  AP prog 342 #[v,.func (.func 343) #[] #[]] [Ar 260 2 v n (xs.flatMap FX)] h λu Es _=>u=.tuple #[]∧∃ys:He,ys.Perm xs∧(ys.Pairwise λx y=>x.1≤y.1)∧Es=[Ar 260 2 v n (ys.flatMap FX)]:=by
 have l:∀(p:At) (c:Nat) (w:World),Calls prog 342 #[.slice p 0 c,.func (.func 343) #[] #[]] w λe i=>e=.returned (.tuple #[])∧i=w:=λp c w=>Go.Proofs.AnyF.slices_SortFunc_none Go.Proofs.Tryz.sortMembers p c _ w
 have j:∀(blk off c:Nat) (d:Array (Int×Int)) (w:World),Go.Proofs.CmpLays prog 343 #[] FX 2 (λx y=>BJ x.1 y.1) blk off d.size w→Go.Sort.HoldsK FX 2 w blk off d→blk<w.heap.size→d.size<4611686018427387904→
  Calls prog 342 #[.slice (some ⟨blk,off,none⟩) d.size c,.func (.func 343) #[] #[]] w λe i=>e=.returned (.tuple #[])∧∃g n os,Go.Sort.PermIn 0 d.size d g∧Go.Sort.SortedIn (Go.Proofs.ltOf λ(x y:Int×Int)=>BJ x.1 y.1) 0 d.size g∧i=Go.Proofs.sortWorldK FX 2 w blk off n g os:=λblk off c d w hc k o hs=>
  Go.Proofs.AnyQ.slices_SortFunc Go.Proofs.Tryz.sortMembers 2 (λw=>It.run_agg (n:=260) rfl w) (λw=>It.run_size (n:=260) rfl w) FX (λ_=>rfl) (λa=>En rfl) (λx y=>BJ x.1 y.1) Asn 343 #[] blk off c d w (Go.Proofs.enters_of Go.Proofs.Tryz.func343 GH rfl) hc k o hs
 have q:∀x y:Int×Int,Az prog 343 (#[.agg (FX x).toArray,.agg (FX y).toArray]++#[]) h λu _=>u=O (BJ x.1 y.1):=λx y=>by
  rw[YV]
  exact ZQ (Avf h x y)
 have key:=YK (α:=Int×Int) (P:=prog) (f:=342) (gf:=343) (cb:=#[]) FX 2 (λ_=>rfl) BO (λx y=>BJ x.1 y.1) h j l q 260 v xs n J hx
 refine key.mono ?_
 rintro u Es h' r ⟨rfl,ys,hp,hso,rfl⟩
 refine⟨rfl,ys,hp,hso.imp λ{a b} m=>?_,rfl⟩
 rw[Vx,decide_eq_false_iff_not]at m
 omega
def ME (x:DV):He:=x.hs.map (λp=>(p,x.g.h))++x.asn.map λp=>(p,x.g.a)
def Acw {x:DV}(hx:GZ x){ys:He}(hp:ys.Perm (ME x))(hs:ys.Pairwise λa b=>a.1≤b.1):Iv x ys:=by
 obtain⟨_,_,_,_,_,h1,h2,_,_,h3⟩:=hx
 have hn:((ME x).map (·.1)).Nodup:=by
  unfold ME;rw[DI,Nc,Nc];refine Fm.2 ⟨?_,?_,?_⟩;{rw[show x.hs.map ((λm:Int×Int=>m.1)∘λp=>(p,x.g.h))=x.hs by simp[gB]];exact h1.2.2.imp λ{a b} g e=>by omega};{rw[show x.asn.map ((λm:Int×Int=>m.1)∘λp=>(p,x.g.a))=x.asn by simp[gB]];exact h2.2.2.imp λ{a b} g e=>by omega};{intro a c b d e;simp only[gB,List.map_id']at c d;subst e;exact h3 a c d}
 have h:(ys.map (·.1)).Nodup:=(hp.map _).nodup_iff.2 hn;refine⟨?_,λm=>?_⟩;{have f:ys.Pairwise λa b=>a.1≠b.1:=Og.1 h;exact(eH.2 ⟨hs,f⟩).imp λ{a b} ⟨i,j⟩=>by omega};{rw[hp.mem_iff];unfold ME;rw[AO,CZ,CZ];obtain⟨a,b⟩:=m;constructor;{rintro(⟨p,q,e⟩|⟨p,q,e⟩);{cases e;exact .inl ⟨q,rfl⟩};{cases e;exact .inr ⟨q,rfl⟩}};{rintro(⟨q,e⟩|⟨q,e⟩);{dsimp only at q e;subst e;exact .inl ⟨a,q,rfl⟩};{dsimp only at q e;subst e;exact .inr ⟨a,q,rfl⟩}}}
def Amv (h:U)(s:AA)(x:DV)(hx:Ef h s x)(m:GZ x):Az prog 308 #[KV s x] h λu h'=>∃A' ad,u=.slice A' (Ex x).length ad∧Ai FX 2 h' A' (Ex x).length (Ex x)∧Iv x (Ex x):=by
 refine BB func308 λ_ _=>?_;have w:=hx.hs.len;have z:=hx.asn.len;obtain⟨l1,l2⟩:x.hs.length≤40∧x.asn.length≤40:=⟨m.2.2.2.2.2.1.1,m.2.2.2.2.2.2.1.1⟩;have hh:=hx.hs;have q:=hx.asn;(repeat'(first|refine Aa ?_|(refine Aj ?_;intro b)|fail));generalize b=b1;refine FN 260 2 ?_;refine Bg (X:=Nat×At×Nat×U) (λy=>y.1≤s.hs.n∧V h y.2.2.2) (λy=>s.hs.n-y.1) (λy=>[(10,O y.1),(9,O s.hs.n),(8,.slice s.hs.A s.hs.n s.hs.c),(2,.slice y.2.1 y.1 y.2.2.1),(1,Dt b1)]) (λy=>[Ap b1 57 (LZ s x),Ar 260 2 (.slice y.2.1 y.1 y.2.2.1) y.1 (((x.hs.take y.1).map (λp=>(p,x.g.h))).flatMap FX)]) (λy=>y.2.2.2) (0,none,0,h) ⟨Ah,V.refl _⟩ Af Ad rfl ?_;rintro⟨k,ab,c4,t⟩ ⟨i,d⟩ c;dsimp only at i d c ⊢;by_cases a:k<s.hs.n
 ·have a1:=hh.addrD a;have c1:=(hh.cellsD 0 a).le d;have f:=BY 0 (xs:=x.hs) w a;generalize x.hs.getD k 0=p at *;(repeat'(first|refine Aa ?_|refine Z Bf ?_|refine Z BN ?_|(refine Ac ?_;first|(apply DE (enc:=FX) (n:=1) [(p,x.g.h)];(iterate 3 exact F);exact Cf _ _;(iterate 4 exact F);exactλ_=>rfl;exact F;exact F;intro ac g l hs5)|(apply CE (enc:=FX) (xs:=(x.hs.take k).map (λp=>(p,x.g.h)));(iterate 7 exact F);exact hs5;exactλ_=>rfl;exactλx=>En rfl;intro v1;exact Bp;omega;exact F;intro A5 c5))|(refine Y ?_ ?_<;>intro hc<;>try omega)|fail))
  all_goals first
   |omega
   |(
      have h3:=c (k+1,A5,c5,g) ⟨Ah,d.trans l⟩ Ah
      dsimp only at h3
      rw[f,DI]at h3
      refine AB Af Ad h3)
 ·rw[By J];(have ek:k=s.hs.n:=by omega);subst ek;clear c;(repeat'(first|refine Aa ?_|(refine Y ?_ ?_<;>intro hc<;>try omega)|fail));(all_goals try omega);refine Bg (X:=Nat×At×Nat×U) (λy=>y.1≤s.asn.n∧V t y.2.2.2) (λy=>s.asn.n-y.1) (λy=>[(26,O y.1),(25,O s.asn.n),(24,.slice s.asn.A s.asn.n s.asn.c),(2,.slice y.2.1 (s.hs.n+y.1) y.2.2.1),(1,Dt b1)]) (λy=>[Ap b1 57 (LZ s x),Ar 260 2 (.slice y.2.1 (s.hs.n+y.1) y.2.2.1) (s.hs.n+y.1) ((x.hs.map (λp=>(p,x.g.h))++(x.asn.take y.1).map (λp=>(p,x.g.a))).flatMap FX)]) (λy=>y.2.2.2) (0,ab,c4,t) ⟨Ah,V.refl _⟩ Af (by rw[Ia,Jv,DR];exact Ad) rfl ?_;rintro⟨k,A6,ae,al⟩ ⟨i,j⟩ c;dsimp only at i j c ⊢;by_cases a:k<s.asn.n
  ·have a1:=q.addrD a;have c1:=(q.cellsD 0 a).le (d.trans j);have f:=BY 0 (xs:=x.asn) z a;generalize x.asn.getD k 0=p at *;(repeat'(first|refine Aa ?_|refine Z Bf ?_|refine Z BN ?_|(refine Ac ?_;first|(apply DE (enc:=FX) (n:=1) [(p,x.g.a)];(iterate 3 exact F);exact Cf _ _;(iterate 4 exact F);exactλ_=>rfl;exact F;exact F;intro ac g l hs5)|(apply CE (enc:=FX) (xs:=x.hs.map (λp=>(p,x.g.h))++(x.asn.take k).map (λp=>(p,x.g.a)));(iterate 7 exact F);exact hs5;exactλ_=>rfl;exactλx=>En rfl;intro v1;exact Bp;omega;exact F;intro A5 c5))|(refine Y ?_ ?_<;>intro hc<;>try omega)|fail))
   all_goals first
    |omega
    |(
       have h3:=c (k+1,A5,c5,g) ⟨Ah,j.trans l⟩ Ah
       dsimp only at h3
       rw[f,DI,←Ck]at h3
       refine AB Af Ad h3)
  ·rw[By J];(have ek:k=s.asn.n:=by omega);subst ek;clear c;(have v:(ME x).length=s.hs.n+s.asn.n:=by unfold ME;rw[Bt,Dc,Dc,w,z]);rw[show x.hs.map (λp=>(p,x.g.h))++x.asn.map (λp=>(p,x.g.a))=ME x from rfl];(repeat'(first|refine Aa ?_|(refine Ac ?_;first|(apply Ed;exact F;exact Ab func342;exact Air _ _ (ME x) (s.hs.n+s.asn.n) J v;exact Ad;rintro vs ai ak an ⟨rfl,ys,aa,hso,rfl⟩))|(refine Y ?_ ?_<;>intro hc<;>try omega)|fail));(all_goals try omega);(have o:ys.length=s.hs.n+s.asn.n:=by rw[aa.length_eq,v]);refine EE (enc:=FX) (e:=260) (sz:=2) (n:=s.hs.n+s.asn.n) (xs:=ys) (λ_=>rfl) o Bh ?_;intro ah c7 aj am af ao hs7;cases af;have r:=Acw m aa hso;have ag:=dV r;rw[←ag];rw[←o]at hs7;skip
   all_goals first
    |(exact BL rfl rfl rfl ⟨A6,ae,by rw[o],hs7,r⟩)
end Go.Hw