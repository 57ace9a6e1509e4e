import Derived.Test.YtbmffdagfjepgaaGreatDoorHD
set_option linter.all false
namespace Go.Hw
open Go
def hA {Es0:Am}{out:Value}{P:Program}{f:FuncId}{args:Dx}{h:U}
  (hv:∀h1 a,V h h1→Cy Es0 a h1→Aq P f args h1 out):CH P f args Es0 h out:=by
 intro w X0 q ⟨a,j,r,d⟩
 let h1:U:=λi=>if i∈a.flatten then mem w i else h i
 have g:V h h1:=λi o e=>by
  show(if i∈a.flatten then mem w i else h i)=some o
  by_cases hi:i∈a.flatten
  · rw[(d i hi).1]at e;cases e
  · rw[if_neg hi];exact e
 have p:V h1 (mem w):=λi o e=>by
  have c:(if i∈a.flatten then mem w i else h i)=some o:=e
  by_cases hi:i∈a.flatten
  · rw[if_pos hi]at c;exact c
  · rw[if_neg hi]at c;exact q i o c
 have l:Cy Es0 a h1:=Cy.loc (λb k=>by show mem w b=if b∈a.flatten then mem w b else h b;rw[if_pos k]) j
 have s:=hv h1 a g l w [] p ⟨[],trivial,Yg,λb k=>absurd k An⟩
 refine s.mono λe v ⟨u,m,Es,h',⟨t,x⟩,H⟩=>?_
 refine⟨u,m,Es0,h,⟨t,rfl⟩,?_⟩
 have n:∀b∈a.flatten,mem w b=mem v b:=λb k=>(H.old b (d b k).2.2 An).symm
 refine⟨H.os,H.tape,H.output,H.size,H.dr,λi hi _=>H.old i hi An,g.trans (H.le.trans H.ro),V.refl _,λi o e=>.inl e,a,Cy.loc n j,r,λb k=>?_⟩
 obtain⟨k1,k2,k3⟩:=d b k
 exact⟨k1,.inr k2,Up k3 H.size⟩
theorem dN {α:Type}{enc:α→Ao}{e sz n:Nat}{v:Value}{xs:List α}{h:U}{Es:Am}{b:Hd}(d:∀x,(enc x).length=sz)(hn:xs.length=n)(a:Cy (Ar e sz v n (xs.flatMap enc)::Es) b h) :
  ∃A c,v=.slice A n c∧n≤c∧Ai enc sz h A n xs:=by
 match b,a with
 |D::f,a=>exact QS d hn a.1
def uK {A:EQ}{h:U}{Es:Am}{c:Hd}(b:Cy (A::Es) c h):∃a,Cy Es a h:=by match c,b with|D::a,b=>exact⟨a,b.2⟩
def vT {b:Nat}{T:TypeId}{cs:Ao}{h:U}{Es:Am}{c:Hd}(a:Cy (Ap b T cs::Es) c h):Au h (Av b) cs:=by match c,a with|D::e,a=>have d:h b=some (.cells cs.toArray T (0,0)):=a.1.2;exact SA d
def Aus {α:Type}{enc:α→Ao}{e sz n:Nat}{v out:Value}{xs:List α}{P:Program}{f:FuncId}{args:Dx}{h:U}(b:∀x,(enc x).length=sz)(hn:xs.length=n)
  (hv:∀A c h1,V h h1→v=.slice A n c→n≤c→Ai enc sz h1 A n xs→Aq P f args h1 out):CH P f args [Ar e sz v n (xs.flatMap enc)] h out:=
 hA λh1 i d g=>by
  obtain⟨A,c,e1,e2,a⟩:=dN b hn g
  exact hv A c h1 d e1 e2 a
def Azj {P:Program}{b:Frame}{a:Act}{k:CB}{cs:List Frame}{w:World}{c:Code}:step P (lone (b.atR a (.code (.scope c)::k)) cs w)=.next (lone (b.atR a (.code c::.inScope c::k)) cs w):=
 step_lone_go (by simp[stepG,stepG.exec,Frame.atR])
def fQ {C:Bu}{ds:CL}{l:AW}{Es:Am}{h:U}{K:CB}{c:Code}(g:AI C ds l Es h (.code c::.inScope c::K)):AI C ds l Es h (.code (.scope c)::K):=λa w s=>Dp.step (λ_ _ _=>.one trivial Azj) (g a w s)
def AP.form {P:Program}{f:FuncId}{args:Dx}{Es0:Am}{h:U}{e sz n:Nat}{xs:Ao}(hf:AP P f args Es0 h λu Es _=>Es=[Ar e sz u n xs]):AP P f args Es0 h λu Es _=>∃A c,u=.slice A n c∧Es=[Ar e sz (.slice A n c) n xs]:=λw X0 g i=>
 (hf w X0 g i).mono λj k ⟨v,d,Es,h',b,H⟩=>by
   subst b
   obtain⟨D,a⟩:=H.get (Ayt _)
   obtain⟨A,c,e1⟩:=Sc a
   subst e1
   exact⟨_,d,_,h',⟨A,c,rfl,rfl⟩,H⟩
def AP.formB {P:Program}{f:FuncId}{args:Dx}{Es0:Am}{h:U}{e sz n:Nat}{xs:Ao}(h0:0<n)(hf:AP P f args Es0 h λu Es _=>Es=[Ar e sz u n xs]):AP P f args Es0 h λu Es _=>∃b c,n≤c∧u=.slice (some (Av b)) n c∧Es=[Ar e sz (.slice (some (Av b)) n c) n xs]:=λw X0 l m=>
 (hf w X0 l m).mono λp s ⟨v,k,Es,h',j,H⟩=>by
   subst j
   obtain⟨D,i⟩:=H.get (Ayt _)
   obtain⟨r,hr⟩:=i
   rcases hr with⟨k0,k1,_⟩|⟨g,a,o,h2,h3,q,d,_⟩
   · omega
   · subst h2
     exact⟨_,k,_,h',⟨g,a,d,rfl,rfl⟩,H⟩
def hR {C:Bu}{l:AW}{h:U}{ty:TypeId}{pos:String}{aft:Cw}{gd:Cq}{dst:CK}{G:Value→Am→U→Prop}{Es Es0 Fs:Am}{xs:KI}{tys:Kf}{f:FuncId}{vs:Ao}{v:Value}
  (a:Il l xs.toList=some vs) (hh:BP C.P f) (hf:CH C.P f vs.toArray Es0 h v) (hT:Kh Es Es0 Fs) (g:G v (Es0++Fs) h):Cd C l Es h ⟨dst,.call ⟨.value (.func f),xs,tys⟩,ty,pos,aft,gd⟩ G:=
 Nj hT.perm (yO (Fs:=Fs) rfl a hh hf g)
section
variable {C:Bu} {l:AW} {h:U} {ty:TypeId} {pos:String} {aft:Cw} {gd:Cq}
def wI {t ty':TypeId}{x y:Operand}{p q:Int}{T:Ay}{dst:CK}(hT:AM t C.ts=some T)(hx:AJ l x=some (O p))(hy:AJ l y=some (O q)):DN C l [] h ⟨dst,.binOp .add t x y ty',ty,pos,aft,gd⟩ (O (IntKind.i64.wrap (p+q))):=
 UB hT hx hy (by simp[JK])
def Aw1 {x y d f:Operand}{t e:TypeId}{k k2 k3:IntKind}{i b i3:Int}{lo hi mx n c:Nat}{A:At}{T g:Ay}{dst:CK}(hT:AM t C.ts=some T)(r:T.desc=.slice e)(q:AM e C.ts=some g)
  (hx:AJ l x=some (.slice A n c)) (hy:AJ l y=some (.int k i)) (ab:AJ l d=some (.int k2 b)) (ac:AJ l f=some (.int k3 i3)) (s:i=(lo:Int)) (u:b=(hi:Int)) (v:i3=(mx:Int)) (z:lo≤hi) (hhi:hi≤mx) (aa:mx≤c) :
  DN C l [] h ⟨dst,.slice t x (some y) (some d) (some f),ty,pos,aft,gd⟩ (.slice (JU A mx lo g.size) (hi-lo) (mx-lo)):=
 ⟨rfl,λa w hsl _ _=>by
  obtain⟨ad,m,j⟩:=C.ok.und hT
  rw[r]at j
  rw[Ho j]at m
  have e1:a.eval x=.slice A n c:=hsl.eval hx
  have e2:a.eval y=.int k i:=hsl.eval hy
  have o:a.eval d=.int k2 b:=hsl.eval ab
  have p:a.eval f=.int k3 i3:=hsl.eval ac
  simp only[execOp,Instr.sliceAt,BK,run_underlying m,B',Instr.slice,e1,e2,o,p,Hg,Qn,Instr.sliceBounds,CV,Mr v aa,Mr u hhi,Mr s z,C.ok.run_size q,Ir,if_false,if_true,Ud,Option.isSome_some,JU]⟩
def Ai.mid {α:Type}{enc:α→Ao}{sz:Nat}{h:U}{A:At}{n:Nat}{xs:List α}(hs:Ai enc sz h A n xs){lo hi mx:Nat}(a:lo≤hi)(hhi:hi≤n)(b:hi≤mx):Ai enc sz h (JU A mx lo sz) (hi-lo) ((xs.drop lo).take (hi-lo)):=by
 have h1:=hs.high (hi:=hi) (c:=n) hhi (BU _)
 have e:Ig A n sz=A:=by
  unfold Ig;split;{rfl};{cases A<;>simp[Addr.add]}
 rw[e]at h1;have h2:=h1.low (lo:=lo) (c:=mx) a b;rw[xP]at h2;exact h2
end
section
variable {C:Bu} {ds:CL} {l:AW} {Es:Am} {h:U} {K:CB} {G:Value→Am→U→Prop} {ty:TypeId} {pos:String} {aft:Cw} {gd:Cq} {dst:CK} {d:Tmp}
def Aw6 {α:Type}{enc:α→Ao}{t e sz f:Nat}{x:Operand}{b k n c:Nat}{xs:List α}{a:Addr}{y:α}{v:Value}{T:Ay}(hT:AM t C.ts=some T)(hx:AJ l x=some (.pointer (some a)))(d:a=⟨b,k*sz+f,none⟩)(g:∀x,(enc x).length=sz)
  (hy:xs[k]?=some y) (hv:EC 0 T.size T.agg ((enc y).drop f)=some v):DN C l [Ar e sz (.slice (some (Av b)) n c) n (xs.flatMap enc)] h ⟨dst,.load t x,ty,pos,aft,gd⟩ v:=by
 subst d
 exact BA hx (wV hT hv λj u hj=>by
  rw[Nd]at hj
  have:=hJ g xs k (f+j) y u hy hj
  rw[←Md]at this
  exact this)
def hQ {α:Type}{enc:α→Ao}{t e sz f:Nat}{x y:Operand}{b k n c:Nat}{v:Value}{xs:List α}{p:Addr}{y0 z:α}{Es':Am}{T:Ay}
  (hT:AM t C.ts=some T) (hx:AJ l x=some (.pointer (some p))) (aa:p=⟨b,k*sz+f,none⟩) (hy:AJ l y=some v) (m:∀x,(enc x).length=sz) (u:xs[k]?=some y0)
  (ac:enc z=(enc y0).take f++BX v++(enc y0).drop (f+(BX v).length)) (hf:f+(BX v).length≤sz)
  (w:Ei Es (Ar e sz (.slice (some (Av b)) n c) n (xs.flatMap enc)) (Ar e sz (.slice (some (Av b)) n c) n ((xs.set k z).flatMap enc)) Es')
  (hs:Nat.beq (BX v).length T.size=true) (h1:Ly (BX v)=true) (g:G undef Es' h):Cd C l Es h ⟨none,.store t x y,ty,pos,aft,gd⟩ G:=by
 subst aa
 have r:=Hp m xs
 have j:k<xs.length:=(Kx.1 u).1
 have ab:xs.set k y0=xs:=by
  apply K'
  intro i
  rw[List.getElem?_set]
  split
  · rename_i e;subst e;exact u.symm
  · rfl
 have q:=Wn m xs k y0 j
 rw[ab]at q
 have e1:=Wn m xs k z j
 have s:((xs.flatMap enc).take (k*sz)).length=k*sz:=by
  rw[CF,r]
  have:k*sz≤xs.length*sz:=Pe _ (Nat.le_of_lt j)
  omega
 refine aS hT hx hy w ?_ ?_ hs h1 g
 · rw[e1,ac]
   generalize(xs.flatMap enc).take (k*sz)=A at *
   generalize(xs.flatMap enc).drop (k*sz+sz)=o at *
   have af:=m y0
   generalize enc y0=d at *
   rw[q]
   generalize BX v=a at *
   have ad:(A++d++o).take (k*sz+f)=A++d.take f:=by
    rw[Ck,List.take_append,s,show k*sz+f-k*sz=f by omega,By J,wX J]
   have ae:(A++d++o).drop (k*sz+f+a.length)=d.drop (f+a.length)++o:=by
    rw[Ck,List.drop_append,s,Ym J,FE,show k*sz+f+a.length-k*sz=f+a.length by omega,Ay5 J]
   rw[ad,ae]
   simp only[Ck]
 · rw[r]
   have:(k+1)*sz≤xs.length*sz:=Pe _ j
   rw[Na]at this
   omega
end
section
variable {C:Bu} {ds:CL} {l:AW} {Es:Am} {h:U} {K:CB} {G:Value→Am→U→Prop}
 {d:Tmp} {ty:TypeId} {pos:String} {aft:Cw} {gd:Cq}
def A0b {α:Type}{enc:α→Ao}{x y:Operand}{t e:TypeId}{v:Value}{n c b N lo:Nat}{xs ys:List α}{T a:Ay}{Es':Value→Am}(hT:AM t C.ts=some T)(aa:T.desc=.slice e)(z:AM e C.ts=some a)
  (ae:a.zero.cells.size=a.size) (ad:Nat.blt 0 a.size=true) (hx:AJ l x=some v) (hy:AJ l y=some (.slice (JU (some (Av b)) c lo a.size) (N-lo) (c-lo)))
  (hm:Ar e a.size (.slice (some (Av b)) N c) N (ys.flatMap enc)∈Es) (hn:ys.length=N) (am:lo≤N) (hc:N≤c) (o:∀x,(enc x).length=a.size) (h1:∀x,∀u∈enc x,u.oneCell'=true)
  (f:∀i,Ei Es (Ar e a.size v n (xs.flatMap enc)) (Ar e a.size i (n+(N-lo)) ((xs++ys.drop lo).flatMap enc)) (Es' i)) (ai:n+(N-lo)≤1000000000) (ab:Nat.ble a.bytes 100000=true)
  (g:∀A' k,G (.slice A' (n+(N-lo)) k) (Es' (.slice A' (n+(N-lo)) k)) h):Cd C l Es h ⟨some d,.call ⟨.builtin .append,#[x,y],#[t,t]⟩,ty,pos,aft,gd⟩ G:=by
 rcases KY lo N with a1|hge
 · have ao:¬c=lo:=by omega
   have ak:=Oe ab
   have m:JU (some (Av b)) c lo a.size=some (((Av b):Addr).add (lo*a.size)):=by unfold JU;rw[if_neg ao];rfl
   rw[m]at hy
   have ac:((ys.drop lo).flatMap enc).length=(N-lo)*a.size:=by rw[Hp o,Kw,hn]
   have key:Cd C l Es h ⟨some d,.call ⟨.builtin .append,#[x,y],#[t,t]⟩,ty,pos,aft,gd⟩ (λv r h1=>r=Es' v∧h1=h):=by
    refine Adv hT aa z ae (by simpa[Pf]using ad) hx hy (λi=>by have:=f i;rw[Ep]at this;exact this) ac (λw hp j u hj=>?_) (λu ap=>?_) RN ?_ (λi _=>⟨rfl,rfl⟩)
    · obtain⟨D,a0,hr⟩:=hp.get hm
      rcases hr with⟨h0,_⟩|⟨ar,aq,af,h2,h3,ah,av,aw,ax,aj⟩
      · cases h0
      · injection h2 with h2 _ au
        injection h2 with h2;injection h2 with h2
        subst h2
        have al:w.heap[b]?=some (.cells af e (0,0)):=ah
        have az:j<(N-lo)*a.size:=by rw[←ac];exact(Kx.1 hj).1
        have e1:ys.flatMap enc=(ys.take lo).flatMap enc++(ys.drop lo).flatMap enc:=by rw[←Ep,GW]
        have e2:((ys.take lo).flatMap enc).length=lo*a.size:=by rw[Hp o,CF,hn,QA am]
        have s:(ys.flatMap enc)[lo*a.size+j]?=some u:=by rw[e1,JZ J,e2,Nat.add_sub_cancel_left];exact hj
        have ay:lo*a.size+(N-lo)*a.size=N*a.size:=by rw[←KZ];congr 1;omega
        rw[←aj,FF,if_pos J]at s
        rw[GC,GC,Dy]
        simp only[World.cell?,al]
        simpa using s
    · obtain⟨x,_,hx⟩:=GJ.1 ap
      exact h1 x u hx
    · calc (n+(N-lo))*a.bytes≤1000000000*100000:=dM ai ak
       _≤140737488355328:=by decide
   refine Tk key λv r h1 a2 H ⟨e1,e2⟩=>?_
   subst e1;subst e2
   obtain⟨p,q,_,hq⟩:=f v
   have an:Ar e a.size v (n+(N-lo)) ((xs++ys.drop lo).flatMap enc)∈Es' v:=by rw[hq];simp
   obtain⟨D,m⟩:=H.get an
   obtain⟨A,k,rfl⟩:=Sc m
   exact⟨_,_,H,g A k⟩
 · have ag:N-lo=0:=by omega
   have e1:ys.drop lo=[]:=Ka J
   rw[ag]at hy f g
   rw[e1]at f
   exact CE (ys:=[]) hT aa z ae ad hx hy Ai.nil o h1 f J ab g
end
section
variable {C:Bu} {ds:CL} {l:AW} {Es:Am} {h:U} {K:CB} {G:Value→Am→U→Prop}
 {d:Tmp} {ty:TypeId} {pos:String} {aft:Cw} {gd:Cq}
def A0n {e sz:Nat}{v:Value}{n:Nat}{xs:Ao}(hm:Ar e sz v n xs∈Es)(f:v=.slice none 0 0→n=0→AI C ds l Es h K)(g:∀b c,n≤c→v=.slice (some (Av b)) n c→AI C ds l Es h K):AI C ds l Es h K:=λa w s=>by
 obtain⟨D,h1,hr⟩:=s.hp.get hm
 rcases hr with⟨h2,h3,_⟩|⟨b,d,j,h2,_,_,i,_⟩
 · exact f h2 h3 a w s
 · exact g b d i h2 a w s
def Aya (b c sz:Nat):Ig (some (Av b)) c sz=some (Av b):=by unfold Ig;split;{rfl};{show some (((Av b):Addr).add (0*sz))=_;rw[GC,Uo]}
def Axt {x y:Operand}{t e:TypeId}{k:IntKind}{i:Int}{hi n c b:Nat}{T a:Ay}{dst:CK}(hT:AM t C.ts=some T)(f:T.desc=.slice e)(d:AM e C.ts=some a)
  (hx:AJ l x=some (.slice (some (Av b)) n c)) (hy:AJ l y=some (.int k i)) (g:i=(hi:Int)) (j:hi≤n) (hnc:n≤c):DN C l [] h ⟨dst,.slice t x none (some y) none,ty,pos,aft,gd⟩ (.slice (some (Av b)) hi c):=by
 have:=PA (ty:=ty) (pos:=pos) (aft:=aft) (gd:=gd) (h:=h) (dst:=dst) hT f d hx hy g j hnc
 rwa [Aya]at this
def Awt {α:Type}{enc:α→Ao}{e sz b n c m:Nat}{xs:List α}{Es':Am}{o:Oper}(hm:m≤n)(f:∀x,(enc x).length=sz)(d:Ei Es (Ar e sz (.slice (some (Av b)) n c) n (xs.flatMap enc)) (Ar e sz (.slice (some (Av b)) m c) m ((xs.take m).flatMap enc)) Es')(hn:xs.length=n)
  (g:Cd C l Es' h o G):Cd C l Es h o G:=by
 intro a w s hp
 refine g a w s (hp.asn d λD q H=>?_)
 have h2:=fE hm H
 have e:(xs.flatMap enc).take (m*sz)=(xs.take m).flatMap enc:=by
  have e1:xs.flatMap enc=(xs.take m).flatMap enc++(xs.drop m).flatMap enc:=by rw[←Ep,GW]
  have e2:((xs.take m).flatMap enc).length=m*sz:=by rw[Hp f,CF,hn,QA hm]
  rw[e1,←e2,Yf]
 rw[e]at h2
 exact h2
@[irreducible] def A1n (P:Prop):Prop:=P
end
end Go.Hw