import Derived.Test.YtbmffdagfjepgaaGreatDoorHB
import Derived.Lib.FrozenHead
import Derived.Lib.ConvBytes
import Derived.Lib.BufferRead
import Derived.Lib.ItoaMem
import Derived.Lib.Bytealg
set_option linter.unusedVariables false
set_option linter.unusedSimpArgs false
set_option linter.all false
namespace Go.Hw
open Go
def HB {α:Type} (P:Program) (g:FuncId) (lb:Ao) (R:α→Ao→U→Prop) (xs:List α) (h:U):Prop:=
 ∀(lid:Nat) (I Ix:List α→Am→U→Prop),(∀pre Es h1 h2,V h1 h2→I pre Es h1→I pre Es h2)→(∀pre Es h1 h2,V h1 h2→Ix pre Es h1→Ix pre Es h2)→
  (∀pre x post u Es h1,xs=pre++x::post→V h h1→R x u h1→I pre Es h1→Dg P lid u Es h1 λv Es' h'=>(v=.bool true∧I (pre++[x]) Es' h')∨(v=.bool false∧Ix (pre++[x]) Es' h'))→
  ∀Es h1,V h h1→I [] Es h1→AP P g (.func (.yield lid) #[] #[]::lb).toArray Es h1 λv Es' h'=>I xs Es' h'∨∃pre post,xs=pre++post∧Ix pre Es' h'
def HB.le {α:Type}{P:Program}{g:FuncId}{lb:Ao}{R:α→Ao→U→Prop}{xs:List α}{h h':U}(s:HB P g lb R xs h)(l:V h h'):HB P g lb R xs h':=by intro lid I Ix o p hr Es h1 i j;refine(s lid (λpre Es h2=>V h' h2∧I pre Es h2) (λpre Es h2=>Ix pre Es h2) (λpre Es a b f ⟨c,d⟩=>⟨c.trans f,o _ _ _ _ f d⟩) p (λpre x post u Es h2 e _ n ⟨c,d⟩=>(hr pre x post u Es h2 e c n d).mono λv Es h3 m k=>k.imp (λ⟨q,r⟩=>⟨q,c.trans m,r⟩) id) Es h1 (l.trans i) ⟨i,j⟩).mono ?_;rintro v Es' h2 _ (⟨_,h3⟩|h3);{exact .inl h3};{exact .inr h3}
def QY {C:Bu}{ds:CL}{l:AW}{Es:Am}{h:U}{K:CB}{g:Operand}{ps:Array Tmp}{assign body:Code}{α:Type}{gf:Nat}{lb:Ao}{R:α→Ao→U→Prop}{xs:List α}
  (bj:C.ro=none) (hg:AJ l g=some (.func (.func gf) #[] lb.toArray)) (hh:BP C.P gf) (bl:HB C.P gf lb R xs h) (bi:∀x u h,R x u h→u.length=ps.size) (bg:ps.toList.all (λp=>Nat.blt p C.N)=true)
  (I:List α→Am→U→Prop) (Ix:Code→List α→Am→U→Prop) (bm:∀pre Es h1 h2,V h1 h2→I pre Es h1→I pre Es h2) (bn:∀c pre Es h1 h2,V h1 h2→Ix c pre Es h1→Ix c pre Es h2) (h0:I [] Es h)
  (round:∀(lid:Nat) (r:Loop) (w0:World) (X0:BD) pre x post u k h1,xs=pre++x::post→R x u h1→I pre k h1→V h h1→r.state=.ready→
    AI (Amq C.P C.ts C.ok C.N lid w0 X0 h1 (UM lid r (I (pre++[x])) (λc=>Ix c (pre++[x])))) [] (Y' ps.toList u l) (FI lid r::k) h1 [.code assign,.beginRound,.code body])
  (done:∀D h1 k,V h h1→I xs k h1→AI C (mark D::ds) l (Nr D::k) h1 K)
  (stop:∀D h1 k c pre post,xs=pre++post→V h h1→Ix c pre k h1→AI C (mark D::ds) l (Nr D::k) h1 (.code c::K)) :
  AI C ds l Es h (.code (.rangeFunc g ps assign body)::K):=by
 intro a w s
 refine A04 λfn=>?_
 obtain⟨d,n⟩:∃d:Loop,d = {state:=.ready,pending:=none,fn,tmps:=a.tmps,params:=ps,assign,body,defers:=w.heap.size}:=⟨_,rfl⟩
 obtain⟨lid,aw⟩:∃lid,lid=w.heap.size+1:=⟨_,rfl⟩
 obtain⟨y,av⟩:∃y,(w.alloc (.deferred (some []))).alloc (.loop d)=y:=⟨_,rfl⟩
 have a3:Bq C.w0 C.X0 C.h0 (Nr w.heap.size::Es) h (w.alloc (.deferred (some []))):=s.hp.alloc _ _ λm hm=>⟨rfl,_,hm,rfl⟩
 have a4:Bq C.w0 C.X0 C.h0 (FI lid d::Nr w.heap.size::Es) h y:=by
  have aj:(w.alloc (.deferred (some []))).heap.size=lid:=by rw[aw];simp
  have:=a3.alloc (.loop d) (FI lid d) (by rw[aj];exactλm hm=>⟨rfl,_,hm,rfl⟩)
  rw[←av];exact this
 have al:Bq C.w0 C.X0 C.h0 ((FI lid d::Es)++[Nr w.heap.size]) h y:=a4.perm (by
  simp only[FW];exact(JW (l₁:=[Nr w.heap.size]) (l₂:=Es)).cons _)
 refine⟨lid,[mark w.heap.size],y,{target:=.fn (.func gf) lb.toArray,args:=#[.func (.yield lid) #[] #[]]},y,gf,(.func (.yield lid) #[] #[]::lb).toArray,y,?_,?_,?_,?_⟩
 · rw[bj,←av,n,aw];exact run_enterLoop_outer _ _ _ _ _
 · have e1:a.eval g=.func (.func gf) #[] lb.toArray:=s.slots.eval hg
   simp only[resolve,e1]
   simp[go_sem]
 · obtain⟨bq,f,j,q⟩:=hh
   simp only[invoke]
   simp[go_sem,nH f j q]
 obtain⟨bo,ap,hn,an⟩:=al.own
 obtain⟨ah,a0,rfl,ay,bf⟩:=ap.split
 have hb1:∀b∈ah.flatten,b∈(ah++a0).flatten:=λb h1=>by rw[Ib,AO];exact .inl h1
 have a':=bl lid (λpre Es h'=>∃Fs,Es=FI lid d::Fs∧I pre Fs h'∧V h h') (λpre Es h'=>∃c Fs,Es=FI lid {d with state:=.done,pending:=some c}::Fs∧Ix c pre Fs h'∧V h h')
  (λpre Es h1 h2 ag ⟨Fs,f,j,q⟩=>⟨Fs,f,bm _ _ _ _ ag j,q.trans ag⟩) (λpre Es h1 h2 ag ⟨c,Fs,f,j,q⟩=>⟨c,Fs,f,bn _ _ _ _ _ ag j,q.trans ag⟩)
  (λpre x post u k h1 hx br az ⟨Fs,f,j,q⟩=>by
    subst f
    intro ac ae bb ⟨a1,ax,bd,ao⟩
    have bc:ac.heap[lid]?=some (.loop d):=by
     obtain⟨D,a5,_⟩:=ax.get (La _)
     obtain⟨_,o,hm,rfl⟩:=a5
     exact hm
    have hy:=run_yield (P:=C.P) (args:=u.toArray) bc (by rw[n];simpa using bi x u h1 az)
    refine⟨_,_,_,_,0,hy,A0u ?_⟩
    have aj:=iL (ps:=ps.toList) (vs:=u) (l:=l) (tmps:=a.tmps) (N:=C.N) s.slots s.size bg
    have e:((d.params.zip u.toArray).foldl (λtmps (t,a)=>tmps.setIfInBounds t a) d.tmps)=((ps.toList.zip u).foldl (λt p=>t.setIfInBounds p.1 p.2) a.tmps):=by
     rw[n,←Array.foldl_toList,Array.toList_zip]
    rw[e]
    have aq:d.state=.ready:=by rw[n]
    have bk :{d with state:=.ready,pending:=none}=d:=by rw[n]
    have R:=round lid d ac ae pre x post u Fs h1 hx az j q aq {tmps:=(ps.toList.zip u).foldl (λt p=>t.setIfInBounds p.1 p.2) a.tmps,defers:=[]} ac
     ⟨aj.2,rfl,aj.1,⟨rfl,rfl,rfl,BU _,BU _,λ_ _ _=>rfl,bb,V.refl _,λi o e=>.inl e,a1,ax,bd,λb hb1=>⟨(ao b hb1).1,.inr (ao b hb1).2.1,(ao b hb1).2.2⟩⟩⟩
    have a6:d.assign=assign:=by rw[n]
    have a9:d.body=body:=by rw[n]
    rw[←a6,←a9]at R
    have mono:∀e af w2,Vp C.P lid ac ae h1 (UM lid d (I (pre++[x])) (λc=>Ix c (pre++[x]))) e af w2→roundPost C.P lid (λe w2=>∃v,e=.returned v∧∃Es h2,((v=.bool true∧∃Fs,Es=FI lid d::Fs∧I (pre++[x]) Fs h2∧V h h2)∨(v=.bool false∧∃c Fs,Es=FI lid {d with state:=.done,pending:=some c}::Fs∧Ix c (pre++[x]) Fs h2∧V h h2))∧Bq ac ae h1 Es h2 w2) e af w2:=by
     have ai:∀e w2,(∃v,e=Ending.returned v∧∃Es h2,UM lid d (I (pre++[x])) (λc=>Ix c (pre++[x])) v Es h2∧Bq ac ae h1 Es h2 w2)→(∃v,e=Ending.returned v∧∃Es h2,((v=.bool true∧∃Fs,Es=FI lid d::Fs∧I (pre++[x]) Fs h2∧V h h2)∨(v=.bool false∧∃c Fs,Es=FI lid {d with state:=.done,pending:=some c}::Fs∧Ix c (pre++[x]) Fs h2∧V h h2))∧Bq ac ae h1 Es h2 w2):=by
      rintro e w2 ⟨v,ba,Es,h2,am,H⟩
      refine⟨v,ba,Es,h2,?_,H⟩
      rcases am with⟨aa,Fs,z,ar⟩|⟨aa,c,Fs,z,ar⟩
      · rw[bk]at z;exact .inl ⟨aa,Fs,z,ar,q.trans H.le⟩
      · exact .inr ⟨aa,c,Fs,z,ar,q.trans H.le⟩
     intro e af w2 hq
     cases e with
     |normal=>obtain⟨v,ad,f,j⟩:=hq;exact⟨v,ad,f,ai _ _ j⟩
     |ret=>obtain⟨v,ad,f,j⟩:=hq;exact⟨v,ad,f,ai _ _ j⟩
     |exit bs=>obtain⟨v,ad,f,j⟩:=hq;exact⟨v,ad,f,ai _ _ j⟩
     |goto t=>obtain⟨v,ad,f,j⟩:=hq;exact⟨v,ad,f,ai _ _ j⟩
     |panic bp=>exact hq.elim
     |outgrown=>exact hq.elim
    intro b cs a8
    obtain⟨e,af,w2,hq,a7⟩:=R b cs a8
    exact⟨e,af,w2,mono _ _ _ hq,a7⟩)
  (FI lid d::Es) h (V.refl h) ⟨Es,rfl,h0,V.refl h⟩
 refine(a' y ah.flatten al.ro ⟨ah,ay,by rw[Ib,Fm]at hn;exact hn.1,λb h1=>⟨(an b (hb1 b h1)).1,h1,(an b (hb1 b h1)).2.2⟩⟩).mono ?_
 rintro e ak ⟨v,rfl,Es',h',am,a2⟩
 have au:=al.call ay bf hn an a2
 refine⟨v,rfl,?_⟩
 have be:d.state≠.busy:=by rw[n];simp
 have fin:∀(ab:Loop) (Fs:Am),ab.state≠.busy→Bq C.w0 C.X0 C.h0 (FI lid ab::Fs++[Nr w.heap.size]) h' ak→(Instr.endLoop lid).run C.P ak=.ok ab.pending (ak.putObj lid (.loop {ab with state:=.exhausted}))∧
  Bq C.w0 C.X0 C.h0 (Nr w.heap.size::Fs) h' (ak.putObj lid (.loop {ab with state:=.exhausted})):=by
  intro ab Fs aq H
  obtain⟨o,ap,rfl⟩:=H.obj
  refine⟨run_endLoop ap aq,?_⟩
  have:=(H.putObj (p':=λo=>o=.loop {ab with state:=.exhausted}) rfl).drop .here
  exact this.perm (JW (l₁:=Fs) (l₂:=[Nr w.heap.size]))
 rcases am with⟨Fs,rfl,aa,z⟩|⟨pre,post,hx,c,Fs,rfl,aa,z⟩
 · obtain⟨f,j⟩:=fin d Fs be au
   have bh:d.pending=none:=by rw[n]
   rw[bh]at f j
   refine⟨none,_,f,?_⟩
   exact done w.heap.size h' Fs z aa {a with defers:=[mark w.heap.size]++a.defers} _ ⟨s.size,by rw[←s.defers];rfl,s.slots,j⟩
 · obtain⟨f,j⟩:=fin {d with state:=.done,pending:=some c} Fs An au
   refine⟨some c,_,f,?_⟩
   exact stop w.heap.size h' Fs c pre post hx z aa {a with defers:=[mark w.heap.size]++a.defers} _ ⟨s.size,by rw[←s.defers];rfl,s.slots,j⟩
def Cj (l:Bj):ByteArray:=⟨l.toArray⟩
def Li (l:Bj):(Cj l).toList=l:=by rw[ByteArray.toList_eq];rfl
def RJ (l:Bj):(Cj l).size=l.length:=rfl
def Avr (a b:Bj):Cj a++Cj b=Cj (a++b):=by apply ByteArray.ext;simp[Cj]
def BZ (b:UInt8):Ao:=[.int .u8 b.toNat]
def QU (l:Bj):l.flatMap BZ=l.map λb=>Value.int .u8 b.toNat:=by induction l with|nil=>rfl|cons x r a=>rw[Eb,a];rfl
def Az5 (l:Bj):Lib.strCells (Cj l)=l.flatMap BZ:=by rw[QU];rfl
def Cm (f:Bool) (e:TypeId) (v:Value) (n:Nat) (xs:Ao):EQ:=
 ⟨λD m=>xs.length=n∧((v=.slice none 0 0∧n=0∧D=[])∨
  ∃g a c b,v=.slice (some (Av g)) n a∧D=[g]∧m g=some (.cells c e b)∧(b=(0,0)∨(f=true∧(a≤b.1∨b.2=0)))∧n≤a∧a≤maxLen∧c.size=a∧c.toList.take n=xs),
  λD m j h ⟨i,hr⟩=>⟨i,hr.imp id λ⟨g,a,c,b,h1,h2,h3,d⟩=>⟨g,a,c,b,h1,h2,by rw[←h g (by simp[h2])];exact h3,d⟩⟩⟩
abbrev Awn:=Cm true
def Awm {f:Bool}{e:TypeId}{v:Value}{n:Nat}{xs:Ao}(D:BD)(m:U)(h:(Ar e 1 v n xs).holds D m):(Cm f e v n xs).holds D m:=by obtain⟨c,hr⟩:=h;rw[Gy]at c;refine⟨c,hr.imp id ?_⟩;rintro⟨g,d,i,h1,h2,h3,j,k,a,b⟩;rw[Gy]at a b;exact⟨g,d,i,(0,0),h1,h2,h3,.inl rfl,j,k,a,b⟩
def Awk {e:TypeId}{v:Value}{n:Nat}{xs:Ao}(D:BD)(m:U)(h:(Cm false e v n xs).holds D m):(Ar e 1 v n xs).holds D m:=by obtain⟨k,hr⟩:=h;refine⟨by rw[Gy];exact k,hr.imp id ?_⟩;rintro⟨g,a,b,c,h1,h2,h3,hf,d,f,i,j⟩;obtain rfl:c=(0,0):=hf.elim id (λh=>by cases h.1);exact⟨g,a,b,h1,h2,h3,d,f,by rw[Gy];exact i,by rw[Gy];exact j⟩
def yP {f:Bool}{e:TypeId}{v:Value}{n:Nat}{l:Bj}{D:BD}{h:U}(hn:l.length=n)(H:(Cm f e v n (l.flatMap BZ)).holds D h):∃A c,v=.slice A n c∧n≤c∧Ai BZ 1 h A n l:=by obtain⟨p,hr⟩:=H;rcases hr with⟨rfl,h0,_⟩|⟨g,b,k,m,rfl,_,h3,_,d,_,o,i⟩;{subst h0;have:l=[]:=Fu hn;subst this;exact⟨none,0,rfl,BU _,Ai.nil⟩};{refine⟨_,b,rfl,d,Ai.of_flat (λ_=>rfl) hn λj u a=>?_⟩;rw[GC,Dy];rw[←i,FF]at a;split at a;{unfold Nv;rw[h3];simpa using a};{cases a}}
theorem eX (P:Program)(g o:Nat)(t:TypeId)(b:Nat×Nat):∀(vs:Ao) (i:Nat) (a:Dx) (w:World),w.heap[g]?=some (.cells a t b)→(a.size≤b.1∨b.2=0)→o+i+vs.length≤a.size→(∀v∈vs,v.oneCell'=true)→
  (storeCells ⟨g,o,none⟩ vs i).run P w=.ok () (w.setRow g (a.toList.take (o+i)++vs++a.toList.drop (o+i+vs.length)).toArray)
 |[],i,a,w,hg,_,_,_=>by
   simp only[storeCells,DR,Jw,Sg,GW,SJ]
   rw[setRow_self w g a t b hg]
   rfl
 |v::rest,i,a,w,hg,d,c,h1=>by
   have hi:o+i<a.size:=by simp at c;omega
   have f:(⟨g,o,none⟩:Addr).add i=⟨g,o+i,none⟩:=by unfold Addr.add;split<;>simp_all
   have h:w.cell? ⟨g,o+i,none⟩=some a[o+i]:=by simp[World.cell?,hg,hi]
   have j:w.frozen? ⟨g,o+i,none⟩=false:=by
    obtain⟨lo,m⟩:=b
    simp only[World.frozen?,hg,Bool.and_eq_false_iff,decide_eq_false_iff_not]
    simp only at d
    omega
   have k:(store ((⟨g,o,none⟩:Addr).add i) v).run P w=.ok () (w.setRow g (a.setIfInBounds (o+i) v)):=by
    rw[f,run_store P w _ v _ (h1 v An),h]
    simp[j,setCell_eq_setRow w g (o+i) a t b v hg]
   have l:=eX P g o t b rest (i+1) (a.setIfInBounds (o+i) v) (w.setRow g (a.setIfInBounds (o+i) v)) (setRow_heap w g a _ t _ hg) (by simpa using d) (by simp at c ⊢;omega) (λx hx=>h1 x L')
   simp only[storeCells,BK,k,B',l,setRow_setRow]
   congr 3
   have e:=list_seg_step a.toList (o+i) v rest (by simp at c ⊢;omega)
   simpa[Array.toList_setIfInBounds,Md]using e
def yQ {f:Bool}{P:Program}{R:Sem Value}{e:TypeId}{v:Value}{n m:Nat}{xs c:Ao}{D:BD}{w:World}(ag:(Cm f e v n xs).holds D (mem w))(hm:c.length=m)(aq:n+m≤1000000000)
  (ao:∀g a d o,v=.slice (some (Av g)) n a→w.heap[g]?=some (.cells d e o)→(d.size≤o.1∨o.2=0)→n+m≤a→n+c.length≤d.size→
    R.run P w=.ok (.slice (some (Av g)) (n+m) a) (w.setRow g (d.toList.take n++c++d.toList.drop (n+m)).toArray))
  (ac:∀b a,v=.slice (some b) n a→(∀j u,xs[j]?=some u→w.cell? (b.add j)=some u)→a<n+m→
    R.run P w=.ok (.slice (some (Av w.heap.size)) (n+m) (grownCap w (n+m) a e)) (w.drew.alloc (.cells (xs.toArray++c.toArray++Builtin.zeroCells (Value.int .u8 0).cells (grownCap w (n+m) a e-(n+m))) e)))
  (am:v=.slice none 0 0→m=0→R.run P w=.ok (.slice none 0 0) w)
  (an:v=.slice none 0 0→0<m→R.run P w=.ok (.slice (some (Av w.heap.size)) m (grownCap w m 0 e)) (w.drew.alloc (.cells (c.toArray++Builtin.zeroCells (Value.int .u8 0).cells (grownCap w m 0 e-m)) e))) :
  ∃ab h,R.run P w=.ok ab h∧h.os=w.os∧h.tape=w.tape∧h.output=w.output∧w.heap.size≤h.heap.size∧
   ∃l,(Cm f e ab (n+m) (xs++c)).holds l (mem h)∧l.Nodup∧(∀b∈l,(b∈D∨w.heap.size≤b)∧b<h.heap.size)∧∀i,i<w.heap.size→i∉D→h.heap[i]?=w.heap[i]?:=by
 obtain⟨t,hr⟩:=ag
 have r:(xs++c).length=n+m:=by rw[Bt,t,hm]
 have ai:n+m≤maxLen:=by unfold maxLen;omega
 have aa:∀(a:Nat) (C:Dx),a<n+m→C=xs.toArray++c.toArray++Builtin.zeroCells (Value.int .u8 0).cells (grownCap w (n+m) a e-(n+m))→
  ∃l,(Cm f e (.slice (some (Av w.heap.size)) (n+m) (grownCap w (n+m) a e)) (n+m) (xs++c)).holds l (mem (w.drew.alloc (.cells C e)))∧l.Nodup∧
   (∀b∈l,(b∈D∨w.heap.size≤b)∧b<(w.drew.alloc (.cells C e)).heap.size)∧∀i,i<w.heap.size→i∉D→(w.drew.alloc (.cells C e)).heap[i]?=w.heap[i]?:=by
  intro a C hc y
  have hge:=grownCap_ge w (n+m) a e
  have hcm:=grownCap_le_maxLen w (n+m) a e ai
  refine⟨[w.heap.size],⟨r,.inr ⟨w.heap.size,_,C,(0,0),rfl,rfl,heap_alloc_new w.drew _,.inl rfl,hge,hcm,?_,?_⟩⟩,An,?_,λk ah _=>heap_alloc_old w.drew _ ah⟩
  · have al:(Value.int IntKind.u8 0).cells.size=1:=rfl
    simp only[y,YT,Nb,size_zeroCells,al,t,hm]
    omega
  · simp only[y,hW,Ck]
    rw[←Ck,←r]
    exact Yf
  · intro b p
    simp only[Bk]at p
    subst p
    exact⟨.inr (BU _),An⟩
 rcases hr with⟨rfl,h0,rfl⟩|⟨g,a,d,o,rfl,rfl,h3,q,ap,ae,af,x⟩
 · subst h0
   have hx:xs=[]:=Fu t
   subst hx
   by_cases h0:m=0
   · subst h0
     have hn:c=[]:=Fu hm
     subst hn
     exact⟨_,_,am rfl rfl,rfl,rfl,rfl,BU _,[],⟨rfl,.inl ⟨rfl,rfl,rfl⟩⟩,An,An,λ_ _ _=>rfl⟩
   · have hr:=an rfl J
     have:=aa 0 (c.toArray++Builtin.zeroCells (Value.int .u8 0).cells (grownCap w m 0 e-m)) J (by simp only[Dy,Array.empty_append])
     simp only[Dy,FE]at this ⊢
     exact⟨_,_,hr,rfl,rfl,rfl,An,this⟩
 · by_cases z:n+m≤a
   · have hr:=ao g a d o rfl h3 (by rw[af];rcases q with rfl|q;exact .inr rfl;exact q.2) z J
     refine⟨_,_,hr,rfl,rfl,rfl,An,[g],⟨r,.inr ⟨g,a,_,o,rfl,rfl,setRow_heap w g d _ e _ h3,q,z,ae,?_,?_⟩⟩,An,?_,λi hi aj=>setRow_other w g i _ (λe=>aj MS)⟩
     · simp only[Nb,Bt,CF,Kw,PI]
       omega
     · rw[x,←r];exact Yf
     · intro b p
       simp only[Bk]at p
       subst p
       exact⟨.inl An,by simpa using(JE.1 (show w.heap[b]?=_ from h3)).1⟩
   · have ak:∀j u,xs[j]?=some u→w.cell? (((Av g):Addr).add j)=some u:=by
      intro j u s
      rw[GC,Dy]
      rw[←x,FF]at s
      split at s
      · have ad:w.heap[g]?=some (.cells d e o):=h3
        simp only[World.cell?,ad];simpa using s
      · cases s
     have hr:=ac (Av g) a rfl ak J
     exact⟨_,_,hr,rfl,rfl,rfl,An,aa a _ J rfl⟩
section
variable {C:Bu} {ds:CL} {l:AW} {Es:Am} {h:U} {K:CB} {G:Value→Am→U→Prop} {ty:TypeId} {pos:String} {aft:Cw} {gd:Cq} {d:Tmp} {dst:CK}
def hN {t:TypeId}{x y:Operand}{s:Bj}{j:Nat}{k:IntKind}{i:Int}{T:Ay}(hT:AM t C.ts=some T)(d:T.desc=.string)(hx:AJ l x=some (.string (Cj s)))(hy:AJ l y=some (.int k i))(hi:i=(j:Int))(hj:j<s.length) :
  DN C l [] h ⟨dst,.index t x y,ty,pos,aft,gd⟩ (.int .u8 ((s.getD j 0).toNat:Int)):=
 ⟨rfl,λa w hs _ _=>by
  obtain⟨e,b,c⟩:=C.ok.run_und hT
  have b:=b w
  rw[d]at c
  rw[Ox c]at b
  subst hi
  have hg:(Cj s)[j]?=some (s.getD j 0):=by
   have h1:j<(Cj s).size:=hj
   rw[getElem?_pos (Cj s) j h1]
   congr 1
   show s[j]=_
   simp[List.getD,Bw hj]
   rfl
  simp only[execOp,hs.eval hx,hs.eval hy,Instr.index,asIntOf,BK,CV,B',b,UJ,Int.natCast_nonneg,if_true,hg]⟩
def TB {t ty':TypeId}{x y:Operand}{a b:Bj}{T:Ay}(hT:AM t C.ts=some T)(hx:AJ l x=some (.string (Cj a)))(hy:AJ l y=some (.string (Cj b)))(f:a.length+b.length≤1000000000) :
  DN C l [] h ⟨dst,.binOp .add t x y ty',ty,pos,aft,gd⟩ (.string (Cj (a++b))):=
 ⟨rfl,λac w hs _ _=>by
  obtain⟨d,c,e⟩:=C.ok.run_und hT
  have c:=c w
  have hm:¬(((Cj a).size+(Cj b).size:Nat):Int)>IntKind.i64.max:=by
   rw[RJ,RJ];(have e2:IntKind.i64.max=9223372036854775807:=by decide);rw[e2];omega
  have e1:(eqGuard .add t x y (.string (Cj a)) (.string (Cj b)):Sem Unit).run C.P w=.ok () w:=rfl
  simp only[execOp,hs.eval hx,hs.eval hy,BK,e1,B',binOp,Op.stringOp,hm,if_false,Avr,CV]⟩
def Ab7 {t u e:TypeId}{x:Operand}{s:Bj}{T k j:Ay}(hT:AM t C.ts=some T)(v:AM u C.ts=some k)(z:k.desc=.slice e)(q:AM e C.ts=some j)(r:j.desc=.int .u8)(hx:AJ l x=some (.string (Cj s)))(ag:s.length≤1000000000)
  (g:∀b c,G (.slice (some (Av b)) s.length c) (Awn e (.slice (some (Av b)) s.length c) s.length (s.flatMap BZ)::Es) h):Cd C l Es h ⟨dst,.convert t u x,ty,pos,aft,gd⟩ G:=
 λa w hs hp=>by
  obtain⟨ad,ac,_⟩:=C.ok.und hT
  obtain⟨ae,n,hb1⟩:=C.ok.und v
  rw[z]at hb1;rw[Ho hb1]at n
  obtain⟨af,o,m⟩:=C.ok.und q
  rw[r]at m;rw[Nk m]at o
  have hr:=Lib.run_convert_string_bytes (P:=C.P) w t u e (Cj s) ac n o
  refine .inl ⟨_,Lib.bytesWorld w e (Cj s),_,h,?_,?_,g w.heap.size (grownCap w s.length 0 e)⟩
  · simp only[execOp,hs.eval hx,BK,hr,B',CV];rfl
  · refine hp.turn rfl rfl rfl (by rw[Lib.bytesWorld_size];omega) λp ab aa f=>?_
    refine⟨[w.heap.size]::p,⟨⟨?_,.inr ⟨w.heap.size,_,Lib.bytesCells w e (Cj s),_,rfl,rfl,Lib.bytesWorld_at_new w e (Cj s),.inr ⟨rfl,.inl ?_⟩,grownCap_ge _ _ _ _,grownCap_le_maxLen _ _ _ _ RN,?_,?_⟩⟩,?_⟩,?_,?_,?_⟩
    · rw[Hp (sz:=1) (λ_=>rfl),Gy]
    · have:=grownCap_ge w s.length 0 e
      simp only[Lib.bytesCells,YT,Array.size_map,Vb]
      show grownCap w s.length 0 e≤s.length+(grownCap w s.length 0 e-s.length)
      omega
    · have:=grownCap_ge w s.length 0 e
      simp only[Lib.bytesCells,YT,Array.size_map,Vb]
      show s.length+(grownCap w s.length 0 e-s.length)=_
      omega
    · rw[QU]
      simp only[Lib.bytesCells,hW,Array.toList_map]
      exact eD (by simp[Cj])
    · exact ab.loc λb d=>by
       have:=f b d
       show w.heap[b]?=_
       exact(Lib.bytesWorld_at_old w e (Cj s) b this).symm
    · rw[Gk,Fm]
      refine⟨An,aa,?_⟩
      intro x hx y hy
      simp only[Bk]at hx
      have:=f y hy
      omega
    · intro b d
      rw[Gk,AO,Bk]at d
      rw[Lib.bytesWorld_size]
      rcases d with rfl|d
      · exact⟨.inr (BU _),J⟩
      · have:=f b d;exact⟨.inl d,J⟩
    · intro i hi _
      exact Lib.bytesWorld_at_old w e (Cj s) i hi
def Adw {t u e:TypeId}{x:Operand}{s:Bj}{T d a:Ay}(hT:AM t C.ts=some T)(m:AM u C.ts=some d)(n:d.desc=.slice e)(j:AM e C.ts=some a)(k:a.desc=.int .u8)(hx:AJ l x=some (.string (Cj s)))(o:s.length≤1000000000)
  (g:∀A c h',V h h'→Ai BZ 1 h' A s.length s→G (.slice A s.length c) Es h'):Cd C l Es h ⟨dst,.convert t u x,ty,pos,aft,gd⟩ G:=
 xV (Ab7 hT m n j k hx o λb c=>⟨_,Es,rfl,λD r p i=>by
  obtain⟨A,q,e1,_,e2⟩:=yP rfl i
  injection e1 with e1 _ f
  subst e1;subst f
  exact g _ _ _ p e2⟩)
def fV {t u e:TypeId}{x:Operand}{s:Bj}{A:At}{n c:Nat}{T o m:Ay}(hT:AM t C.ts=some T)(ab:T.desc=.slice e)(ac:AM u C.ts=some o)(ad:o.desc=.string)(z:AM e C.ts=some m)(aa:m.desc=.int .u8)(hx:AJ l x=some (.slice A n c))(hsl:Ai BZ 1 h A n s) :
  DN C l [] h ⟨dst,.convert t u x,ty,pos,aft,gd⟩ (.string (Cj s)):=
 ⟨rfl,λa w hs _ ae=>by
  obtain⟨af,g,p⟩:=C.ok.und hT
  rw[ab]at p;rw[Ho p]at g
  obtain⟨ag,i,hb1⟩:=C.ok.und ac
  rw[ad]at hb1;rw[Ox hb1]at i
  obtain⟨ah,k,q⟩:=C.ok.und z
  rw[aa]at q;rw[Nk q]at k
  have f:=hsl.len
  have key:(convert t u (.slice A n c)).run C.P w=.ok (.string (Cj s)) w:=by
   cases A with
   |none=>
     have:s=[]:=by
      cases s with
      |nil=>rfl
      |cons b r=>
        obtain⟨d,h1⟩:=hsl.addr (show 0<n by simp at f;omega)
        cases h1
     subst this
     subst f
     exact Lib.run_convert_nil_bytes w t u e c g k i
   |some d=>
     subst f
     refine run_convert_bytes_back w t u e d c s g k i λj hj=>?_
     have h1:=hsl.cells 0 hj
     have h2:=h1 0 (.int .u8 (s.getD j 0).toNat) rfl
     rw[Ps]
     have v:(d.add (j*1)).add 0=d.add j:=by rw[Mp];simp
     rw[v]at h2
     have y:s.getD j 0=s[j]:=by simp[List.getD,Bw hj]
     rw[y]at h2
     exact Ph ae h2
  simp only[execOp,hs.eval hx,key,BK,B',CV]⟩
def Abn {f:Bool}{P:Program}{e t u ty:TypeId}{i:TypeInfo}(c:P.underlying t=some (.slice e))(d:P.underlying u=some .string)(hi:P.info? e=some i)(p:i.zero=some (.int .u8 0))(hs1:i.size=1)(hb1:i.bytes=1)
  {v:Value} {n:Nat} {xs:Ao} {D:BD} {w:World} (l:(Cm f e v n xs).holds D (mem w)) (s:Bj) (y:n+s.length≤1000000000) :
  ∃q a,(Builtin.append_ #[t,u] ty #[v,.string (Cj s)]).run P w=.ok q a∧a.os=w.os∧a.tape=w.tape∧a.output=w.output∧w.heap.size≤a.heap.size∧
   ∃h,(Cm f e q (n+s.length) (xs++s.flatMap BZ)).holds h (mem a)∧h.Nodup∧(∀b∈h,(b∈D∨w.heap.size≤b)∧b<a.heap.size)∧∀i,i<w.heap.size→i∉D→a.heap[i]?=w.heap[i]?:=by
 have hsl:(Cj s).size=s.length:=rfl
 have j:(Lib.strCells (Cj s)).length=s.length:=by rw[Lib.strCells_length];rfl
 rw[←Az5]
 have ab:xs.length=n:=l.1
 refine yQ l j y ?_ ?_ ?_ ?_
 · intro g k r x hv hg z aa m
   subst hv
   have hf:=Lib.run_firstCells_string (P:=P) w 1 (Cj s)
   rw[hsl]at hf
   have o:=eX P g n e x (Lib.strCells (Cj s)) 0 r w hg z (by rw[j]at m ⊢;simpa using m) (Lib.strCells_oneCell (Cj s))
   simp only[Sg,j]at o
   simp[Builtin.append_,run_underlying c,run_underlying d,sizeOf,typeInfo,hi,hs1,Builtin.lenOf,hsl,aa,hf,Addr.add_lit,o]
 · intro b k hv hc ac
   subst hv
   exact Lib.run_append_grow_string (P:=P) w t u ty e i (.int .u8 0) c d hi p b n k xs (by rw[hs1,ab,Gy]) hc (Cj s) (by rw[hsl];omega) (by rw[hsl];omega) (by rw[hb1,hsl];exact growslice_fits J J)
 · intro hv h0
   subst hv
   have hf:=Lib.run_firstCells_string (P:=P) w 1 (Cj s)
   have hn:Lib.strCells (Cj s)=[]:=Fu J
   rw[hsl,h0]at hf
   simp[Builtin.append_,run_underlying c,run_underlying d,sizeOf,typeInfo,hi,hs1,Builtin.lenOf,hsl,h0,hf]
 · intro hv h0
   subst hv
   have hr:=run_append_nil_string (P:=P) w t u ty e i (.int .u8 0) c d hi p (Cj s) (by rw[hsl];omega) (by rw[hsl];omega) (by rw[hb1,hsl];omega)
   have e1:((Cj s).data.map λb=>Value.int .u8 b.toNat)=(Lib.strCells (Cj s)).toArray:=by
    apply Rc;simp[Lib.strCells]
   rw[e1,hsl]at hr
   exact hr
def gR {f:Bool}{e:TypeId}{v:Value}{n:Nat}{xs:Ao}{D:BD}{m:U}(h:(Cm f e v n xs).holds D m):∃A c,v=.slice A n c:=by rcases h.2 with⟨rfl,rfl,_⟩|⟨g,a,_,_,rfl,_⟩;{exact⟨none,0,rfl⟩};{exact⟨_,a,rfl⟩}
def Axv {f:Bool}{t u e:TypeId}{x y:Operand}{v:Value}{n:Nat}{xs:Ao}{s:Bj}{T m d:Ay}{Es':Value→Am}(hT:AM t C.ts=some T)(am:T.desc=.slice e)(an:AM u C.ts=some m)(ao:m.desc=.string)(ai:AM e C.ts=some d)(al:d.zero=.int .u8 0)(ak:d.size=1)(aj:d.bytes=1)
  (hx:AJ l x=some v) (hy:AJ l y=some (.string (Cj s))) (q:∀k,Ei Es (Cm f e v n xs) (Cm f e k (n+s.length) (xs++s.flatMap BZ)) (Es' k)) (af:n+s.length≤1000000000)
  (g:∀A c,G (.slice A (n+s.length) c) (Es' (.slice A (n+s.length) c)) h):Cd C l Es h ⟨dst,.call ⟨.builtin .append,#[x,y],#[t,u]⟩,ty,pos,aft,gd⟩ G:=λa w hs hp=>by
 obtain⟨i,hi,ap,aq,ar⟩:=C.ok.info ai
 obtain⟨ay,aa,r⟩:=C.ok.und hT
 rw[am]at r;rw[Ho r]at aa
 obtain⟨az,ab,hb1⟩:=C.ok.und an
 rw[ao]at hb1;rw[Ox hb1]at ab
 obtain⟨a0,av,au,a3⟩:=hp.own
 obtain⟨D,o,a2,a4,_⟩:=(q v).own av au
 obtain⟨k,aw,z,h1,h2,h3,ae,p⟩:=Abn (P:=C.P) (ty:=ty) aa ab hi (by rw[ar,al]) (by rw[ap,ak]) (by rw[aq,aj]) o s af
 obtain⟨ax,ah,_⟩:=id p
 obtain⟨A',ad,rfl⟩:=gR ah
 refine .inl ⟨_,aw,Es' _,h,?_,?_,g A' ad⟩
 · simp only[execOp,resolve,invoke,builtin,BK,CV,B',QM,CW,Jv,hs.eval hx,hs.eval hy,z]
 · refine hp.repl (q _) h1 h2 h3 ae (hdr:=Io _ z) λac ag _ _=>?_
   have:ac=D:=by
    rcases ag.2 with⟨e1,_,e2⟩|⟨g1,_,_,_,e1,e2,_⟩<;>rcases o.2 with⟨b,_,j⟩|⟨a1,_,_,_,b,j,_⟩
    · rw[e2,j]
    · rw[e1]at b;cases b
    · rw[e1]at b;cases b
    · rw[e1]at b;injection b with b _;injection b with b;injection b with b;rw[e2,j,b]
   rw[this];exact p
def mX {t u e:TypeId}{x y:Operand}{v:Value}{n:Nat}{xs:Ao}{s:Bj}{T m d:Ay}{Es':Value→Am}(hT:AM t C.ts=some T)(ap:T.desc=.slice e)(aq:AM u C.ts=some m)(ar:m.desc=.string)(al:AM e C.ts=some d)(ao:d.zero=.int .u8 0)(an:d.size=1)(am:d.bytes=1)
  (hx:AJ l x=some v) (hy:AJ l y=some (.string (Cj s))) (q:∀k,Ei Es (Ar e 1 v n xs) (Ar e 1 k (n+s.length) (xs++s.flatMap BZ)) (Es' k)) (ag:n+s.length≤1000000000)
  (g:∀A c,G (.slice A (n+s.length) c) (Es' (.slice A (n+s.length) c)) h):Cd C l Es h ⟨dst,.call ⟨.builtin .append,#[x,y],#[t,u]⟩,ty,pos,aft,gd⟩ G:=λa w hs hp=>by
 obtain⟨i,hi,au,av,aw⟩:=C.ok.info al
 obtain⟨a0,aa,r⟩:=C.ok.und hT
 rw[ap]at r;rw[Ho r]at aa
 obtain⟨a1,ab,hb1⟩:=C.ok.und aq
 rw[ar]at hb1;rw[Ox hb1]at ab
 obtain⟨a2,ay,ax,a5⟩:=hp.own
 obtain⟨D,o,a4,a6,_⟩:=(q v).own ay ax
 obtain⟨k,az,z,h1,h2,h3,af,ac,p,ai,aj,ak⟩:=Abn (P:=C.P) (f:=false) (ty:=ty) aa ab hi (by rw[aw,ao]) (by rw[au,an]) (by rw[av,am]) (Awm D _ o) s ag
 obtain⟨A',ae,rfl⟩:=gR p
 refine .inl ⟨_,az,Es' _,h,?_,?_,g A' ae⟩
 · simp only[execOp,resolve,invoke,builtin,BK,CV,B',QM,CW,Jv,hs.eval hx,hs.eval hy,z]
 · refine hp.repl (q _) h1 h2 h3 af (hdr:=Io _ z) λad ah _ _=>?_
   have:ad=D:=by
    rcases ah.2 with⟨e1,_,e2⟩|⟨g1,_,_,e1,e2,_⟩<;>rcases o.2 with⟨b,_,j⟩|⟨a3,_,_,b,j,_⟩
    · rw[e2,j]
    · rw[e1]at b;cases b
    · rw[e1]at b;cases b
    · rw[e1]at b;injection b with b _;injection b with b;injection b with b;rw[e2,j,b]
   rw[this];exact⟨ac,Awk _ _ p,ai,aj,ak⟩
def Aw5 {κ α:Type}{ek:κ→Value}{ev:α→Value}{t k e:TypeId}{x:Operand}{b:Nat}{m:List (κ×α)}{T:Ay}(hT:AM t C.ts=some T)(j:T.desc=.map k e)(hx:AJ l x=some (.map (some b))) :
  DN C l [BG ek ev b m] h ⟨dst,.call ⟨.builtin .len,#[x],#[t]⟩,ty,pos,aft,gd⟩ (O m.length):=
 ⟨rfl,λa w hs hn _=>by
  obtain⟨D,i⟩:=hn _ (.head _)
  obtain⟨_,c,g,hm,n,_⟩:=i
  obtain⟨q,f,d⟩:=C.ok.und hT
  rw[j]at d
  rw[QE d]at f
  have o:c.size=m.length:=by have:=congrArg List.length n;simpa using this
  have p:w.heap[b]?=some (.map c g):=hm
  have hx2:=hs.eval hx
  simp[execOp,resolve,invoke,builtin,Builtin.len_,hx2,run_underlying f,Yd p,goInt,o]⟩
def Ot {c:Operand}{xs:KI}{tys:Kf}{f:FuncId}{fs cs vs:Ao}{Es0 Fs:Am}{Post:Value→Am→U→Prop}
  (hc:AJ l c=some (.func (.func f) fs.toArray cs.toArray)) (a:Il l xs.toList=some vs) (hh:BP C.P f) (hf:AP C.P f (fs++vs++cs).toArray Es0 h Post) (hp:Kh Es Es0 Fs)
  (g:∀v Es' h',V h h'→Post v Es' h'→G v (Es'++Fs) h'):Cd C l Es h ⟨dst,.call ⟨.value c,xs,tys⟩,ty,pos,aft,gd⟩ G:=
 Nj hp.perm (LN (Fs:=Fs) hc a rfl hh hf g)
end
section
variable {C:Bu} {ds:CL} {l0 l':AW} {Vs:ES} {Es:Am} {h:U} {os:Hc} {K:CB} {pl:IG} {d:Tmp} {ty:TypeId} {pos:String} {aft:Cw} {gd:Cq} {i:Nat}
def KS {a:Op}(c:Iz i os=some ⟨some d,a,ty,pos,aft,gd⟩)(hc:ML Vs i ⟨some d,a,ty,pos,aft,gd⟩=true)(b:JI (GX os.toArray ⟨some d,a,ty,pos,aft,gd⟩) (sl Vs l0)=some l')
  (hg:Fe os.toArray l' gd=some false) (g:BV pl C ds l0 (⟨i,some d,undef,[],true⟩::Vs) Es h os.toArray K):BV ((i,1)::pl) C ds l0 Vs Es h os.toArray K:=
 UP (pl:=pl) c hc b hg g
end
def Bq.start {w:World}{X0:BD}{h0:U}{Es0:Am}(d:V h0 (mem w))(f:∃a:Hd,Cy Es0 a (mem w)∧a.flatten.Nodup∧∀b∈a.flatten,h0 b=none∧b∈X0∧b<w.heap.size):Bq w X0 h0 Es0 h0 w:=by obtain⟨a,h1,h2,h3⟩:=f;exact⟨rfl,rfl,rfl,BU _,BU _,λ_ _ _=>rfl,d,V.refl _,λi o e=>.inl e,a,h1,h2,λb c=>⟨(h3 b c).1,.inr (h3 b c).2.1,(h3 b c).2.2⟩⟩
def mZ {P:Program}{f:FuncId}{args:Dx}{h:U}{v:Value}(hc:∀w,V h (mem w)→Calls P f args w λe b=>e=.returned v∧b=w):Aq P f args h v:=by intro w X0 a c;refine(hc w a).mono ?_;rintro e b ⟨rfl,rfl⟩;exact⟨v,rfl,[],h,⟨rfl,rfl⟩,Bq.start a c⟩
def PS (P:Program) (h:U) (name:String) (cs:Ao):Prop:=∃g t a,P.globalNamed name=some g∧h g=some (.cells cs.toArray t a)
def PS.le {P:Program}{h h':U}{name:String}{cs:Ao}(v:PS P h name cs)(b:V h h'):PS P h' name cs:=by obtain⟨g,t,a,h1,h2⟩:=v;exact⟨g,t,a,h1,b _ _ h2⟩
def PS.tab {P:Program}{h:U}{name:String}{k:IntKind}{zs:AC}(v:PS P h name (zs.map λz=>.int k z)){w:World}(a:V h (mem w)):Lib.TabIs P w name k zs:=by obtain⟨g,t,b,h1,h2⟩:=v;have h3:w.heap[g]?=_:=a _ _ h2;unfold Lib.TabIs World.var?;rw[h1,XS,h3]
def Aps {P:Program}{f:FuncId}(y:∀(blk off a:Nat) (u:Nat) (d:Array UInt8) (w:World),Sort.Holds (λ(b:UInt8)=>Value.int .u8 (b.toNat:Int)) w blk off d→u<10^d.size→u<18446744073709551616→d.size<4611686018427387904→
  Calls P f #[.slice (some ⟨blk,off,none⟩) d.size a,.int .u64 u] w λe s=>e=.returned (.tuple #[])∧∃(n q:Nat) (g:Array UInt8),s=(Sort.putRow (λ(b:UInt8)=>Value.int .u8 (b.toNat:Int)) w blk off g).drewN n∧Lib.FmtInv d.size u 0 q g)
  (h:U) (b T a u n:Nat) (r:Ao) (af:1≤u) (p:u<18446744073709551616) (hn:n=Lib.nDigits u) :
  AP P f #[.slice (some (Av b)) n a,.int .u64 u] [Ap b T ((List.replicate n (Value.int .u8 0))++r)] h λv Es _=>v=.tuple #[]∧Es=[Ap b T ((Lib.decDigits u).flatMap BZ++r)]:=by
 subst hn
 have z:(Lib.decDigits u).length=Lib.nDigits u:=Lib.decDigits_length u
 have ag:Lib.nDigits u≤20:=by have:=Lib.numDigits_eq u af p;split at this<;>omega
 intro w X0 aa ae
 have l:=Bq.start aa ae
 have hm:w.heap[b]?=some (.cells ((List.replicate (Lib.nDigits u) (Value.int .u8 0))++r).toArray T (0,0)):=l.blk (La _)
 have ab:b<w.heap.size:=(JE.1 hm).1
 have hc:=y b 0 a u (Array.replicate (Lib.nDigits u) 0) w (λj hj=>by
  rw[Vb]at hj
  refine⟨?_,by simp[World.frozen?,hm]⟩
  simp only[World.cell?,hm,Dy]
  simp[hj,GK]) (by rw[Vb];exact Lib.lt_pow_nDigits u) p (by rw[Vb];omega)
 rw[Vb]at hc
 refine hc.mono ?_
 rintro e s ⟨rfl,k,q,g,rfl,m⟩
 refine⟨_,rfl,_,h,⟨rfl,rfl⟩,l.repl .here rfl rfl rfl (by show w.heap.size≤(w.heap.modify b _).size;simp) λD t _ _=>?_⟩
 obtain⟨rfl,_⟩:=t
 refine⟨[b],⟨rfl,?_⟩,An,λc hcm=>?_,λi hi ad=>?_⟩
 · show(w.heap.modify b (Sort.onCells (Sort.putCells _ 0 g)))[b]?=_
   rw[Is,if_pos rfl,hm]
   simp only[Hg,Sort.onCells]
   congr 2
   apply hZ
   intro j
   simp only[Sort.putCells,Vc,eK,GT,true_and,Dy,JM,m.size]
   by_cases hj:j<Lib.nDigits u
   · rw[GK OU,GK (by rw[QU,Dc];omega),QU,FG]
     have o:j<(Lib.decDigits u).length:=by omega
     rw[Bw o,List.getElem?_replicate,if_pos hj]
     simp only[Hg,hj,if_true]
     rw[Lib.row_is_numeral m j o]
   · rw[JZ OU,JZ (by rw[QU,Dc];omega),QU,Dc,List.length_replicate,z]
     cases r[j-Lib.nDigits u]? with
     |none=>rfl
     |some x=>simp[hj]
 · simp only[Bk]at hcm
   subst hcm
   exact⟨.inl An,by show c<(w.heap.modify c _).size;simpa using ab⟩
 · have ac:b≠i:=λe=>ad MS
   show(w.heap.modify b _)[i]?=_
   rw[Is,if_neg ac]
section
variable {C:Bu} {l:AW} {Es:Am} {h:U} {G:Value→Am→U→Prop} {ty:TypeId} {pos:String} {aft:Cw} {gd:Cq} {dst:CK}
def Axs {t e m:TypeId}{x y:Operand}{b n:Nat}{k:IntKind}{i:Int}{T d:Ay}(hT:AM t C.ts=some T)(o:T.desc=.array m e)(j:AM e C.ts=some d)(hx:AJ l x=some (AD b))(hy:AJ l y=some (.int k i))(hi:i=(n:Int))(hn:n≤m) :
  DN C l [] h ⟨dst,.slice t x none (some y) none,ty,pos,aft,gd⟩ (.slice (some (Av b)) n m):=
 ⟨rfl,λa w hs _ _=>by
  obtain⟨q,c,f⟩:=C.ok.run_und hT
  have c:=c w
  rw[o]at f
  rw[Ou f]at c
  subst hi
  have p:(0:Int)≤(n:Int)∧(n:Int)≤(m:Int):=⟨J,J⟩
  have g:((Av b):Addr).add (0*d.size)=(Av b):=by rw[GC];simp
  simp only[execOp,hs.eval hx,hs.eval hy,Qn,Hg,Instr.sliceAt,Instr.sureAddr,Instr.sliceBounds,Instr.sliceBound,asIntOf,BK,CV,B',c,RA,p,and_self,if_true,C.ok.run_size j,UJ,JM,g,ite_self]⟩
def Wi {t e m:TypeId}{x y:Operand}{j:Nat}{k:IntKind}{i:Int}{cs:Dx}{v:Value}{T b:Ay}(hT:AM t C.ts=some T)(g:T.desc=.array m e)(d:AM e C.ts=some b)(hx:AJ l x=some (.agg cs))(hy:AJ l y=some (.int k i))(hi:i=(j:Int))(hj:j<m)
  (hv:EC (j*b.size) b.size b.agg cs.toList=some v):DN C l [] h ⟨dst,.index t x y,ty,pos,aft,gd⟩ v:=
 ⟨rfl,λa w hs _ _=>by
  obtain⟨o,c,f⟩:=C.ok.run_und hT
  have c:=c w
  rw[g]at f
  rw[Ou f]at c
  subst hi
  have n:(0:Int)≤(j:Int)∧(j:Int)<(m:Int):=⟨J,J⟩
  have hp:=Nl (P:=C.P) (ty:=e) hv w (C.ok.run_size d w) (C.ok.run_agg d w)
  simp only[execOp,hs.eval hx,hs.eval hy,Instr.index,asIntOf,BK,CV,B',c,RA,n,and_self,if_true,C.ok.run_size d,UJ,hp,SJ]⟩
end
section
variable {C:Bu} {l:AW} {Es:Am} {h:U} {G:Value→Am→U→Prop} {ty:TypeId} {pos:String} {aft:Cw} {gd:Cq} {dst:CK} {d:Tmp}
def Awl {e sz:Nat}{A:At}{n c:Nat}{xs:Ao}{D:BD}{m:U}(hn:0<n)(H:(Ar e sz (.slice A n c) n xs).holds D m):∃g,A=some (Av g):=by rcases H.2 with⟨_,h0,_⟩|⟨g,a,b,h1,_⟩;{omega};{injection h1 with h1 _ _;exact⟨g,h1⟩}
def Azb {α:Type}{enc:α→Ao}{x y:Operand}{t e:TypeId}{v:Value}{n m c:Nat}{xs ys:List α}{A:At}{T a:Ay}{Es':Value→Am}(hT:AM t C.ts=some T)(s:T.desc=.slice e)(q:AM e C.ts=some a)
  (ac:a.zero.cells.size=a.size) (ab:Nat.blt 0 a.size=true) (hx:AJ l x=some v) (hy:AJ l y=some (.slice A m c)) (hm:Ai enc a.size h A m ys) (z:∀x,(enc x).length=a.size) (h1:∀x,∀u∈enc x,u.oneCell'=true)
  (r:∀f,Ei Es (Ar e a.size v n (xs.flatMap enc)) (Ar e a.size f (n+m) ((xs++ys).flatMap enc)) (Es' f)) (o:n+m≤1000000000) (w:Nat.ble a.bytes 100000=true) (ad:0<m)
  (aa:∀f,Ar e a.size f (n+m) ((xs++ys).flatMap enc)∈Es' f)
  (g:∀b i,G (.slice (some (Av b)) (n+m) i) (Es' (.slice (some (Av b)) (n+m) i)) h):Cd C l Es h ⟨some d,.call ⟨.builtin .append,#[x,y],#[t,t]⟩,ty,pos,aft,gd⟩ G:=
 Tk (G':=λf j h'=>h'=h∧∃A' i,f=.slice A' (n+m) i∧j=Es' f) (CE hT s q ac ab hx hy hm z h1 r o w λA' i=>⟨rfl,A',i,rfl,rfl⟩) λf j h' ae H ⟨e1,A',i,e2,k⟩=>by
  subst e1;subst e2;subst k
  obtain⟨D,p⟩:=H.get (aa _)
  obtain⟨b,rfl⟩:=Awl J p
  exact⟨_,_,H,g b i⟩
def aS {t e sz:Nat}{x y:Operand}{b off n c:Nat}{v:Value}{xs ys:Ao}{Es':Am}{T:Ay}
  (hT:AM t C.ts=some T) (hx:AJ l x=some (.pointer (some ⟨b,off,none⟩))) (hy:AJ l y=some v) (s:Ei Es (Ar e sz (.slice (some (Av b)) n c) n xs) (Ar e sz (.slice (some (Av b)) n c) n ys) Es')
  (ac:ys=xs.take off++BX v++xs.drop (off+(BX v).length)) (a8:off+(BX v).length≤xs.length)
  (aq:Nat.beq (BX v).length T.size=true) (h1:Ly (BX v)=true) (g:G undef Es' h):Cd C l Es h ⟨none,.store t x y,ty,pos,aft,gd⟩ G:=by
 intro a w hs hp
 have ar:=Mc aq
 obtain⟨a0,aw,av,a6⟩:=hp.own
 obtain⟨D,ai,a4,a9,_⟩:=s.own aw av
 obtain⟨ay,hr⟩:=ai
 rcases hr with⟨h0,_⟩|⟨a2,a1,d,h2,h3,af,m,ag,o,ah⟩
 · cases h0
 · injection h2 with h2 _ ae
   injection h2 with h2;injection h2 with h2
   subst h2;subst ae
   have u:w.heap[b]?=some (.cells d e (0,0)):=af
   have a7:n*sz≤d.size:=by rw[o];exact Pe _ m
   have ao:off+0+(BX v).length≤d.size:=by omega
   have ax:(storeVar t ⟨b,off,none⟩ v).run C.P w=.ok () (w.setRow b (d.toList.take off++BX v++d.toList.drop (off+(BX v).length)).toArray):=by
    have ab:=run_storeCells_at (P:=C.P) b off e (BX v) 0 d w u ao (En h1)
    rw[Sg]at ab
    simp only[storeVar,BK,C.ok.run_size hT,B',Ni,Nb]
    rw[if_neg (by simp[ar])]
    simpa using ab
   refine .inr (.inl ⟨w.setRow b (d.toList.take off++BX v++d.toList.drop (off+(BX v).length)).toArray,Es',h,by simp only[execOp,hs.eval hx,hs.eval hy,Instr.storeAt,Instr.sureAddr,BK,CV,B',ax],?_,g⟩)
   refine hp.repl s rfl rfl rfl (by simp[World.setRow]) λad aj a5 al=>?_
   have ak:ad=[b]:=by
    rcases aj.2 with⟨q,_⟩|⟨a3,_,_,f,az,_⟩
    · cases q
    · injection f with f _ _;injection f with f;injection f with f;rw[az,f]
   subst ak
   refine⟨[b],⟨?_,.inr ⟨b,c,_,rfl,rfl,setRow_heap w b d _ e (0,0) u,m,ag,?_,?_⟩⟩,An,λq hq=>⟨.inl hq,by have:=al q hq;simpa[World.setRow]using this⟩,λi hi au=>?_⟩
   · rw[ac,←ay];simp only[Bt,CF,Kw];omega
   · simp only[Nb,Bt,CF,Kw,PI]
     rw[←o];omega
   · rw[ac,←ah]
     apply K'
     intro j
     rw[FF]
     have am:(d.toList.take off).length=off:=by rw[CF,PI];omega
     have an:((d.toList.take (n*sz)).take off).length=off:=by rw[CF,CF,PI];omega
     by_cases hj:j<n*sz
     · rw[if_pos hj]
       by_cases z:j<off
       · rw[Ck,Ck,GK J,GK J,FF,FF,FF,if_pos z,if_pos z,if_pos hj]
       · have ap:∀(p r:Ao),p.length=off→(p++r)[j]?=r[j-off]?:=λp r hp=>by rw[JZ J,hp]
         rw[Ck,Ck,ap _ _ am,ap _ _ an]
         by_cases aa:j-off<(BX v).length
         · rw[GK aa,GK aa]
         · have k:∀(r:Ao),(BX v++r)[j-off]?=r[j-off-(BX v).length]?:=λr=>JZ J
           rw[k,k,Nd,Nd,FF,if_pos J]
     · rw[if_neg hj,Mj]
       simp only[Bt,CF,Kw,PI]
       omega
   · have:i≠b:=λe=>au MS
     exact setRow_other w b i _ this
def Ada {t e m:TypeId}{x:Operand}{b off:Nat}{T d:Ay}(hT:AM t C.ts=some T)(j:T.desc=.array m e)(i:AM e C.ts=some d)(hx:AJ l x=some (.pointer (some ⟨b,off,none⟩))) :
  DN C l [] h ⟨dst,.slice t x none none none,ty,pos,aft,gd⟩ (.slice (some ⟨b,off,none⟩) m m):=
 ⟨rfl,λa w hs _ _=>by
  obtain⟨k,c,f⟩:=C.ok.run_und hT
  have c:=c w
  rw[j]at f
  rw[Ou f]at c
  have g:(⟨b,off,none⟩:Addr).add (0*d.size)=⟨b,off,none⟩:=by rw[GC];simp
  simp only[execOp,hs.eval hx,Qn,Instr.sliceAt,Instr.sureAddr,Instr.sliceBounds,BK,CV,B',c,C.ok.run_size i,JM,g,ite_self]⟩
end
def Apx {α:Type}{enc:α→Ao}{sz:Nat}(a:∀x,(enc x).length=sz)(l:List α)(z x:α) :
  (l++[x]).flatMap enc=((l++[z]).flatMap enc).take (l.length*sz)++enc x++((l++[z]).flatMap enc).drop (l.length*sz+(enc x).length):=by
 have h1:(l.flatMap enc).length=l.length*sz:=Hp a l
 rw[Ep,Ep,←h1,Yf]
 have h2:List.drop ((l.flatMap enc).length+(enc x).length) (l.flatMap enc++List.flatMap enc [z])=[]:=by
  apply Ka
  simp[a]
 rw[h2]
 simp
theorem Aa1 {P:Program}{w:World}{h:U}(c:V h (mem w)){b:Addr}:∀(l:Bj) (k:Nat) (a:Bj),(∀j x,l[j]?=some x→Nv h (b.add (k+j))=some (.int .u8 x.toNat))→
  (Extern.Bytes.loadBytes (b.add k) l.length ⟨a.toArray⟩).run P w=.ok ⟨(a++l).toArray⟩ w
 |[],k,a,_=>by simp[Extern.Bytes.loadBytes]
 |x::l,k,a,hc=>by
   have h0:=hc 0 x rfl
   have h1:w.cell? (b.add k)=some (.int .u8 x.toNat):=by rw[Ps];exact Ph c h0
   have d:=Aa1 (P:=P) c l (k+1) (a++[x]) λj y hj=>by
    have:=hc (j+1) y OU
    rw[show k+(j+1)=k+1+j by omega]at this
    exact this
   have hx:((x.toNat:Int).toNat).toUInt8=x:=by simp
   have hp:(⟨a.toArray⟩:ByteArray).push x=⟨(a++[x]).toArray⟩:=by simp[ByteArray.push]
   simp only[Do,Extern.Bytes.loadBytes,BK,run_load,h1,Result.andThen]
   rw[Mp,hx,hp,d]
   simp
theorem Ad7 {P:Program}{w:World}{h:U}(e:V h (mem w)){A:At}{n c:Nat}{l:Bj}(hx:Ai BZ 1 h A n l):(Extern.Bytes.bytesOf (.slice A n c)).run P w=.ok ⟨l.toArray⟩ w:=by
 have d:=hx.len;cases A with
 |none=>
  (have:l=[]:=by{cases l with|nil=>rfl|cons a l=>have:=hx.addrD (k:=0) (by rw[←d];simp);cases this});subst this;simp[Extern.Bytes.bytesOf];rfl
 |some b=>
  have hc:∀j x,l[j]?=some x→Nv h (b.add (0+j))=some (.int .u8 x.toNat):=λj x hj=>by
   have hjn:=(Kx.1 hj).1
   have:=(hx.cellsD 0 (k:=j) J) 0 (.int .u8 x.toNat) (by
    rw[show l.getD j 0=x by simp[List.getD,hj]];rfl)
   rw[Mp]at this;simpa[addrD]using this
  have:=Aa1 (P:=P) e l 0 [] hc;rw[d,show b.add 0=b by simp[Addr.add]]at this;exact this
def Aw7 {C:Bu}{l:AW}{h:U}{ty:TypeId}{pos:String}{aft:Cw}{gd:Cq}{dst:CK}{xs:KI}{tys:Kf}{f:FuncId}{fn:Func}{e:Dx→Sem Value}{vs:Ao}{v:Value}
  (g:Il l xs.toList=some vs) (hf:C.P.funcs[f]?=some fn) (d:(fn.name== "runtime.NumGoroutine")=false)
  (b:fn.body.isNone=true) (hn:Extern.findNext fn=none) (c:Extern.find fn=some e) (hv:∀w,V h (mem w)→(e vs.toArray).run C.P w=.ok v w) :
  DN C l [] h ⟨dst,.call ⟨.value (.func f),xs,tys⟩,ty,pos,aft,gd⟩ v:=by
 refine⟨rfl,λa w hs _ hm=>?_⟩
 have e1:=PT hs g
 have i:xs.map a.eval=vs.toArray:=by rw[←e1];apply Rc;simp
 have e2:a.eval (.func f)=.func (.func f) #[] #[]:=rfl
 simp only[execOp,resolve,e2,Deferred.ofValue,BK,CV,B',invoke,i]
 rw[show#[]++vs.toArray++#[]=vs.toArray by simp]
 rw[run_callFunc_extern hf d b hn c,hv w hm]
 rfl
end Go.Hw