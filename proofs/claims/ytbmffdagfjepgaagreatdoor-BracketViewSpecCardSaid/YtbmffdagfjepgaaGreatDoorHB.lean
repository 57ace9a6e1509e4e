import Derived.Test.YtbmffdagfjepgaaGreatDoorHA
import Derived.RangeFuncRecord
import Derived.ChangeKeysEq
import Derived.Sort.Grow
import Derived.Lib.SlicesCompact
set_option linter.unusedVariables false
set_option linter.unusedSimpArgs false
set_option linter.all false
namespace Go.Hw
open Go
def KN (ts:ER) (eq:Nat→Value→Value→PJ) (xs ys:Ao):List Field→PJ
 |[]=>some true
 |f::r=>if f.name = "_" then KN ts eq xs ys r else match AM f.type ts with
   |some T=>match EC f.offset T.size T.agg xs,EC f.offset T.size T.agg ys with
     |some a,some b=>match eq f.type a b,KN ts eq xs ys r with
       |some p,some q=>some (p&&q)
       |_,_=>none
     |_,_=>none
   |none=>none
def HU (ts:ER):Nat→Nat→Value→Value→PJ
 |0,_,_,_=>none
 |n+1,t,x,y=>match AM t ts with
   |some T=>match T.desc,x,y with
     | .int _,.int k a,.int c b=>if k=c then some (DZ a b)else none
     | .bool,.bool a,.bool b=>some (a==b)
     | .string,.string a,.string b=>some (a==b)
     | .struct fs,.agg xs,.agg ys=>KN ts (HU ts n) xs.toList ys.toList fs.toList
     |_,_,_=>none
   |none=>none
def Ow (ts:ER):Nat→Nat→BD
 |0,_=>[]
 |n+1,t=>match AM t ts with
   |some T=>match T.desc with
     | .struct fs=>t::fs.toList.flatMap λf=>Ow ts n f.type
     |_=>[]
   |none=>[]
theorem Zz {P:Program}{ts:ER}(hT:FZ P ts)(w:World):∀{n:Nat} {t:Nat} {x y:Value} {b:Bool},HU ts n t x y=some b→(∀i∈Ow ts n t,P.stoodInHeld i=false)→∀d,(Op.equalIn (n+d) t x y).run P w=.ok b w
 |0,_,_,_,_,h,_,_=>by cases h
 |n+1,t,x,y,b,h,hs,d=>by
  rw[show n+1+d=(n+d)+1 by omega];unfold HU at h;cases o:AM t ts with
  |none=>rw[o]at h;cases h
  |some T=>
   rw[o]at h;obtain⟨D,j,c⟩:=hT.und o;simp only at h;split at h;{rename_i k0 k a am m g;split at h;{rename_i ai;subst ai;injection h with h;subst h;rw[g]at c;rw[Nk c]at j;rw[run_equalIn_int w _ t k k0 a m j,FP];congr 1};{cases h}};{rename_i a m g;injection h with h;subst h;rw[g]at c;rw[ZT c]at j;exact run_equalIn_bool w _ t a m j};{rename_i a m g;injection h with h;subst h;rw[g]at c;rw[Ox c]at j;rw[run_equalIn_string w _ t a m j,←beq_toListBytes]}
   ·rename_i fs xs ys g;rw[g]at c;obtain⟨gs,rfl,hg⟩:=Sy c;have aj:P.stoodInHeld t=false:=hs t (by unfold Ow;rw[o];simp only[g];exact .head _);(have hfo:P.fieldsOf t=gs:=by simp[Program.fieldsOf,j]);rw[run_equalIn_struct w (n+d) t xs ys (by rw[hfo];exact j) aj,hfo]
    have z:∀f∈fs.toList,∀i∈Ow ts n f.type,P.stoodInHeld i=false:=λf hf i hi=>hs i (by
     unfold Ow;rw[o];simp only[g];exact .tail _ (GJ.2 ⟨f,hf,hi⟩))
    rw[←hg]at h z;clear hg j hfo c g;generalize gs.toList=ag at h z;induction ag generalizing b with|nil=>simp only[Jv,KN,Eh]at h;subst h;rfl|cons f r ak=>simp only[CW,KN]at h;(have ab:(IV f).name = "_" ↔f.name = "_" :=by{unfold IV;by_cases hf:f.name = "_" <;>simp[hf]});have ac:=λb c=>ak (b:=b) c (λaf ah=>z af (by simp only[CW];exact .tail _ ah));unfold Op.eqFields;by_cases hf:f.name = "_";{rw[if_pos (ab.2 hf)]at h;simp only[hf,ne_eq,not_true,if_false];exact ac b h};{rw[if_neg (λe=>hf (ab.1 e))]at h;simp only[ne_eq,hf,not_false_eq_true,if_true];have e1:(IV f).type=f.type:=rfl;have e2:(IV f).offset=f.offset:=rfl;rw[e1,e2]at h;cases l:AM f.type ts with|none=>(rw[l]at h;cases h)|some s=>rw[l]at h;simp only at h;cases hx:EC f.offset s.size s.agg xs.toList with|none=>(rw[hx]at h;cases h)|some p=>cases hy:EC f.offset s.size s.agg ys.toList with|none=>(rw[hx,hy]at h;cases h)|some q=>rw[hx,hy]at h;simp only at h;have ad:=Nl hx w (hT.run_size l w) (hT.run_agg l w);have ae:=Nl hy w (hT.run_size l w) (hT.run_agg l w);simp only[SJ]at ad ae;cases aa:HU ts n f.type p q with|none=>(rw[aa]at h;cases h)|some u=>rw[aa]at h;cases hr:KN ts (HU ts n) xs.toList ys.toList (r.map IV)with|none=>(rw[hr]at h;cases h)|some v=>rw[hr]at h;simp only[Eh]at h;subst h;have al:=Zz hT w aa (z (IV f) An) d;simp only[BK,ad,ae,B',al];cases u with|false=>simp|true=>simpa using ac v hr}
   {cases h}
section
variable {C:Bu} {l:AW} {hh:U} {ty:TypeId} {pos:String} {aft:Cw} {gd:Cq} {dst:CK}
def jE {P:Program}{ts:ER}(hT:FZ P ts){t:Nat}{xs ys:Dx}{b:Bool}(h:HU ts 10 t (.agg xs) (.agg ys)=some b)(hs:(Ow ts 10 t).all (λi=> !P.stoodInHeld i)=true)(hg:P.eqGuardType P.depth t=false)(w:World)(a c:Operand) :
  (do eqGuard .eql t a c (.agg xs) (.agg ys);binOp .eql t (.agg xs) (.agg ys):Sem Value).run P w=.ok (.bool b) w∧(do eqGuard .neq t a c (.agg xs) (.agg ys);binOp .neq t (.agg xs) (.agg ys):Sem Value).run P w=.ok (.bool (!b)) w:=by
 have:=Zz hT w h (λi hi=>by have:=Kz.1 hs i hi;simpa using this) 9990
 simp only[BK,run_eqGuard_agg w _ t a c xs ys hg,B',run_eql_struct,run_neq_struct]
 rw[this]
 exact⟨rfl,rfl⟩
def Ld {t ty':TypeId}{x y:Operand}{xs ys:Dx}{b:Bool}(hx:AJ l x=some (.agg xs))(hy:AJ l y=some (.agg ys))(h:HU C.ts 10 t (.agg xs) (.agg ys)=some b)(hs:(Ow C.ts 10 t).all (λi=> !C.P.stoodInHeld i)=true)
  (hg:C.P.eqGuardType C.P.depth t=false):DN C l [] hh ⟨dst,.binOp .eql t x y ty',ty,pos,aft,gd⟩ (.bool b):=
 ⟨rfl,λa w hsl _ _=>by
  have:=(jE C.ok h hs hg w x y).1
  rw[BK]at this
  simp only[execOp,hsl.eval hx,hsl.eval hy,BK]
  rw[this];rfl⟩
def YE {t ty':TypeId}{x y:Operand}{xs ys:Dx}{b:Bool}(hx:AJ l x=some (.agg xs))(hy:AJ l y=some (.agg ys))(h:HU C.ts 10 t (.agg xs) (.agg ys)=some b)(hs:(Ow C.ts 10 t).all (λi=> !C.P.stoodInHeld i)=true)
  (hg:C.P.eqGuardType C.P.depth t=false):DN C l [] hh ⟨dst,.binOp .neq t x y ty',ty,pos,aft,gd⟩ (.bool (!b)):=
 ⟨rfl,λa w hsl _ _=>by
  have:=(jE C.ok h hs hg w x y).2
  rw[BK]at this
  simp only[execOp,hsl.eval hx,hsl.eval hy,BK]
  rw[this];rfl⟩
end
section
variable {C:Bu} {l:AW} {Es:Am} {h:U} {G:Value→Am→U→Prop} {ty:TypeId} {pos:String} {aft:Cw} {gd:Cq} {d:Tmp} {dst:CK}
def SA {h':U}{b:Nat}{e:TypeId}{cs:Ao}(a:h' b=some (.cells cs.toArray e (0,0))):Au h' (Av b) cs:=λj v hj=>by
 rw[GC]
 simp only[Nv,a]
 simpa using hj
def xV {o:Oper}(g:Cd C l Es h o λv Es' h'=>∃A Fs,Es'=A::Fs∧∀D b,V h' b→A.holds D b→G v Fs b):Cd C l Es h o G:=λa w hs hp=>by
 have fin:∀v Es' h' d,Bq C.w0 C.X0 C.h0 Es' h' d→(∃A Fs,Es'=A::Fs∧∀D b,V h' b→A.holds D b→G v Fs b)→∃Fs b,Bq C.w0 C.X0 C.h0 Fs b d∧G v Fs b:=by
  rintro v Es' h' d c ⟨A,Fs,rfl,hG⟩
  obtain⟨D,b,h1,h2,h3⟩:=c.release C'.here
  exact⟨Fs,b,h3,hG D b h1 h2⟩
 rcases g a w hs hp with⟨v,d,Es',h',hr,c,hG⟩|⟨d,Es',h',hr,c,hG⟩|⟨f,args,i,hr,hc⟩|⟨r,f,tmps,assign,body,i,n,hr,hc⟩
 · obtain⟨Fs,b,h1,h2⟩:=fin _ _ _ _ c hG
   exact .inl ⟨v,d,Fs,b,hr,h1,h2⟩
 · obtain⟨Fs,b,h1,h2⟩:=fin _ _ _ _ c hG
   exact .inr (.inl ⟨d,Fs,b,hr,h1,h2⟩)
 · exact .inr (.inr (.inl ⟨f,args,i,hr,hc.mono λ_ _ ⟨v,e,Es',h',c,hG⟩=>let⟨Fs,b,h1,h2⟩:=fin _ _ _ _ c hG;⟨v,e,Fs,b,h1,h2⟩⟩))
 · exact .inr (.inr (.inr ⟨r,f,tmps,assign,body,i,n,hr,hc.mono λ_ _ ⟨v,e,Es',h',c,hG⟩=>let⟨Fs,b,h1,h2⟩:=fin _ _ _ _ c hG;⟨v,e,Fs,b,h1,h2⟩⟩))
def HQ {t e n:Nat}{c:YZ}{ps:PK}{T a:Ay}{cs:Ao}(hT:AM t C.ts=some T)(m:T.desc=.slice e)(k:AM e C.ts=some a)
  (p:BX a.zero≠[]) (q:(BX a.zero).length=a.size) (hn:Nat.ble (n*a.size) 16777216=true) (hp:ND l c.toList=some ps) (hc:Nx (λi=>some (i*a.size,a.size)) ps (repl (BX a.zero) n)=some cs)
  (g:∀b h',V h h'→Au h' (Av b) cs→G (.slice (some (Av b)) n n) Es h'):Cd C l Es h ⟨some d,.buildSlice t n c,ty,pos,aft,gd⟩ G:=
 xV (nZ hT m k p q hn hp hc λb=>⟨_,Es,rfl,λD f o j=>g b f o (SA j.2)⟩)
end
def Jc {h:U}{a:Addr}{l:AC}(hc:Au h a (l.map λi=>O i)):Ai AQ 1 h (some a) l.length l:=
 ⟨rfl,λ_=>⟨a,rfl,λj x hx i v hv=>by
  cases i with
  |zero=>
    have:=hc j (O x) L'
    simp only[AQ,QN,Eh]at hv
    rw[←hv,Gy]
    have e:(a.add j).add 0=a.add j:=by simp[Addr.add]
    rw[e];exact this
  |succ i=>simp[AQ]at hv⟩⟩
def Bq.front {w0 w:World}{X0:BD}{h0 h:U}{Es Fs:Am}{A:EQ}(H:Bq w0 X0 h0 Es h w)(hT:C' Es A Fs):Bq w0 X0 h0 (A::Fs) h w:=by obtain⟨k,i,hn,d⟩:=H.own;obtain⟨D,a,c,j,g,f⟩:=hT.own i hn;exact⟨H.os,H.tape,H.output,H.size,H.dr,H.old,H.ro,H.le,H.new,D::a,⟨c,j⟩,by simpa using g,λb e=>d b ((f b).2 (by simpa using e))⟩
section
variable {C:Bu} {ds:CL} {K:CB} {l:AW} {Es Fs:Am} {A:EQ} {h:U} {G:Value→Am→U→Prop}
def Aws {o:Oper}(hT:C' Es A Fs)(g:Cd C l (A::Fs) h o G):Cd C l Es h o G:=λa w hs hp=>g a w hs (hp.front hT)
end
def Aol (v:Value) (Es0:Am):Value→Am→U→Prop:=λu Es _=>u=v∧Es=Es0
def CH (P:Program) (f:FuncId) (args:Dx) (Es0:Am) (h:U) (v:Value):Prop:=AP P f args Es0 h (Aol v Es0)
def Bq.sub {w0 w:World}{X0:BD}{h0 h:U}{Es Fs:Am}(hs:List.Sublist Fs Es)(H:Bq w0 X0 h0 Es h w):Bq w0 X0 h0 Fs h w:=by obtain⟨a,c,hn,f⟩:=H.own;(have key:∀{Es Fs:Am},List.Sublist Fs Es→∀{a:Hd},Cy Es a (mem w)→∃d,Cy Fs d (mem w)∧List.Sublist d.flatten a.flatten:=by{intro Es Fs hs;induction hs with|slnil=>intro a c;exact⟨a,c,FH _⟩|cons A _ e=>(intro a c;cases a with|nil=>exact c.elim|cons D a=>obtain⟨d,h1,h2⟩:=e c.2;exact⟨d,h1,by rw[Gk];exact h2.trans (List.sublist_append_right _ _)⟩)|cons_cons A _ e=>intro a c;cases a with|nil=>exact c.elim|cons D a=>obtain⟨d,h1,h2⟩:=e c.2;exact⟨D::d,⟨c.1,h1⟩,by rw[Gk,Gk];exact h2.append_left _⟩});obtain⟨d,h1,h2⟩:=key hs c;exact⟨H.os,H.tape,H.output,H.size,H.dr,H.old,H.ro,H.le,H.new,d,h1,h2.nodup hn,λb g=>f b (h2.subset g)⟩
section
variable {C:Bu} {l:AW} {Es Fs:Am} {h:U} {K:CB}
def Me {fn:Func}{Post:Value→Am→U→Prop}{rs:List ResultVar}{vs:Ao}(c:C.Q=HT C.P fn C.w0 C.X0 C.h0 Post)(hr:fn.results=rs.toArray)(hv:NR C l Es h rs vs)(hs:List.Sublist Fs Es)(b:Post (SF vs) Fs h) :
  AI C [] l Es h (.code .ret::K):=λa w s=>We (by
 rw[c]
 show LeavesInM _ _ _ _ _ _ a.defers _ _
 rw[s.defers]
 exact⟨_,WC hr s.slots s.hp hv,_,rfl,Fs,h,b,s.hp.sub hs⟩)
def DD {fn:Func}{Post:Value→Am→U→Prop}{v:Value}{t:Nat}(b:C.Q=HT C.P fn C.w0 C.X0 C.h0 Post)(hr:fn.results=#[.tmp t])(hv:CN t l=some v)(hs:List.Sublist Fs Es)(a:Post v Fs h):AI C [] l Es h (.code .ret::K):=
 Me (rs:=[.tmp t]) (vs:=[v]) b hr ⟨hv,trivial⟩ hs a
end
section
variable {C:Bu} {l:AW} {Es Fs:Am} {h:U} {G:Value→Am→U→Prop} {ty:TypeId} {pos:String} {aft:Cw} {gd:Cq} {dst:CK}
def yO {xs:KI}{tys:Kf}{f:FuncId}{vs:Ao}{v:Value}{Es0:Am}(j:Es=Es0++Fs)
  (o:Il l xs.toList=some vs) (hh:BP C.P f) (hf:CH C.P f vs.toArray Es0 h v) (g:G v Es h):Cd C l Es h ⟨dst,.call ⟨.value (.func f),xs,tys⟩,ty,pos,aft,gd⟩ G:=λa w hs hp=>by
 have:=Ww (C:=C) (l:=l) (Es:=Es) (h:=h) (d:=dst) (tys:=tys) (ty:=ty) (pos:=pos) (aft:=aft) (gd:=gd) (Fs:=Fs) (G:=λb Es' h'=>b=v∧Es'=Es∧V h h') o j hh hf
  (λb Es' h' m ⟨e1,e2⟩=>⟨e1,by rw[e2,j],m⟩) a w hs hp
 have fin:∀b c Es' h',Bq C.w0 C.X0 C.h0 Es' h' c→(b=v∧Es'=Es∧V h h')→Bq C.w0 C.X0 C.h0 Es h c∧G b Es h:=λb c Es' h' H ⟨e1,e2,k⟩=>by
  rw[e1];rw[e2]at H;exact⟨H.shrink k hp.le,g⟩
 rcases this with⟨b,c,Es',h',hr,H,q⟩|⟨c,Es',h',hr,H,q⟩|⟨f,args,i,hr,hc⟩|⟨r,f,tmps,assign,body,i,n,hr,hc⟩
 · exact .inl ⟨b,c,Es,h,hr,fin _ _ _ _ H q⟩
 · exact .inr (.inl ⟨c,Es,h,hr,fin _ _ _ _ H q⟩)
 · exact .inr (.inr (.inl ⟨f,args,i,hr,hc.mono λ_ _ ⟨b,e,Es',h',H,q⟩=>⟨b,e,Es,h,fin _ _ _ _ H q⟩⟩))
 · exact .inr (.inr (.inr ⟨r,f,tmps,assign,body,i,n,hr,hc.mono λ_ _ ⟨b,e,Es',h',H,q⟩=>⟨b,e,Es,h,fin _ _ _ _ H q⟩⟩))
end
def Wj {α:Type}{enc:α→Ao}{e sz:Nat}{v:Value}{n:Nat}{l:List α}(a:∀x,(enc x).length=sz){D:BD}{h:U}(hn:l.length=n)(H:(Ar e sz v n (l.flatMap enc)).holds D h) :
  ∃A c,v=.slice A n c∧Ai enc sz h A n l:=by
 obtain⟨h1,hr⟩:=H
 rcases hr with⟨rfl,h2,_⟩|⟨g,d,q,rfl,_,m,h3,s,t,f⟩
 · refine⟨none,0,by rw[h2],hn,λh0=>absurd h0 J⟩
 · refine⟨some (Av g),d,rfl,hn,λ_=>⟨_,rfl,λj x hx i u b=>?_⟩⟩
   rw[GC,GC]
   simp only[Nv,m]
   have hi:i<sz:=by rw[←a x];exact(Kx.1 b).1
   have hj:j<n:=by rw[←hn];exact(Kx.1 hx).1
   have o:∀(l:List α) (j:Nat),l[j]?=some x→(l.flatMap enc)[j*sz+i]?=some u:=by
    intro l
    induction l with
    |nil=>intro j hj;simp at hj
    |cons y r p=>
      intro j hj
      cases j with
      |zero=>
        simp only[QN,Eh]at hj
        subst hj
        rw[Eb,Uo,Dy,GK (by rw[a];exact hi)]
        exact b
      |succ j=>
        rw[Eb,JZ (by rw[a,Na];omega),a,show(j+1)*sz+i-sz=j*sz+i by rw[Na];omega]
        exact p j OU
   have:=o l j hx
   rw[←f]at this
   have k:j*sz+i<n*sz:=by
    have:(j+1)*sz≤n*sz:=Pe _ hj
    rw[Na]at this;omega
   rw[FF,if_pos k]at this
   simpa using this
def VK (ts:ER) (xs:Ao):List Field→Bool
 |[]=>true
 |f::r=>match AM f.type ts with
   |some T=>match T.desc,EC f.offset T.size T.agg xs with
     | .int q,some (.int a _)=>decide (q=a)&&VK ts xs r
     |_,_=>false
   |none=>false
theorem Aux {P:Program}{ts:ER}(hT:FZ P ts){k:Nat}{T:Ay}{fs:Array Field}(l:AM k ts=some T)(i:T.desc=.struct fs){xs:Ao}(hc:VK ts xs fs.toList=true)(w:World)(c:Bool) :
  (Instr.checkKey c 10000 k (.agg xs.toArray)).run P w=.ok () w:=by
 obtain⟨D,e,d⟩:=hT.und l
 rw[i]at d
 obtain⟨gs,rfl,hg⟩:=Sy d
 show(Instr.checkKey c (9999+1) k (.agg xs.toArray)).run P w=_
 unfold Instr.checkKey
 simp only[BK,run_underlying e,B']
 rw[←Array.forIn_toList]
 rw[←hg]at hc
 clear hg d e i
 generalize gs.toList=j at *
 induction j with
 |nil=>simp
 |cons f r b=>
   simp only[CW,VK]at hc
   have e1:(IV f).type=f.type:=rfl
   have e2:(IV f).offset=f.offset:=rfl
   rw[e1,e2]at hc
   cases a:AM f.type ts with
   |none=>rw[a]at hc;cases hc
   |some s=>
     rw[a]at hc
     simp only at hc
     obtain⟨p,g,h⟩:=hT.und a
     split at hc
     · rename_i q t n hd2 hp
       simp only[Hq,decide_eq_true_eq]at hc
       obtain⟨rfl,hc⟩:=hc
       have m:=Nl hp w (hT.run_size a w) (hT.run_agg a w)
       rw[hd2]at h
       rw[Nk h]at g
       have o:=wT (P:=P) (w:=w) g (show MapKept.IsKey (.int q) (.int q n)from rfl) c 9998
       have b:=b hc
       by_cases hn:f.name = "_"
       · simp only[xK,BK,hn,ne_eq,not_true_eq_false,if_false,CV,B']
         exact b
       · simp only[xK,BK,hn,ne_eq,not_false_eq_true,if_true,m,o,CV,B']
         exact b
     · cases hc
def Gw.struct {κ:Type}[DecidableEq κ]{P:Program}{ts:ER}(hT:FZ P ts){k:Nat}{T:Ay}{fs:Array Field}(d:AM k ts=some T)(c:T.desc=.struct fs)(f:κ→Ao)(o:∀x y,f x=f y→x=y)
  (hc:∀x,VK ts (f x) fs.toList=true) (heq:∀x y,HU ts 10 k (.agg (f x).toArray) (.agg (f y).toArray)=some (decide (x=y))) (hs:(Ow ts 10 k).all (λi=> !P.stoodInHeld i)=true) (b:∀x,∀v∈f x,∃q n,v=.int q n) :
  Gw P k (λx=>.agg (f x).toArray) where
 check:=λw j x=>Aux hT d c (hc x) w j
 inj:=λx y e=>by injection e with e;exact o x y (by simpa using congrArg Array.toList e)
 stays:=λw x=>by
  have hs:Instr.sameBits 10000 (.agg (f x).toArray) (.agg (f x).toArray)=true:=by
   show Instr.sameBits (9999+1) (.agg (f x).toArray) (.agg (f x).toArray)=true
   simp only[Instr.sameBits,beq_self_eq_true,Adn,Kz]
   intro p hp
   obtain⟨i,hi,e⟩:=Yk hp
   rw[List.getElem_zip]at e
   rw[←e]
   simp only
   obtain⟨q,n,e2⟩:=b x ((f x).toArray.toList[i]'Jq) (Po _)
   rw[e2]
   simp[Instr.sameBits]
  simp[Instr.keyThatStays,hs]
 find:=λw x ev a l h=>by
  obtain⟨D,m,b⟩:=hT.und d
  rw[c]at b
  obtain⟨gs,rfl,hg⟩:=Sy b
  have g:∀(a:List MapEntry) (l:List (κ×Nat)) (i:Nat),a.map (λe=>(e.key,e.val))=l.map (λp=>(Value.agg (f p.1).toArray,ev p.2))→
   (Instr.findAsking k (.agg (f x).toArray) a i).run P w=.ok ((Gq x l i).map λp=>(p.1,ev p.2)) w:=by
   intro a
   induction a with
   |nil=>intro l i h;cases l with
     |nil=>simp[Instr.findAsking,Gq]
     |cons p l=>cases h
   |cons e a r=>
     intro l i h
     cases l with
     |nil=>cases h
     |cons p l=>
       simp only[CW,Kb,Mb]at h
       have q:=Zz hT w (heq x p.1) (λi hi=>by have:=Kz.1 hs i hi;simpa using this) 9990
       have s:(Op.equal k (.agg (f x).toArray) e.key).run P w=.ok (decide (x=p.1)) w:=by rw[h.1.1];exact q
       unfold Instr.findAsking
       simp only[BK,s,B']
       by_cases hx:x=p.1
       · simp[Gq,hx,h.1.2]
       · simp only[hx,decide_false,Ir,if_false,Gq,KX hx]
         exact r l (i+1) h.2
  unfold Instr.findKey
  simp only[BK,run_underlying m,B']
  cases a with
  |nil=>cases l with
    |nil=>simp[Instr.findNow,Gq]
    |cons p l=>cases h
  |cons e a=>
    have hn:Instr.findNow (.struct gs) (.agg (f x).toArray) (e::a) 0=none:=by simp[Instr.findNow,Instr.sameNow]
    rw[hn]
    exact g (e::a) l 0 h
section
variable {C:Bu} {ds:CL} {l:AW} {Es:Am} {h:U} {K:CB} {G:Value→Am→U→Prop}
 {d:Tmp} {ty:TypeId} {pos:String} {aft:Cw} {gd:Cq}
def Tj {e sz:Nat}{v:Value}{n:Nat}{xs:Ao}(hm:Ar e sz v n xs∈Es)(g:∀A c,v=.slice A n c→AI C ds l Es h K):AI C ds l Es h K:=λa w s=>by
 obtain⟨D,h1,hr⟩:=s.hp.get hm
 rcases hr with⟨h2,h3,_⟩|⟨b,d,f,h2,_⟩
 · exact g none 0 (by rw[h2,h3]) a w s
 · exact g _ _ h2 a w s
def Azc {x y:Operand}{t e:TypeId}{v:Value}{n m c:Nat}{xs cs:Ao}{f:Addr}{T a:Ay}{Es':Value→Am}(hT:AM t C.ts=some T)(p:T.desc=.slice e)(k:AM e C.ts=some a)
  (aa:a.zero.cells.size=a.size) (z:Nat.blt 0 a.size=true)
  (hx:AJ l x=some v) (hy:AJ l y=some (.slice (some f) m c)) (hm:Au h f cs) (o:∀b,Ei Es (Ar e a.size v n xs) (Ar e a.size b (n+m) (xs++cs)) (Es' b))
  (s:cs.length=m*a.size) (h1:∀u∈cs,u.oneCell'=true) (i:n+m≤1000000000) (r:Nat.ble a.bytes 100000=true)
  (g:∀b,G b (Es' b) h):Cd C l Es h ⟨some d,.call ⟨.builtin .append,#[x,y],#[t,t]⟩,ty,pos,aft,gd⟩ G:=by
 have q:=Oe r
 refine Adv hT p k aa (by simpa[Pf]using z) hx hy o s (λw hp j u hj=>?_) h1 RN ?_ (λb _=>g b)
 · rw[Ps];exact Ph hp.ro (hm j u hj)
 · calc (n+m)*a.bytes≤1000000000*100000:=dM i q
    _≤140737488355328:=by decide
end
section steps
variable {P:Program} {ro:HR} {Q:Exit→Act→World→Prop} {a:Act} {w:World} {k:CB}
def Aum {l:Nat}{c:World}(d:(Instr.beginRound l).run P w=.ok () c)(h:Dp P (some l) k Q a c):Dp P (some l) (.beginRound::k) Q a w:=
 .step (λb cs e=>.one trivial (stepR_beginRound e d)) h
theorem A0u {l:Nat}{f:FuncId}{tmps:Dx}{assign body:Code}{R:Ending→World→Prop}
  (h:Dp P (some l) [.code assign,.beginRound,.code body] (roundPost P l R) {tmps:=tmps,defers:=[]} w):RoundIn Fence.wide 0 P l f tmps assign body w R:=by
 refine⟨trivial,λc cs _=>?_⟩
 let b:Frame:={(default:Frame)with fn:=f,kind:=.normal,roundOf:=some l}
 have p:Frame.round l f tmps assign body .normal=b.atR {tmps:=tmps,defers:=[]} [.code assign,.beginRound,.code body]:=by
  simp[Frame.round,Frame.atR,b]
 obtain⟨e,q,u,hq,i⟩:=h b (c::cs) rfl
 rw[←p]at i
 have j:∀{m o:Machine},bG P m o→StepsIn (Machine.fenced P Fence.wide) P m o:=λh=>h.mono λm _=>fenced_wide P m
 cases e with
 |normal=>
   obtain⟨v,g,d,a⟩:=hq
   exact⟨.returned v,g,a,Ry (j i) (.one (fenced_wide _ _) (stepR_round_end rfl rfl d))⟩
 |ret=>
   obtain⟨v,g,d,a⟩:=hq
   obtain⟨n,hs⟩:=i.2 rfl
   exact⟨.returned v,g,a,Ry (j hs) (.one (fenced_wide _ _) (stepR_round_ret rfl rfl d))⟩
 |exit s=>
   obtain⟨v,g,d,a⟩:=hq
   obtain⟨n,k,hs⟩:=i.2 rfl rfl
   exact⟨.returned v,g,a,Ry (j hs) (.one (fenced_wide _ _) (stepR_round_exit rfl rfl k d))⟩
 |goto t=>
   obtain⟨v,g,d,a⟩:=hq
   obtain⟨n,k,hs⟩:=i.2 rfl rfl
   exact⟨.returned v,g,a,Ry (j hs) (.one (fenced_wide _ _) (stepR_round_goto rfl rfl k d))⟩
 |panic r=>exact hq.elim
 |outgrown=>exact hq.elim
def A04 {g:Operand}{ps:Array Tmp}{assign body:Code}
  (h:∀fn:FuncId,∃(l:Nat) (mark:CL) (i:World) (d:Deferred) (j:World) (f:FuncId) (args:Dx) (m:World),
    (Instr.enterLoop fn a.tmps ps assign body ro).run P w=.ok (l,mark) i∧(resolve a.eval (rangeCall g l) 0).run P i=.ok d j∧(invoke d.target d.args).run P j=.ok (.enter f args) m∧
    Calls P f args m λe q=>∃v,e=.returned v∧∃c n,(Instr.endLoop l).run P q=.ok c n∧Dp P ro ((c.map Item.code).toList++k) Q {a with defers:=mark++a.defers} n) :
  Dp P ro (.code (.rangeFunc g ps assign body)::k) Q a w:=by
 intro b cs o
 obtain⟨l,mark,i,d,j,f,args,m,p,aa,y,t⟩:=h b.fn
 rw[←o]at p
 have x:=stepR_rangeFunc (P:=P) (b:=b) (a:=a) (k:=k) (cs:=cs) (w:=w) p aa y
 obtain⟨e,q,af,⟨v,rfl,c,n,u,hj⟩,ab,ag,z⟩:=t (b.atR {a with defers:=mark++a.defers} (.inRangeFunc l::k)::cs)
 obtain⟨s,r,ae,ac,ad⟩:=hj b cs o
 refine⟨s,r,ae,ac,.of_steps ?_ ad⟩
 refine .head trivial x (Ry (StepsIn.of_steps ab) (.head trivial ?_ (.one trivial (stepR_endRangeFunc u))))
 rw[←finish_atR_inRangeFunc l v];exact step_leave_returned z
end steps
def FI (l:Nat) (r:Loop):EQ:=Uf l (λo=>o=.loop r)
def Nr (d:Nat):EQ:=Uf d (λo=>o=.deferred (some []))
section hp
variable {w0 w:World} {X0:BD} {h0 h:U} {Es Fs:Am}
def Bq.putObj {b:Nat}{p p':Obj→Prop}{o':Obj}(H:Bq w0 X0 h0 (Uf b p::Fs) h w)(hp:p' o'):Bq w0 X0 h0 (Uf b p'::Fs) h (w.putObj b o'):=by refine H.repl .here rfl rfl rfl An λD d hn c=>?_;obtain⟨a,o,j,_⟩:=d;have f:b<w.heap.size:=c b (by simp[a]);refine⟨D,⟨a,o',World.putObj_heap_same f,hp⟩,hn,λi hi=>⟨.inl hi,by simpa using c i hi⟩,λi hi g=>World.putObj_heap_other λe=>g (by rw[a,e];exact .head _)⟩
theorem Cy.perm:∀{Es Fs:Am} (hp:Es.Perm Fs) {a:Hd} {m:U},Cy Es a m→∃c:Hd,Cy Fs c m∧a.flatten.Perm c.flatten:=by
 intro Es Fs hp;induction hp with
 |nil=>intro a m b;exact⟨a,b,.refl _⟩
 |cons A _ g=>
  intro a m b;cases a with|nil=>exact b.elim|cons D a=>obtain⟨c,h1,h2⟩:=g b.2;exact⟨D::c,⟨b.1,h1⟩,by simpa using h2.append_left D⟩
 |swap A j l=>
  intro a m b;cases a with
  |nil=>exact b.elim
  |cons D a=>
   cases a with
   |nil=>exact b.2.elim
   |cons d a=>exact⟨d::D::a,⟨b.2.1,b.1,b.2.2⟩,by
    simp only[Gk,←Ck];exact(JW).append_right _⟩
 |trans _ _ h i=>
  intro a m b;obtain⟨c,h1,h2⟩:=h b;obtain⟨e,h3,f⟩:=i h1;exact⟨e,h3,h2.trans f⟩
def Bq.perm (H:Bq w0 X0 h0 Es h w)(hp:Es.Perm Fs):Bq w0 X0 h0 Fs h w:=by obtain⟨e,d,hn,c⟩:=H.own;obtain⟨a,h1,h2⟩:=Cy.perm hp d;exact⟨H.os,H.tape,H.output,H.size,H.dr,H.old,H.ro,H.le,H.new,a,h1,h2.nodup_iff.1 hn,λb hb1=>c b (h2.mem_iff.2 hb1)⟩
def Bq.obj {b:Nat}{p:Obj→Prop}(H:Bq w0 X0 h0 (Uf b p::Fs) h w):∃o,w.heap[b]?=some o∧p o:=by obtain⟨D,_,h1⟩:=H.get (La _);exact h1
end hp
section perm
variable {C:Bu} {ds:CL} {K:CB} {l:AW} {Es Fs:Am} {h:U} {G:Value→Am→U→Prop}
def Lc (hp:Es.Perm Fs)(g:AI C ds l Fs h K):AI C ds l Es h K:=λa w s=>g a w ⟨s.size,s.defers,s.slots,s.hp.perm hp⟩
def Nj {o:Oper}(hp:Es.Perm Fs)(g:Cd C l Fs h o G):Cd C l Es h o G:=λa w hs H=>g a w hs (H.perm hp)
end perm
def UM (lid:Nat) (r:Loop) (I:Am→U→Prop) (Ix:Code→Am→U→Prop):Value→Am→U→Prop:=λv Es h=>
 (v=.bool true∧∃Fs,Es=FI lid {r with state:=.ready,pending:=none}::Fs∧I Fs h)∨
 (v=.bool false∧∃c Fs,Es=FI lid {r with state:=.done,pending:=some c}::Fs∧Ix c Fs h)
def Vp (P:Program) (lid:Nat) (w0:World) (X0:BD) (h0:U) (Post:Value→Am→U→Prop):Exit→Act→World→Prop:=
 roundPost P lid λe a=>∃v,e=.returned v∧∃Es h,Post v Es h∧Bq w0 X0 h0 Es h a
def Amq (P:Program) (ts:ER) (ok:FZ P ts) (N lid:Nat) (w0:World) (X0:BD) (h0:U) (Post:Value→Am→U→Prop):Bu:=
 {P,ts,ok,ro:=some lid,N,w0,X0,h0,Q:=Vp P lid w0 X0 h0 Post}
section round
variable {C:Bu} {ds:CL} {K:CB} {l:AW} {Es Fs:Am} {h:U} {lid:Nat} {r:Loop} {I:Am→U→Prop} {Ix:Code→Am→U→Prop}
def Ng (c:C.ro=some lid)(hT:C' Es (FI lid r) Fs)(hr:r.state=.ready)(g:AI C ds l (FI lid {r with state:=.busy}::Fs) h K):AI C ds l Es h (.beginRound::K):=by intro a w s;have H:=s.hp.front hT;obtain⟨o,b,rfl⟩:=H.obj;have G:=g a (w.putObj lid (.loop {r with state:=.busy})) ⟨s.size,s.defers,s.slots,H.putObj rfl⟩;rw[c]at G ⊢;exact Aum (run_beginRound b hr) G
def lP {w:World}(H:Bq C.w0 C.X0 C.h0 Es h w)(hT:C' Es (FI lid r) Fs)(a:Option Code) :
  (Instr.endRound lid a).run C.P w=.ok (.bool a.isNone) (w.putObj lid (.loop {r with state:=if a.isNone then .ready else .done,pending:=a}))∧
  Bq C.w0 C.X0 C.h0 (FI lid {r with state:=if a.isNone then .ready else .done,pending:=a}::Fs) h (w.putObj lid (.loop {r with state:=if a.isNone then .ready else .done,pending:=a})):=by
 have H:=H.front hT
 obtain⟨o,b,rfl⟩:=H.obj
 exact⟨run_endRound a b,H.putObj rfl⟩
def Oa {r0:Loop}(c:C.Q=Vp C.P lid C.w0 C.X0 C.h0 (UM lid r0 I Ix))(hT:C' Es (FI lid {r0 with state:=.busy}) Fs)(b:I Fs h):AI C [] l Es h []:=λa w s=>vY (by
 obtain⟨h1,h2⟩:=lP s.hp hT none
 rw[c]
 exact⟨_,_,h1,_,rfl,_,_,.inl ⟨rfl,Fs,rfl,b⟩,h2⟩)
def Aa9 {r0:Loop}(c:C.Q=Vp C.P lid C.w0 C.X0 C.h0 (UM lid r0 I Ix))(hT:C' Es (FI lid {r0 with state:=.busy}) Fs)(b:Ix .ret Fs h):AI C [] l Es h (.code .ret::K):=λa w s=>We (by
 obtain⟨h1,h2⟩:=lP s.hp hT (some .ret)
 rw[c]
 exact⟨_,_,h1,_,rfl,_,_,.inr ⟨rfl,.ret,Fs,rfl,b⟩,h2⟩)
end round
def Dg (P:Program) (lid:Nat) (args:Ao) (Es0:Am) (h0:U) (Post:Value→Am→U→Prop):Prop:=
 ∀(w:World) (X0:BD),V h0 (mem w)→
  (∃a:Hd,Cy Es0 a (mem w)∧a.flatten.Nodup∧∀b∈a.flatten,h0 b=none∧b∈X0∧b<w.heap.size)→
  ∃f tmps assign body n,(Instr.yield lid args.toArray).run P w=.ok (.round lid f tmps assign body) w∧
   RoundIn Fence.wide n P lid f tmps assign body w λe c=>∃v,e=.returned v∧∃Es h,Post v Es h∧Bq w X0 h0 Es h c
def Dg.mono {P:Program}{lid:Nat}{args:Ao}{Es0:Am}{h0:U}{Post a:Value→Am→U→Prop}(y:Dg P lid args Es0 h0 Post)(hp:∀v Es h,V h0 h→Post v Es h→a v Es h):Dg P lid args Es0 h0 a:=λw X0 d e=>
 let⟨f,t,as,bo,n,h1,h2⟩:=y w X0 d e
 ⟨f,t,as,bo,n,h1,h2.mono λ_ _ ⟨v,c,Es,h,b,H⟩=>⟨v,c,Es,h,hp v Es h H.le b,H⟩⟩
section yield
variable {C:Bu} {l:AW} {Es Fs:Am} {h:U} {G:Value→Am→U→Prop} {ty:TypeId} {pos:String} {aft:Cw} {gd:Cq} {dst:CK}
def QR {c:Operand}{xs:KI}{tys:Kf}{lid:Nat}{vs:Ao}{Es0:Am}{Post:Value→Am→U→Prop}
  (hc:AJ l c=some (.func (.yield lid) #[] #[])) (s:Il l xs.toList=some vs) (o:Es=Es0++Fs) (hf:Dg C.P lid vs Es0 h Post)
  (g:∀v Es' h',V h h'→Post v Es' h'→G v (Es'++Fs) h'):Cd C l Es h ⟨dst,.call ⟨.value c,xs,tys⟩,ty,pos,aft,gd⟩ G:=by
 intro a w hs hp
 subst o
 obtain⟨t,q,hn,i⟩:=hp.own
 obtain⟨d,m,rfl,k,r⟩:=q.split
 have hb1:∀b∈d.flatten,b∈(d++m).flatten:=λb h1=>by rw[Ib,AO];exact .inl h1
 obtain⟨f,tmps,assign,body,n,h1,h2⟩:=hf w d.flatten hp.ro ⟨d,k,by rw[Ib,Fm]at hn;exact hn.1,λb h1=>⟨(i b (hb1 b h1)).1,h1,(i b (hb1 b h1)).2.2⟩⟩
 refine .inr (.inr (.inr ⟨lid,f,tmps,assign,body,w,n,?_,h2.mono ?_⟩))
 · have e1:a.eval c=.func (.yield lid) #[] #[]:=hs.eval hc
   have e2:xs.map a.eval=vs.toArray:=by
    have:=PT hs s
    rw[←this,←Array.toList_map]
   simp only[execOp,resolve,e1,e2]
   simp[go_sem,h1,invoke]
 · rintro e w2 ⟨v,rfl,Es',h',p,j⟩
   exact⟨v,rfl,Es'++Fs,h',hp.call k r hn i j,g v Es' h' j.le p⟩
end yield
def bH {α:Type} (P:Program) (g:FuncId) (lb:Ao) (enc:α→Ao) (xs:List α) (h:U):Prop:=
 ∀(lid:Nat) (I Ix:List α→Am→U→Prop),(∀pre Es h1 h2,V h1 h2→I pre Es h1→I pre Es h2)→(∀pre Es h1 h2,V h1 h2→Ix pre Es h1→Ix pre Es h2)→
  (∀pre x post Es h1,xs=pre++x::post→V h h1→I pre Es h1→Dg P lid (enc x) Es h1 λv Es' h'=>(v=.bool true∧I (pre++[x]) Es' h')∨(v=.bool false∧Ix (pre++[x]) Es' h'))→
  ∀Es h1,V h h1→I [] Es h1→AP P g (.func (.yield lid) #[] #[]::lb).toArray Es h1 λv Es' h'=>I xs Es' h'∨∃pre post,xs=pre++post∧Ix pre Es' h'
def bH.le {α:Type}{P:Program}{g:FuncId}{lb:Ao}{enc:α→Ao}{xs:List α}{h h':U}(s:bH P g lb enc xs h)(l:V h h'):bH P g lb enc xs h':=by intro lid I Ix n o hr Es h1 i j;refine(s lid (λpre Es h2=>V h' h2∧I pre Es h2) (λpre Es h2=>Ix pre Es h2) (λpre Es a b f ⟨c,d⟩=>⟨c.trans f,n _ _ _ _ f d⟩) o (λpre x post Es h2 e _ ⟨c,d⟩=>(hr pre x post Es h2 e c d).mono λv Es h3 m k=>k.imp (λ⟨p,q⟩=>⟨p,c.trans m,q⟩) id) Es h1 (l.trans i) ⟨i,j⟩).mono ?_;rintro v Es' h2 _ (⟨_,h3⟩|h3);{exact .inl h3};{exact .inr h3}
def Y':List Tmp→Ao→AW→AW
 |p::ps,v::vs,l=>Y' ps vs ((p,v)::l)
 |_,_,l=>l
theorem iL:∀{ps:List Tmp} {vs:Ao} {l:AW} {tmps:Dx} {N:Nat},Hl l {tmps:=tmps,defers:=[]}→tmps.size=N→ps.all (λp=>Nat.blt p N)=true→
  Hl (Y' ps vs l) {tmps:=(ps.zip vs).foldl (λt p=>t.setIfInBounds p.1 p.2) tmps,defers:=[]}∧((ps.zip vs).foldl (λt p=>t.setIfInBounds p.1 p.2) tmps).size=N
 |[],vs,l,tmps,N,hs,b,_=>⟨by cases vs<;>exact hs,by simpa using b⟩
 |p::ps,[],l,tmps,N,hs,b,_=>⟨hs,by simpa using b⟩
 |p::ps,v::vs,l,tmps,N,hs,b,hp=>by
   simp only[List.all_cons,Hq]at hp
   have c:p<tmps.size:=by
    have h1:=hp.1;rw[Pf]at h1;rw[b];exact h1
   exact iL (ps:=ps) (vs:=vs) (hs.put (a:={tmps:=tmps,defers:=[]}) c v) (by simpa[Act.put]using b) hp.2
abbrev mark (D:Nat):Deferred:={target:=.collected D,args:=#[]}
def Wz (C:Bu) (ds:CL) (l:AW) (Es:Am) (h:U):Prop:=∀a w,Tw C ds l Es h a w→C.Q .ret a w
section rt
variable {C:Bu} {ds:CL} {l:AW} {Es Fs:Am} {h:U} {K:CB} {fn:Func} {Post:Value→Am→U→Prop}
def Oq (r:Wz C ds l Es h):AI C ds l Es h (.code .ret::K):=λa w s=>We (r a w s)
def Ob {D:Nat}(c:C.Q=HT C.P fn C.w0 C.X0 C.h0 Post)(hT:C' Es (Nr D) Fs)(r:Wz C ds l Fs h):Wz C (mark D::ds) l Es h:=by intro a w s;have H:=s.hp.front hT;obtain⟨o,d,rfl⟩:=H.obj;have b:=(H.putObj (p':=λo=>o=.deferred none) rfl).drop .here;have:=r {a with defers:=ds} (w.putObj D (.deferred none)) ⟨s.size,rfl,s.slots,b⟩;rw[c]at this ⊢;show LeavesInM _ _ _ _ _ _ a.defers _ _;rw[s.defers];exact⟨An,.inl ⟨D,_,rfl,run_takeDeferred d,this⟩⟩
def NQ {rs:List ResultVar}{vs:Ao}(c:C.Q=HT C.P fn C.w0 C.X0 C.h0 Post)(hr:fn.results=rs.toArray)(hv:NR C l Es h rs vs)(hs:List.Sublist Fs Es)(b:Post (SF vs) Fs h):Wz C [] l Es h:=λa w s=>by
 rw[c]
 show LeavesInM _ _ _ _ _ _ a.defers _ _
 rw[s.defers]
 exact⟨_,WC hr s.slots s.hp hv,_,rfl,Fs,h,b,s.hp.sub hs⟩
end rt
def M' (R:Value→U→Prop):Value→Am→U→Prop:=λu Es h=>Es=[]∧R u h
def Az (P:Program) (f:FuncId) (args:Dx) (h:U) (R:Value→U→Prop):Prop:=AP P f args [] h (M' R)
def Az.mono {P:Program}{f:FuncId}{args:Dx}{h:U}{R a:Value→U→Prop}(r:Az P f args h R)(hr:∀v h',V h h'→R v h'→a v h'):Az P f args h a:=
 AP.mono r λv Es h' b ⟨h1,h2⟩=>⟨h1,hr v h' b h2⟩
def Av3 {P:Program}{ts:ER}(ok:FZ P ts){f:FuncId}{fn:Func}{c:Code}{args:Ao}{h0:U}{R:Value→U→Prop}
 (hf:P.funcs[f]?=some fn) (a:fn.body=some c) (hn:Nat.ble args.length fn.ntmps=true)
 (g:∀w0 X0,AI (PO P ts ok fn w0 X0 h0 (M' R)) [] (NH 0 args) [] h0 [.code c]):Az P f args.toArray h0 R:=fA ok hf a hn g
def ZQ {P:Program}{f:FuncId}{args:Dx}{h:U}{v:Value}(r:Aq P f args h v):Az P f args h λu _=>u=v:=AP.mono r λu Es h' a ⟨h1,h2⟩=>⟨h2,h1⟩
def Abj {P:Program}{f:FuncId}{args:Dx}{h:U}{v:Value}(r:Az P f args h λu _=>u=v):Aq P f args h v:=AP.mono r λu Es h' a ⟨h1,h2⟩=>⟨h2,h1⟩
section
variable {C:Bu} {ds:CL} {l:AW} {Es Fs:Am} {h:U} {K:CB} {G:Value→Am→U→Prop} {ty:TypeId} {pos:String} {aft:Cw} {gd:Cq} {dst:CK}
def AR {xs:KI}{tys:Kf}{f:FuncId}{vs:Ao}{R:Value→U→Prop}
  (b:Il l xs.toList=some vs) (hh:BP C.P f) (hf:Az C.P f vs.toArray h R) (g:∀v h',V h h'→R v h'→G v Es h'):Cd C l Es h ⟨dst,.call ⟨.value (.func f),xs,tys⟩,ty,pos,aft,gd⟩ G:=
 Ww (Fs:=Es) b (by rfl) hh hf λv Es' h' a ⟨e1,e2⟩=>by subst e1;exact g v h' a e2
def Pr {c:Operand}{xs:KI}{tys:Kf}{f:FuncId}{fs cs vs:Ao}{R:Value→U→Prop}
  (hc:AJ l c=some (.func (.func f) fs.toArray cs.toArray)) (b:Il l xs.toList=some vs) (hh:BP C.P f) (hf:Az C.P f (fs++vs++cs).toArray h R) (g:∀v h',V h h'→R v h'→G v Es h'):Cd C l Es h ⟨dst,.call ⟨.value c,xs,tys⟩,ty,pos,aft,gd⟩ G:=
 LN (Es0:=[]) (Fs:=Es) hc b (by rfl) hh hf λv Es' h' a ⟨e1,e2⟩=>by subst e1;exact g v h' a e2
variable {fn:Func} {R:Value→U→Prop}
def Rq {rs:List ResultVar}{vs:Ao}(b:C.Q=HT C.P fn C.w0 C.X0 C.h0 (M' R))(hr:fn.results=rs.toArray)(hv:NR C l Es h rs vs)(a:R (SF vs) h) :
 AI C [] l Es h (.code .ret::K):=Me b hr hv (Hi _) ⟨rfl,a⟩
def BL {v:Value}{t:Nat}(b:C.Q=HT C.P fn C.w0 C.X0 C.h0 (M' R))(hr:fn.results=#[.tmp t])(hv:CN t l=some v)(a:R v h):AI C [] l Es h (.code .ret::K):=
 Rq (rs:=[.tmp t]) (vs:=[v]) b hr ⟨hv,trivial⟩ a
def EG {v u:Value}{t s:Nat}(b:C.Q=HT C.P fn C.w0 C.X0 C.h0 (M' R))(hr:fn.results=#[.tmp t,.tmp s])(hv:CN t l=some v)(c:CN s l=some u)(a:R (.tuple #[v,u]) h):AI C [] l Es h (.code .ret::K):=
 Rq (rs:=[.tmp t,.tmp s]) (vs:=[v,u]) b hr ⟨hv,c,trivial⟩ a
def VR {v u x:Value}{t s r:Nat}(b:C.Q=HT C.P fn C.w0 C.X0 C.h0 (M' R))(hr:fn.results=#[.tmp t,.tmp s,.tmp r])(hv:CN t l=some v)(c:CN s l=some u)(hx:CN r l=some x)(a:R (.tuple #[v,u,x]) h):AI C [] l Es h (.code .ret::K):=
 Rq (rs:=[.tmp t,.tmp s,.tmp r]) (vs:=[v,u,x]) b hr ⟨hv,c,hx,trivial⟩ a
def Gr {v:Value}{t T b off e:Nat}{cs:Ao}{Ay:Ay}(c:C.Q=HT C.P fn C.w0 C.X0 C.h0 (M' R))(hr:fn.results=#[.cell t T])(d:CN t l=some (.pointer (some ⟨b,off,none⟩)))(hm:Ap b e cs∈Es)(hT:AM T C.ts=some Ay)
  (hv:EC off Ay.size Ay.agg cs=some v) (a:R v h):AI C [] l Es h (.code .ret::K):=
 Rq (rs:=[.cell t T]) (vs:=[v]) c hr ⟨⟨_,d,JS hT hm hv⟩,trivial⟩ a
def Dl {v u:Value}{t T b off e s:Nat}{cs:Ao}{Ay:Ay}(c:C.Q=HT C.P fn C.w0 C.X0 C.h0 (M' R))(hr:fn.results=#[.cell t T,.tmp s])(d:CN t l=some (.pointer (some ⟨b,off,none⟩)))(hm:Ap b e cs∈Es)(hT:AM T C.ts=some Ay)
  (hv:EC off Ay.size Ay.agg cs=some v) (f:CN s l=some u) (a:R (.tuple #[v,u]) h):AI C [] l Es h (.code .ret::K):=
 Rq (rs:=[.cell t T,.tmp s]) (vs:=[v,u]) c hr ⟨⟨_,d,JS hT hm hv⟩,f,trivial⟩ a
def Ty {v u x:Value}{t T b off e s r:Nat}{cs:Ao}{Ay:Ay}(c:C.Q=HT C.P fn C.w0 C.X0 C.h0 (M' R))(hr:fn.results=#[.cell t T,.tmp s,.tmp r])(d:CN t l=some (.pointer (some ⟨b,off,none⟩)))(hm:Ap b e cs∈Es)(hT:AM T C.ts=some Ay)
  (hv:EC off Ay.size Ay.agg cs=some v) (f:CN s l=some u) (hx:CN r l=some x) (a:R (.tuple #[v,u,x]) h):AI C [] l Es h (.code .ret::K):=
 Rq (rs:=[.cell t T,.tmp s,.tmp r]) (vs:=[v,u,x]) c hr ⟨⟨_,d,JS hT hm hv⟩,f,hx,trivial⟩ a
def OQ {α:Type}{enc:α→Ao}{e sz:Nat}{v:Value}{n:Nat}{xs:List α}{Es':Am}(b:∀x,(enc x).length=sz)(hn:xs.length=n)(hT:C' Es (Ar e sz v n (xs.flatMap enc)) Es')
  (g:∀A c h',V h h'→v=.slice A n c→Ai enc sz h' A n xs→AI C ds l Es' h' K):AI C ds l Es h K:=
 Ue hT λD h' d a=>by
  obtain⟨A,c,e1,e2⟩:=Wj b hn a
  exact g A c h' d e1 e2
def Ii {b:Nat}{e:TypeId}{cs:Ao}{Es':Am}(hT:C' Es (Ap b e cs) Es')(g:∀h',V h h'→Au h' (Av b) cs→AI C ds l Es' h' K):AI C ds l Es h K:=
 Ue hT λD h' c a=>g h' c (SA a.2)
end
def C'.perm {Es Fs:Am}{A:EQ}(h:C' Es A Fs):Es.Perm (A::Fs):=by obtain⟨p,q,rfl,rfl⟩:=h;exact xA
def Kh:Am→Am→Am→Prop
 |Es,[],Fs=>Es=Fs
 |Es,A::r,Fs=>∃M,C' Es A M∧Kh M r Fs
def TC {Es:Am}:Kh Es [] Es:=rfl
def ZR {Es M r Fs:Am}{A:EQ}(h:C' Es A M)(k:Kh M r Fs):Kh Es (A::r) Fs:=⟨M,h,k⟩
theorem Kh.perm:∀{Es Es0 Fs:Am},Kh Es Es0 Fs→Es.Perm (Es0++Fs)
 |_,[],_,h=>by cases h;exact .refl _
 |_,A::r,_,⟨M,h,k⟩=>h.perm.trans (k.perm.cons A)
section
variable {C:Bu} {l:AW} {Es Fs:Am} {h:U} {G:Value→Am→U→Prop} {ty:TypeId} {pos:String} {aft:Cw} {gd:Cq} {dst:CK}
def Ed {xs:KI}{tys:Kf}{f:FuncId}{vs:Ao}{Es0:Am}{Post:Value→Am→U→Prop}
  (a:Il l xs.toList=some vs) (hh:BP C.P f) (hf:AP C.P f vs.toArray Es0 h Post) (hp:Kh Es Es0 Fs)
  (g:∀v Es' h',V h h'→Post v Es' h'→G v (Es'++Fs) h'):Cd C l Es h ⟨dst,.call ⟨.value (.func f),xs,tys⟩,ty,pos,aft,gd⟩ G:=
 Nj hp.perm (Ww (Fs:=Fs) a rfl hh hf g)
def Tk {o:Oper}{G':Value→Am→U→Prop}(g:Cd C l Es h o G')(hg:∀v Es' h' (b:World),Bq C.w0 C.X0 C.h0 Es' h' b→G' v Es' h'→∃m p,Bq C.w0 C.X0 C.h0 m p b∧G v m p):Cd C l Es h o G:=λa w hs H=>by
 rcases g a w hs H with⟨v,b,Es',h',hr,hp,hG⟩|⟨b,Es',h',hr,hp,hG⟩|⟨f,args,k,hr,hc⟩|⟨r,f,tmps,assign,body,k,n,hr,hc⟩
 · obtain⟨c,h2,d,e⟩:=hg _ _ _ b hp hG;exact .inl ⟨v,b,c,h2,hr,d,e⟩
 · obtain⟨c,h2,d,e⟩:=hg _ _ _ b hp hG;exact .inr (.inl ⟨b,c,h2,hr,d,e⟩)
 · exact .inr (.inr (.inl ⟨f,args,k,hr,hc.mono λ_ b ⟨v,i,Es',h',j,hG⟩=>by
    obtain⟨c,h2,d,e⟩:=hg _ _ _ b j hG;exact⟨v,i,c,h2,d,e⟩⟩))
 · exact .inr (.inr (.inr ⟨r,f,tmps,assign,body,k,n,hr,hc.mono λ_ b ⟨v,i,Es',h',j,hG⟩=>by
    obtain⟨c,h2,d,e⟩:=hg _ _ _ b j hG;exact⟨v,i,c,h2,d,e⟩⟩))
end
section
variable {C:Bu} {l:AW} {Es Fs:Am} {h:U} {G:Value→Am→U→Prop} {ty:TypeId} {pos:String} {aft:Cw} {gd:Cq} {d:Tmp}
def Sc {e sz:Nat}{v:Value}{n:Nat}{xs:Ao}{D:BD}{m:U}(H:(Ar e sz v n xs).holds D m):∃A c,v=.slice A n c:=by rcases H.2 with⟨h2,h3,_⟩|⟨b,a,d,h2,_⟩;{exact⟨none,0,by rw[h2,h3]⟩};{exact⟨_,_,h2⟩}
def PG {x y:Operand}{t e:TypeId}{v:Value}{n m c:Nat}{xs cs:Ao}{i:Addr}{T a:Ay}{Es':Value→Am}(hT:AM t C.ts=some T)(w:T.desc=.slice e)(s:AM e C.ts=some a)
  (ac:a.zero.cells.size=a.size) (ab:Nat.blt 0 a.size=true)
  (hx:AJ l x=some v) (hy:AJ l y=some (.slice (some i) m c)) (hm:Au h i cs) (k:∀b,Ei Es (Ar e a.size v n xs) (Ar e a.size b (n+m) (xs++cs)) (Es' b))
  (aa:cs.length=m*a.size) (h1:∀u∈cs,u.oneCell'=true) (o:n+m≤1000000000) (z:Nat.ble a.bytes 100000=true)
  (g:∀A' j,G (.slice A' (n+m) j) (Es' (.slice A' (n+m) j)) h):Cd C l Es h ⟨some d,.call ⟨.builtin .append,#[x,y],#[t,t]⟩,ty,pos,aft,gd⟩ G:=
 Tk (G':=λv f h1=>f=Es' v∧h1=h) (Azc hT w s ac ab hx hy hm k aa h1 o z λb=>⟨rfl,rfl⟩) λv f h1 ad H ⟨e1,e2⟩=>by
  subst e1;subst e2
  obtain⟨p,q,_,hq⟩:=k v
  have hm:Ar e a.size v (n+m) (xs++cs)∈Es' v:=by rw[hq];simp
  obtain⟨D,r⟩:=H.get hm
  obtain⟨A,c,rfl⟩:=Sc r
  exact⟨_,_,H,g A c⟩
end
section
variable {C:Bu} {ds:CL} {l:AW} {Es Fs:Am} {h:U} {K:CB} {G:Value→Am→U→Prop}
def Bq.nilS {w0 w:World}{X0:BD}{h0:U}{e sz:Nat}(H:Bq w0 X0 h0 Es h w):Bq w0 X0 h0 (Ar e sz (.slice none 0 0) 0 []::Es) h w:=by obtain⟨a,c,hn,b⟩:=H.own;exact⟨H.os,H.tape,H.output,H.size,H.dr,H.old,H.ro,H.le,H.new,[]::a,⟨⟨An,.inl ⟨rfl,rfl,rfl⟩⟩,c⟩,by simpa using hn,by simpa using b⟩
def FN (e sz:Nat)(g:AI C ds l (Ar e sz (.slice none 0 0) 0 []::Es) h K):AI C ds l Es h K:=λa w s=>g a w ⟨s.size,s.defers,s.slots,s.hp.nilS⟩
end
section
variable {C:Bu} {ds:CL} {l l':AW} {Es Es' Fs:Am} {h:U} {K:CB}
def Bq.takes {w0 w:World}{X0:BD}{h0:U}(H:Bq w0 X0 h0 Es h w)(hT:Kh Es Es' Fs):Bq w0 X0 h0 Es' h w:=(H.perm hT.perm).sub (Pm _ _)
def AB (hs:Qx l' l)(hT:Kh Es Es' Fs)(g:AI C ds l' Es' h K):AI C ds l Es h K:=λa w s=>g a w ⟨s.size,s.defers,s.slots.sub hs.ok,s.hp.takes hT⟩
def EF (hT:Kh Es Es' Fs)(g:AI C ds l Es' h K):AI C ds l Es h K:=λa w s=>g a w ⟨s.size,s.defers,s.slots,s.hp.takes hT⟩
def Bg {c:Code}{X:Type}(I:X→Prop)(d:X→Nat)(S:X→AW)(b:X→Am)(H:X→U)(a:X)
 (hi:I a) (hs:Qx (S a) l) (hT:Kh Es (b a) Fs) (e:H a=h)
 (round:∀x,I x→(∀y,I y→d y<d x→AI C ds (S y) (b y) (H y) (.inLoop c::K))→AI C ds (S x) (b x) (H x) (.code c::.inLoop c::K)) :
 AI C ds l Es h (.code (.loop c)::K):=EF hT (Pd I d S b H a hi hs rfl e round)
end
def Mp (a:Addr)(m n:Nat):(a.add m).add n=a.add (m+n):=by unfold Addr.add;split<;>split<;>simp_all<;>omega
section sl
variable {α:Type} {enc:α→Ao} {sz:Nat} {h:U} {A:At} {n:Nat} {xs:List α}
theorem Hp (a:∀x,(enc x).length=sz):∀(xs:List α),(xs.flatMap enc).length=xs.length*sz
 |[]=>by simp
 |x::r=>by simp[a x,Hp a r,KZ,wR]
theorem bA (a:∀x,(enc x).length=sz):∀(xs:List α) (j:Nat) (u:Value),(xs.flatMap enc)[j]?=some u→∃x,xs[j / sz]?=some x∧(enc x)[j%sz]?=some u
 |[],j,u,e=>by simp at e
 |x::r,j,u,e=>by
  rw[Eb]at e;by_cases hj:j<sz;{rw[GK (by rw[a];exact hj)]at e;exact⟨x,by rw[wQ hj];rfl,by rw[X' hj];exact e⟩}
  ·rw[JZ (by rw[a];omega),a]at e;obtain⟨y,h1,h2⟩:=bA a r (j-sz) u e
   have b:0<sz:=by
    rcases Of sz with h0|h0;{exfalso;have h3:=a y;rw[h0,eJ]at h3;rw[h3]at h2;simp at h2};{exact h0}
   refine⟨y,?_,?_⟩;{rw[Nat.div_eq_sub_div b J];simpa using h1};{rw[Nat.mod_eq_sub_mod J];exact h2}
def Ai.flat {a:Addr}(s:Ai enc sz h (some a) n xs)(d:∀x,(enc x).length=sz):Au h a (xs.flatMap enc):=by intro j u e;obtain⟨x,h1,h2⟩:=bA d xs j u e;have f:j / sz<xs.length:=(Kx.1 h1).1;obtain⟨g,b,hc⟩:=s.at_ (by rw[←s.len];exact Nat.lt_of_le_of_lt (GT _) f);injection b with b;subst b;have:=hc _ x h1 _ u h2;(have c:(a.add (j / sz*sz)).add (j%sz)=a.add j:=by{rw[Mp,Nat.div_add_mod']});rw[c]at this;exact this
def Ai.of_flat {a:Addr}(b:∀x,(enc x).length=sz)(hn:xs.length=n)(hc:Au h a (xs.flatMap enc)):Ai enc sz h (some a) n xs:=by refine⟨hn,λ_=>⟨a,rfl,λj x hx i u c=>?_⟩⟩;(have hi:i<sz:=by have:=(Kx.1 c).1;rw[b]at this;exact this);(have key:∀(xs:List α) (j:Nat),xs[j]?=some x→(xs.flatMap enc)[j*sz+i]?=some u:=by{intro xs;induction xs with|nil=>intro j e;simp at e|cons y r f=>intro j e;rw[Eb];cases j with|zero=>simp only[QN,Eh]at e;subst e;rw[Uo,Dy,GK (by rw[b];exact hi)];exact c|succ j=>rw[JZ (by rw[b,KZ,Nat.one_mul];omega),b,show(j+1)*sz+i-sz=j*sz+i by rw[KZ,Nat.one_mul];omega];exact f j (by simpa using e)});have d:(a.add (j*sz)).add i=a.add (j*sz+i):=Mp _ _ _;rw[d];exact hc _ u (key xs j hx)
def Ai.part (s:Ai enc sz h A n xs){l k:Nat}(hlk:l≤k)(d:k≤n)(A':At)(c:l<k→A'=A.map (·.add (l*sz))):Ai enc sz h A' (k-l) ((xs.take k).drop l):=by have e:=s.len;refine⟨FC,λf=>?_⟩;obtain⟨a,rfl,hc⟩:=s.at_ J;refine⟨a.add (l*sz),c J,λj x hx=>?_⟩;rw[Nd,FF]at hx;split at hx;{(have b:(a.add (l*sz)).add (j*sz)=a.add ((l+j)*sz):=by rw[Mp,KZ]);rw[b];exact hc _ x hx};{cases hx}
def QS {e:TypeId}{v:Value}(a:∀x,(enc x).length=sz){D:BD}(hn:xs.length=n)(H:(Ar e sz v n (xs.flatMap enc)).holds D h) :
  ∃A c,v=.slice A n c∧n≤c∧Ai enc sz h A n xs:=by
 obtain⟨A,c,e1,e2⟩:=Wj a hn H
 refine⟨A,c,e1,?_,e2⟩
 rcases H.2 with⟨h2,h3,_⟩|⟨b,d,f,h2,_,_,i,_⟩
 · omega
 · rw[h2]at e1;injection e1 with _ _ g;omega
end sl
section
variable {C:Bu} {ds:CL} {l:AW} {Es:Am} {h:U} {K:CB} {G:Value→Am→U→Prop} {ty:TypeId} {pos:String} {aft:Cw} {gd:Cq} {d:Tmp} {dst:CK}
def EE {α:Type}{enc:α→Ao}{e sz:Nat}{v:Value}{n:Nat}{xs:List α}{Es':Am}(d:∀x,(enc x).length=sz)(hn:xs.length=n)(hT:C' Es (Ar e sz v n (xs.flatMap enc)) Es')
  (g:∀A c h',V h h'→v=.slice A n c→n≤c→Ai enc sz h' A n xs→AI C ds l Es' h' K):AI C ds l Es h K:=
 Ue hT λD h' f b=>by
  obtain⟨A,c,e1,e2,a⟩:=QS d hn b
  exact g A c h' f e1 e2 a
def hO {α:Type}{enc:α→Ao}{e sz:Nat}{n:Nat}{xs:List α}{o:Oper}(f:∀x,(enc x).length=sz)(hn:xs.length=n)
  (g:Cd C l Es h o λv Es' h'=>∃Fs,Es'=Ar e sz v n (xs.flatMap enc)::Fs∧∀A c a,V h' a→n≤c→Ai enc sz a A n xs→G (.slice A n c) Fs a):Cd C l Es h o G:=
 Tk g λv Es' h' p H ⟨Fs,e1,k⟩=>by
  subst e1
  obtain⟨D,a,i,d,b⟩:=H.release .here
  obtain⟨A,c,rfl,j,m⟩:=QS f hn d
  exact⟨Fs,a,b,k A c a i j m⟩
def Auo {P:Program}{t ty e:TypeId}{i:TypeInfo}{w:World}(a:P.underlying t=some (.slice e))(hi:P.info? e=some i){d:Nat}
  {v:Value} {n c:Nat} {xs:Ao} (b:w.ownsRow 0 e d v n xs) :
  (Builtin.append_ #[t,t] ty #[v,.slice none 0 c]).run P w=.ok v w:=by
 rcases b.2 with⟨rfl,rfl⟩|⟨g,f,h,rfl,_,_,hnc,_⟩
 · simp[Builtin.append_,run_underlying a,sizeOf,typeInfo,hi,Builtin.lenOf,Builtin.firstCells]
 · simp[Builtin.append_,run_underlying a,sizeOf,typeInfo,hi,Builtin.lenOf,Builtin.firstCells,hnc,storeCells]
theorem CE {α:Type}{enc:α→Ao}{x y:Operand}{t e:TypeId}{v:Value}{n m c:Nat}{xs ys:List α}{A:At}{T b:Ay}{Es':Value→Am}(hT:AM t C.ts=some T)(s:T.desc=.slice e)(r:AM e C.ts=some b)
  (ar:b.zero.cells.size=b.size) (ap:Nat.blt 0 b.size=true) (hx:AJ l x=some v) (hy:AJ l y=some (.slice A m c)) (hm:Ai enc b.size h A m ys) (k:∀x,(enc x).length=b.size) (h1:∀x,∀u∈enc x,u.oneCell'=true)
  (q:∀p,Ei Es (Ar e b.size v n (xs.flatMap enc)) (Ar e b.size p (n+m) ((xs++ys).flatMap enc)) (Es' p)) (ah:n+m≤1000000000) (aj:Nat.ble b.bytes 100000=true)
  (g:∀A' f,G (.slice A' (n+m) f) (Es' (.slice A' (n+m) f)) h):Cd C l Es h ⟨some d,.call ⟨.builtin .append,#[x,y],#[t,t]⟩,ty,pos,aft,gd⟩ G:=by
 have aa:=hm.len
 cases A with
 |some ab=>
   refine PG hT s r ar ap hx hy (hm.flat k) (λp=>by have:=q p;rw[Ep]at this;exact this) (by rw[Hp k,aa]) (λu o=>?_) ah aj g
   obtain⟨x,_,hx⟩:=GJ.1 o
   exact h1 x u hx
 |none=>
   have ak:m=0:=by
    rcases Of m with h0|h0
    · exact h0
    · obtain⟨ab,e,_⟩:=hm.at_ h0;cases e
   subst ak
   have aq:ys=[]:=Fu aa
   subst aq
   intro a w hs hp
   obtain⟨i,hi,ay,az,a0⟩:=C.ok.info r
   obtain⟨au,o,z⟩:=C.ok.und hT
   rw[s]at z
   rw[Ho z]at o
   obtain⟨av,am,al,ax⟩:=hp.own
   obtain⟨D,j,aw,a1,_⟩:=(q v).own am al
   have an:w.ownsRow 0 e b.size v n (xs.flatMap enc):=by
    obtain⟨k,hr⟩:=j
    refine⟨k,hr.imp (λ⟨h1,h2,_⟩=>⟨h1,h2⟩) λ⟨g,ac,ad,h1,h2,h3,ae,af,ag,ai⟩=>⟨g,ac,ad,h1,GT _,h3,ae,af,ag,ai⟩⟩
   have ao:=Auo (P:=C.P) (t:=t) (ty:=ty) (c:=c) o hi an
   obtain⟨A,f,rfl⟩:=Sc j
   refine .inl ⟨.slice A n f,w,Es' (.slice A n f),h,?_,?_,g A f⟩
   · simp only[execOp,resolve,invoke,builtin,BK,CV,B',QM,CW,Jv,hs.eval hx,hs.eval hy,ao]
   · refine hp.asn (q _) λD m j=>?_
     simpa using j
def Ay9 {α:Type}{enc:α→Ao}{x y:Operand}{t e:TypeId}{n m c cx:Nat}{xs ys:List α}{A z:At}{T b:Ay}(hT:AM t C.ts=some T)(ai:T.desc=.slice e)(ah:AM e C.ts=some b)
  (ar:b.zero.cells.size=b.size) (ap:Nat.blt 0 b.size=true) (hx:AJ l x=some (.slice A n cx)) (hy:AJ l y=some (.slice z m c)) (k:Ai enc b.size h A n xs) (r:Ai enc b.size h z m ys) (al:cx=n) (hm:0<m)
  (f:∀x,(enc x).length=b.size) (ag:n+m≤1000000000) (ak:Nat.ble b.bytes 100000=true)
  (g:∀A' ab,G (.slice A' (n+m) ab) (Ar e b.size (.slice A' (n+m) ab) (n+m) ((xs++ys).flatMap enc)::Es) h):Cd C l Es h ⟨some d,.call ⟨.builtin .append,#[x,y],#[t,t]⟩,ty,pos,aft,gd⟩ G:=by
 subst al
 intro a w hs hp
 obtain⟨i,hi,p,am,af⟩:=C.ok.info ah
 obtain⟨au,u,ac⟩:=C.ok.und hT
 rw[ai]at ac
 rw[Ho ac]at u
 obtain⟨o,rfl⟩:=r.addr hm
 have av:0<b.size:=by simpa[Pf]using ap
 have aj:=Oe ak
 have ae:∀j v,(ys.flatMap enc)[j]?=some v→w.cell? (o.add j)=some v:=λj v e=>by rw[Ps];exact Ph hp.ro (r.flat f j v e)
 have q:(ys.flatMap enc).length=m*i.size:=by rw[Hp f,r.len,p]
 have s:(xs.flatMap enc).length=cx*i.size:=by rw[Hp f,k.len,p]
 have ad:(cx+m)*i.bytes≤140737488355328:=by
  rw[am]
  calc (cx+m)*b.bytes≤1000000000*100000:=dM ag aj
   _≤140737488355328:=by decide
 have hge:=grownCap_ge w (cx+m) cx e
 have hcm:grownCap w (cx+m) cx e≤maxLen:=grownCap_le_maxLen w (cx+m) cx e RN
 have ao:(Builtin.append_ #[t,t] ty #[.slice A cx cx,.slice (some o) m c]).run C.P w =
  .ok (.slice (some (Av w.heap.size)) (cx+m) (grownCap w (cx+m) cx e))
   (w.drew.alloc (.cells ((xs.flatMap enc).toArray++(ys.flatMap enc).toArray++Builtin.zeroCells b.zero.cells (grownCap w (cx+m) cx e-(cx+m))) e)):=by
  cases A with
  |some aa=>
    exact run_append_grow (P:=C.P) w t ty e i b.zero u hi af aa cx cx _ s (λj v e=>by rw[Ps];exact Ph hp.ro (k.flat f j v e)) o m c _ q ae J J (growslice_fits J ad)
  |none=>
    have h0:cx=0:=by
     rcases Of cx with h0|h0
     · exact h0
     · obtain⟨aa,e,_⟩:=k.at_ h0;cases e
    subst h0
    have aq:xs=[]:=Fu k.len
    subst aq
    have:=run_append_nil (P:=C.P) w t ty e i b.zero u hi af o m c _ q ae hm J (by have:=ad;simp only[Dy]at this;omega)
    simpa using this
 refine .inl ⟨_,w.drew.alloc (.cells ((xs.flatMap enc).toArray++(ys.flatMap enc).toArray++Builtin.zeroCells b.zero.cells (grownCap w (cx+m) cx e-(cx+m))) e),_,h,?_,?_,g (some (Av w.heap.size)) (grownCap w (cx+m) cx e)⟩
 · simp only[execOp,resolve,invoke,builtin,BK,CV,B',QM,CW,Jv,hs.eval hx,hs.eval hy,ao]
 · have an:Bq C.w0 C.X0 C.h0 Es h w.drew:=hp.drew
   refine an.alloc _ _ λaw hmm=>⟨?_,.inr ⟨w.heap.size,_,_,rfl,rfl,hmm,hge,hcm,?_,?_⟩⟩
   · rw[Hp f];simp[k.len,r.len]
   · simp only[YT,Nb,size_zeroCells,ar,s,q,p,←KZ]
     congr 1
     omega
   · simp only[hW,Ck,Ep]
     rw[←Ck]
     refine eD ?_
     rw[Bt,s,q,p,KZ]
def PH {t e n:Nat}{k:YZ}{ps:PK}{T a:Ay}{cs:Ao}(hT:AM t C.ts=some T)(q:T.desc=.slice e)(p:AM e C.ts=some a)
  (r:BX a.zero≠[]) (s:(BX a.zero).length=a.size) (hn:Nat.ble (n*a.size) 16777216=true) (hp:ND l k.toList=some ps) (hc:Nx (λi=>some (i*a.size,a.size)) ps (repl (BX a.zero) n)=some cs)
  (c:Nat.beq cs.length (n*a.size)=true) (j:Nat.ble n 16777216=true)
  (g:∀b,G ((.slice (some (Av b)) n n)) (Ar e a.size (.slice (some (Av b)) n n) n cs::Es) h):Cd C l Es h ⟨some d,.buildSlice t n k,ty,pos,aft,gd⟩ G:=by
 have c:=Mc c
 have j:=Oe j
 refine Tk (G':=λv Es' h'=>∃b,v=.slice (some (Av b)) n n∧Es'=Ap b e cs::Es∧h'=h) (nZ hT q p r s hn hp hc λb=>⟨b,rfl,rfl,rfl⟩) λv Es' h' u H ⟨b,e1,e2,o⟩=>?_
 subst e1;subst e2;subst o
 refine⟨_,_,H.asn (A':=Ar e a.size (.slice (some (Av b)) n n) n cs) .here λD m f=>⟨c,.inr ⟨b,n,cs.toArray,rfl,f.1,f.2,BU _,RN,by simpa using c,?_⟩⟩,g b⟩
 rw[←c];exact Ye
def Mr {P:Program}{w:World}{k:IntKind}{i:Int}{j y:Nat}{code:BoundsCode}(hi:i=(j:Int))(hj:j≤y):(Instr.sliceBound (.int k i) y code).run P w=.ok j w:=by subst hi;(have:(0:Int)≤(j:Int)∧(j:Int)≤(y:Int):=by omega);simp[Instr.sliceBound,asIntOf,this]
def mY {α:Type}{enc:α→Ao}{x y z:Operand}{t e:TypeId}{k p:IntKind}{i d:Int}{hi n c:Nat}{xs:List α}{A:At}{T b:Ay}(hT:AM t C.ts=some T)(s:T.desc=.slice e)(r:AM e C.ts=some b)
  (hx:AJ l x=some (.slice A n c)) (hy:AJ l y=some (.int k i)) (aa:AJ l z=some (.int p d)) (hs:Ai enc b.size h A n xs) (u:i=(hi:Int)) (v:d=(hi:Int)) (j:hi≤n) (hnc:n≤c)
  (g:∀A',Ai enc b.size h A' hi (xs.take hi)→G (.slice A' hi hi) Es h):Cd C l Es h ⟨dst,.slice t x none (some y) (some z),ty,pos,aft,gd⟩ G:=by
 intro a w hsl hp
 obtain⟨ab,o,f⟩:=C.ok.und hT
 rw[s]at f
 rw[Ho f]at o
 have e1:a.eval x=.slice A n c:=hsl.eval hx
 have e2:a.eval y=.int k i:=hsl.eval hy
 have q:a.eval z=.int p d:=hsl.eval aa
 have m:=hs.part (l:=0) (k:=hi) (GT _) j (if hi=0 then A else A.map (·.add (0*b.size))) (λh=>by
  rw[if_neg J])
 rw[J',JM]at m
 refine .inl ⟨_,w,Es,h,?_,hp,g _ m⟩
 simp only[execOp,Instr.sliceAt,BK,run_underlying o,B',Instr.slice,e1,e2,q,Hg,Qn,Instr.sliceBounds,CV,Mr u (BU hi),Mr v (Gj j hnc),C.ok.run_size r,Ir,if_false,Ud,JM]
end
section
variable {C:Bu} {h:U}
def Au.shift {a:Addr}{vs:Ao}(hc:Au h a vs)(off:Nat):Au h (a.add off) (vs.drop off):=λj u e=>by
 rw[Mp];rw[Nd]at e;exact hc _ u e
def GA {T:TypeId}{t:Ay}{a:Addr}{off:Nat}{vs:Ao}{v:Value}(hT:AM T C.ts=some t)(hc:Au h a vs)(hv:EC off t.size t.agg vs=some v):QI C [] h T (a.add off) v:=
 BH hT (hc.shift off) (bN hv)
def LI {T:TypeId}{t:Ay}{a:Addr}{b c:Nat}{vs:Ao}{v:Value}(hT:AM T C.ts=some t)(hc:Au h a vs)(hv:EC (b+c) t.size t.agg vs=some v):QI C [] h T ((a.add b).add c) v:=by rw[Mp];exact GA hT hc hv
end
def addrD:At→Addr
 |some a=>a
 |none=>⟨0,0,none⟩
section
variable {α:Type} {enc:α→Ao} {sz:Nat} {h:U} {A:At} {n:Nat} {xs:List α}
def Ai.addrD (s:Ai enc sz h A n xs){k:Nat}(b:k<n):A=some (Hw.addrD A):=by obtain⟨a,rfl⟩:=s.addr J;rfl
def Ai.cellsD (s:Ai enc sz h A n xs)(d:α){k:Nat}(a:k<n):Au h ((Hw.addrD A).add (k*sz)) (enc (xs.getD k d)):=by obtain⟨b,rfl⟩:=s.addr J;exact s.cells d a
end
section
variable {C:Bu} {l:AW} {h:U} {ty:TypeId} {pos:String} {aft:Cw} {gd:Cq}
def Cs {t e:TypeId}{x y:Operand}{A:At}{n c j:Nat}{k:IntKind}{i:Int}{T a:Ay}{dst:CK}(hT:AM t C.ts=some T)(f:T.desc=.slice e)(d:AM e C.ts=some a)
  (hx:AJ l x=some (.slice A n c)) (hy:AJ l y=some (.int k i)) (b:A=some (addrD A)) (hi:i=(j:Int)) (hj:j<n):DN C l [] h ⟨dst,.indexAddr t x y,ty,pos,aft,gd⟩ (.pointer (some ((addrD A).add (j*a.size)))):=
 MM hT f d (b▸hx) hy hi hj
end
section
variable {C:Bu} {ds:CL} {l:AW} {Es Fs:Am} {h:U} {K:CB} {G:Value→Am→U→Prop} {ty:TypeId} {pos:String} {aft:Cw} {gd:Cq} {d:Tmp} {dst:CK}
def cZ {α:Type}{enc:α→Ao}{x y:Operand}{t e:TypeId}{v:Value}{n m c:Nat}{xs ys:List α}{A:At}{T a:Ay}(hT:AM t C.ts=some T)(p:T.desc=.slice e)(o:AM e C.ts=some a)
  (z:a.zero.cells.size=a.size) (w:Nat.blt 0 a.size=true) (hx:AJ l x=some v) (hy:AJ l y=some (.slice A m c)) (hm:Ai enc a.size h A m ys) (f:∀x,(enc x).length=a.size) (h1:∀x,∀u∈enc x,u.oneCell'=true)
  (q:C' Es (Ar e a.size v n (xs.flatMap enc)) Fs) (hn:xs.length=n) (k:n+m≤1000000000) (r:Nat.ble a.bytes 100000=true)
  (g:∀A' b h',V h h'→n+m≤b→Ai enc a.size h' A' (n+m) (xs++ys)→G (.slice A' (n+m) b) Fs h'):Cd C l Es h ⟨some d,.call ⟨.builtin .append,#[x,y],#[t,t]⟩,ty,pos,aft,gd⟩ G:=
 hO (e:=e) (n:=n+m) (xs:=xs++ys) f (by rw[Bt,hn,hm.len])
  (Aws q (CE (Es':=λi=>Ar e a.size i (n+m) ((xs++ys).flatMap enc)::Fs) hT p o z w hx hy hm f h1 (λi=>.here) k r λA' b=>⟨Fs,rfl,λA c j s hc hs=>g A c j s hc hs⟩))
def cY {α:Type}{enc:α→Ao}{x y:Operand}{t e:TypeId}{n m c cx:Nat}{xs ys:List α}{A f:At}{T a:Ay}(hT:AM t C.ts=some T)(r:T.desc=.slice e)(q:AM e C.ts=some a)
  (z:a.zero.cells.size=a.size) (w:Nat.blt 0 a.size=true) (hx:AJ l x=some (.slice A n cx)) (hy:AJ l y=some (.slice f m c)) (j:Ai enc a.size h A n xs) (k:Ai enc a.size h f m ys) (u:cx=n) (hm:0<m)
  (i:∀x,(enc x).length=a.size) (p:n+m≤1000000000) (s:Nat.ble a.bytes 100000=true)
  (g:∀A' b h',V h h'→n+m≤b→Ai enc a.size h' A' (n+m) (xs++ys)→G (.slice A' (n+m) b) Es h'):Cd C l Es h ⟨some d,.call ⟨.builtin .append,#[x,y],#[t,t]⟩,ty,pos,aft,gd⟩ G:=
 hO (e:=e) (n:=n+m) (xs:=xs++ys) i (by rw[Bt,j.len,k.len])
  (Ay9 hT r q z w hx hy j k u hm i p s λA' b=>⟨Es,rfl,λA c o v hc hs=>g A c o v hc hs⟩)
def DE {α:Type}{enc:α→Ao}{t e n:Nat}{c:YZ}{ps:PK}{T a:Ay}{cs:Ao}(xs:List α)(hT:AM t C.ts=some T)(j:T.desc=.slice e)(f:AM e C.ts=some a)
  (r:BX a.zero≠[]) (s:(BX a.zero).length=a.size) (hn:Nat.ble (n*a.size) 16777216=true) (hp:ND l c.toList=some ps) (hc:Nx (λi=>some (i*a.size,a.size)) ps (repl (BX a.zero) n)=some cs)
  (o:∀x,(enc x).length=a.size) (k:cs=xs.flatMap enc) (q:xs.length=n)
  (g:∀b h',V h h'→Ai enc a.size h' (some (Av b)) n xs→G (.slice (some (Av b)) n n) Es h'):Cd C l Es h ⟨some d,.buildSlice t n c,ty,pos,aft,gd⟩ G:=
 HQ hT j f r s hn hp hc λb h' p m=>g b h' p (Ai.of_flat o q (by rw[←k];exact m))
end
def OJ (eq:Nat→Value→Value→PJ) (e:Nat) (E:Ay) (xs ys:Ao):BD→PJ
 |[]=>some true
 |i::r=>match EC (i*E.size) E.size E.agg xs,EC (i*E.size) E.size E.agg ys with
   |some a,some b=>match eq e a b,OJ eq e E xs ys r with
     |some p,some q=>some (p&&q)
     |_,_=>none
   |_,_=>none
def IK (ts:ER):Nat→Nat→Value→Value→PJ
 |0,_,_,_=>none
 |n+1,t,x,y=>match AM t ts with
   |some T=>match T.desc,x,y with
     | .int _,.int k a,.int d b=>if k=d then some (DZ a b)else none
     | .bool,.bool a,.bool b=>some (a==b)
     | .string,.string a,.string b=>some (a==b)
     | .struct fs,.agg xs,.agg ys=>KN ts (IK ts n) xs.toList ys.toList fs.toList
     | .array m e,.agg xs,.agg ys=>match AM e ts with
       |some c=>OJ (IK ts n) e c xs.toList ys.toList (List.range m)
       |none=>none
     |_,_,_=>none
   |none=>none
def Kr (ts:ER):Nat→Nat→BD
 |0,_=>[]
 |n+1,t=>match AM t ts with
   |some T=>match T.desc with
     | .struct fs=>t::fs.toList.flatMap λf=>Kr ts n f.type
     | .array _ e=>Kr ts n e
     |_=>[]
   |none=>[]
theorem XK {P:Program}{ts:ER}(hT:FZ P ts)(w:World):∀{n:Nat} {t:Nat} {x y:Value} {b:Bool},IK ts n t x y=some b→(∀i∈Kr ts n t,P.stoodInHeld i=false)→∀d,(Op.equalIn (n+d) t x y).run P w=.ok b w
 |0,_,_,_,_,h,_,_=>by cases h
 |n+1,t,x,y,b,h,hs,d=>by
  rw[show n+1+d=(n+d)+1 by omega];unfold IK at h;cases ab:AM t ts with
  |none=>rw[ab]at h;cases h
  |some T=>
   rw[ab]at h;obtain⟨D,j,c⟩:=hT.und ab;simp only at h;split at h;{rename_i k0 k a au ac g;split at h;{rename_i ao;subst ao;injection h with h;subst h;rw[g]at c;rw[Nk c]at j;rw[run_equalIn_int w _ t k k0 a ac j,FP];congr 1};{cases h}};{rename_i a ac g;injection h with h;subst h;rw[g]at c;rw[ZT c]at j;exact run_equalIn_bool w _ t a ac j};{rename_i a ac g;injection h with h;subst h;rw[g]at c;rw[Ox c]at j;rw[run_equalIn_string w _ t a ac j,←beq_toListBytes]}
   ·rename_i fs xs ys g;rw[g]at c;obtain⟨gs,rfl,hg⟩:=Sy c;have ap:P.stoodInHeld t=false:=hs t (by unfold Kr;rw[ab];simp only[g];exact .head _);(have hfo:P.fieldsOf t=gs:=by simp[Program.fieldsOf,j]);rw[run_equalIn_struct w (n+d) t xs ys (by rw[hfo];exact j) ap,hfo]
    have aa:∀f∈fs.toList,∀i∈Kr ts n f.type,P.stoodInHeld i=false:=λf hf i hi=>hs i (by
     unfold Kr;rw[ab];simp only[g];exact .tail _ (GJ.2 ⟨f,hf,hi⟩))
    rw[←hg]at h aa;clear hg j hfo c g;generalize gs.toList=am at h aa;induction am generalizing b with|nil=>simp only[Jv,KN,Eh]at h;subst h;rfl|cons f r ag=>simp only[CW,KN]at h;(have aj:(IV f).name = "_" ↔f.name = "_" :=by{unfold IV;by_cases hf:f.name = "_" <;>simp[hf]});have ak:=λb c=>ag (b:=b) c (λal an=>aa al (by simp only[CW];exact .tail _ an));unfold Op.eqFields;by_cases hf:f.name = "_";{rw[if_pos (aj.2 hf)]at h;simp only[hf,ne_eq,not_true,if_false];exact ak b h};{rw[if_neg (λe=>hf (aj.1 e))]at h;simp only[ne_eq,hf,not_false_eq_true,if_true];have e1:(IV f).type=f.type:=rfl;have e2:(IV f).offset=f.offset:=rfl;rw[e1,e2]at h;cases z:AM f.type ts with|none=>(rw[z]at h;cases h)|some af=>rw[z]at h;simp only at h;cases hx:EC f.offset af.size af.agg xs.toList with|none=>(rw[hx]at h;cases h)|some p=>cases hy:EC f.offset af.size af.agg ys.toList with|none=>(rw[hx,hy]at h;cases h)|some q=>rw[hx,hy]at h;simp only at h;have ad:=Nl hx w (hT.run_size z w) (hT.run_agg z w);have ae:=Nl hy w (hT.run_size z w) (hT.run_agg z w);simp only[SJ]at ad ae;cases s:IK ts n f.type p q with|none=>(rw[s]at h;cases h)|some u=>rw[s]at h;cases hr:KN ts (IK ts n) xs.toList ys.toList (r.map IV)with|none=>(rw[hr]at h;cases h)|some v=>rw[hr]at h;simp only[Eh]at h;subst h;have ah:=XK hT w s (aa (IV f) An) d;simp only[BK,ad,ae,B',ah];cases u with|false=>simp|true=>simpa using ak v hr}
   {rename_i m e xs ys g;rw[g]at c;rw[Ou c]at j;cases o:AM e ts with|none=>(rw[o]at h;cases h)|some l=>rw[o]at h;simp only at h;obtain⟨ar,ai,_⟩:=hT.info o;(have aq:P.cellsOf e=l.size:=by{have h1:=hT.run_size o w;rw[run_sizeOf w ai]at h1;injection h1});rw[run_equalIn_array w (n+d) xs ys j ai,aq];have aa:∀i∈Kr ts n e,P.stoodInHeld i=false:=λi hi=>hs i (by unfold Kr;rw[ab];simp only[g];exact hi);generalize List.range m=is at h;induction is generalizing b with|nil=>simp only[OJ,Eh]at h;subst h;rfl|cons i is ag=>simp only[OJ]at h;cases hx:EC (i*l.size) l.size l.agg xs.toList with|none=>(rw[hx]at h;cases h)|some p=>cases hy:EC (i*l.size) l.size l.agg ys.toList with|none=>(rw[hx,hy]at h;cases h)|some q=>rw[hx,hy]at h;simp only at h;have ad:=Nl hx w (hT.run_size o w) (hT.run_agg o w);have ae:=Nl hy w (hT.run_size o w) (hT.run_agg o w);simp only[SJ]at ad ae;cases s:IK ts n e p q with|none=>(rw[s]at h;cases h)|some u=>rw[s]at h;cases hr:OJ (IK ts n) e l xs.toList ys.toList is with|none=>(rw[hr]at h;cases h)|some v=>rw[hr]at h;simp only[Eh]at h;subst h;have ah:=XK hT w s aa d;simp only[Op.eqItems,BK,ad,ae,B',ah];cases u with|false=>simp|true=>simpa using ag v hr};{cases h}
theorem hI {ts:ER}{eq:Nat→Value→Value→PJ}(c:∀t x b,eq t x x=some b→b=true){xs:Ao}:∀{fs:List Field} {b:Bool},KN ts eq xs xs fs=some b→b=true
 |[],b,h=>by simp only[KN,Eh]at h;exact h.symm
 |f::r,b,h=>by simp only[KN]at h;split at h;{exact hI c h};{split at h;{split at h;{rename_i a e h1 h2;rw[h1]at h2;injection h2 with h2;subst h2;split at h;{rename_i p q h3 d;injection h with h;rw[←h,c _ _ _ h3,hI c d];rfl};{cases h}};{cases h}};{cases h}}
theorem zO {eq:Nat→Value→Value→PJ}(c:∀t x b,eq t x x=some b→b=true){e:Nat}{d:Ay}{xs:Ao}:∀{is:BD} {b:Bool},OJ eq e d xs xs is=some b→b=true
 |[],b,h=>by simp only[OJ,Eh]at h;exact h.symm
 |i::r,b,h=>by simp only[OJ]at h;split at h;{rename_i a g h1 h2;rw[h1]at h2;injection h2 with h2;subst h2;split at h;{rename_i p q h3 f;injection h with h;rw[←h,c _ _ _ h3,zO c f];rfl};{cases h}};{cases h}
theorem fN {ts:ER}:∀{n:Nat} {t:Nat} {x:Value} {b:Bool},IK ts n t x x=some b→b=true
 |0,_,_,_,h=>by cases h
 |n+1,t,x,b,h=>by unfold IK at h;split at h;{split at h;{rename_i h1 h2;split at h;{injection h with h;injection h2 with _ h2;subst h2;rw[←h,FP];simp};{cases h}};{rename_i h1;injection h with h;injection h1 with h1;subst h1;rw[←h];simp};{rename_i h1;injection h with h;injection h1 with h1;subst h1;rw[←h,beq_toListBytes];simp};{rename_i h1;injection h1 with h1;subst h1;exact hI (λt x b=>fN) h};{rename_i h1;injection h1 with h1;subst h1;split at h;{exact zO (λt x b=>fN) h};{cases h}};{cases h}};{cases h}
section
variable {C:Bu} {l:AW} {hh:U} {ty:TypeId} {pos:String} {aft:Cw} {gd:Cq} {dst:CK}
def jD {P:Program}{ts:ER}(hT:FZ P ts){t:Nat}{xs ys:Dx}{b:Bool}(h:IK ts 10 t (.agg xs) (.agg ys)=some b)(hs:(Kr ts 10 t).all (λi=> !P.stoodInHeld i)=true)(hg:P.eqGuardType P.depth t=false)(w:World)(a c:Operand) :
  (do eqGuard .eql t a c (.agg xs) (.agg ys);binOp .eql t (.agg xs) (.agg ys):Sem Value).run P w=.ok (.bool b) w∧(do eqGuard .neq t a c (.agg xs) (.agg ys);binOp .neq t (.agg xs) (.agg ys):Sem Value).run P w=.ok (.bool (!b)) w:=by
 have d:∀i∈Kr ts 10 t,P.stoodInHeld i=false:=λi hi=>by
  have:=Kz.1 hs i hi;simpa using this
 have q:=XK hT w h d 9990
 constructor
 · simp only[BK,run_eqGuard_agg w _ t a c xs ys hg,B',run_eql_struct,q]
 · simp only[BK,run_eqGuard_agg w _ t a c xs ys hg,B',run_neq_struct,q]
def Aw8 {t ty':TypeId}{x y:Operand}{xs ys:Dx}{b:Bool}(hx:AJ l x=some (.agg xs))(hy:AJ l y=some (.agg ys))(h:IK C.ts 10 t (.agg xs) (.agg ys)=some b)(hs:(Kr C.ts 10 t).all (λi=> !C.P.stoodInHeld i)=true)
  (hg:C.P.eqGuardType C.P.depth t=false):DN C l [] hh ⟨dst,.binOp .eql t x y ty',ty,pos,aft,gd⟩ (.bool b):=
 ⟨rfl,λa w hsl _ _=>by
  have:=(jD C.ok h hs hg w x y).1
  rw[BK]at this
  simp only[execOp,hsl.eval hx,hsl.eval hy,BK]
  rw[this];rfl⟩
def wF {t ty':TypeId}{x y:Operand}{xs ys:Dx}{b:Bool}(hx:AJ l x=some (.agg xs))(hy:AJ l y=some (.agg ys))(h:IK C.ts 10 t (.agg xs) (.agg ys)=some b)(hs:(Kr C.ts 10 t).all (λi=> !C.P.stoodInHeld i)=true)
  (hg:C.P.eqGuardType C.P.depth t=false):DN C l [] hh ⟨dst,.binOp .neq t x y ty',ty,pos,aft,gd⟩ (.bool (!b)):=
 ⟨rfl,λa w hsl _ _=>by
  have:=(jD C.ok h hs hg w x y).2
  rw[BK]at this
  simp only[execOp,hsl.eval hx,hsl.eval hy,BK]
  rw[this];rfl⟩
def wG {t ty':TypeId}{x y:Operand}{xs:Dx}(hx:AJ l x=some (.agg xs))(hy:AJ l y=some (.agg xs))(h:(IK C.ts 10 t (.agg xs) (.agg xs)).isSome=true)(hs:(Kr C.ts 10 t).all (λi=> !C.P.stoodInHeld i)=true)
  (hg:C.P.eqGuardType C.P.depth t=false):DN C l [] hh ⟨dst,.binOp .neq t x y ty',ty,pos,aft,gd⟩ (.bool false):=by
 obtain⟨b,a⟩:=Option.isSome_iff_exists.1 h
 have:=fN a;subst this
 exact wF hx hy a hs hg
end
def Gp (xs:AC):AC:=xs.mergeSort λx y=>decide (x≤y)
def ZL (xs:AC):(Gp xs).length=xs.length:=Ayy xs
theorem QX:∀(xs:AC),xs.flatMap AQ=xs.map λi=>Value.int .i64 i
 |[]=>rfl
 |x::r=>by rw[Eb,QX r];rfl
def Aix {P:Program}{f:FuncId}(ah:∀(blk off a:Nat) (zs:AC) (w:World),Sort.Holds (Value.int .i64) w blk off zs.toArray→blk<w.heap.size→zs.length<4611686018427387904→
  Calls P f #[.slice (some ⟨blk,off,none⟩) zs.length a] w λe l=>e=.returned (.tuple #[])∧∃n os,l=Sort.grow (Sort.putRow (Value.int .i64) (Sort.ahead w n) blk off (zs.mergeSort λx y=>decide (x≤y)).toArray) os)
  (ak:∀(p:At) (a:Nat) (w:World),Calls P f #[.slice p 0 a] w λe l=>e=.returned (.tuple #[])∧l=w)
  (e:TypeId) (v:Value) (xs:AC) (n:Nat) (h:U) (hn:n≤1000000000) (hx:xs.length=n) :
  AP P f #[v] [Ar e 1 v n (xs.flatMap AQ)] h λu Es _=>u=.tuple #[]∧Es=[Ar e 1 v n ((Gp xs).flatMap AQ)]:=by
 subst hx
 intro w X0 ap ⟨ad,aw,ar,q⟩
 have m:Bq w X0 h [Ar e 1 v xs.length (xs.flatMap AQ)] h w:=⟨rfl,rfl,rfl,BU _,BU _,λ_ _ _=>rfl,ap,V.refl _,λi o e=>.inl e,ad,aw,ar,λb h1=>⟨(q b h1).1,.inr (q b h1).2.1,(q b h1).2.2⟩⟩
 obtain⟨D,z⟩:=m.get (La _)
 have a0:=z
 obtain⟨a3,hr⟩:=z
 rcases hr with⟨rfl,h0,ai⟩|⟨g,a,c,rfl,ai,hm,al,aq,aa,t⟩
 · have hx:xs=[]:=Fu h0
   subst hx
   refine(ak none 0 w).mono ?_
   rintro ae l ⟨rfl,rfl⟩
   have af:Gp []=[]:=by simp[Gp]
   exact⟨_,rfl,_,h,⟨rfl,by rw[af]⟩,m⟩
 · have d:w.heap[g]?=some (.cells c e (0,0)):=hm
   rw[Gy]at aa t
   rw[QX]at t
   have am:∀j,j<xs.length→c[j]?=some (O (xs.getD j 0)):=by
    intro j hj
    have h1:(c.toList.take xs.length)[j]?=(xs.map λi=>Value.int .i64 i)[j]?:=by rw[t]
    rw[FF,if_pos hj,FG,Bw hj]at h1
    rw[←Lk,h1];simp[List.getD,Bw hj]
   refine(ah g 0 a xs w ?_ ?_ J).mono ?_
   · intro j hj
     have r:j<xs.length:=by simpa using hj
     refine⟨?_,?_⟩
     · simp only[World.cell?,d,Dy]
       simp[am j r,List.getD,getElem!_pos xs.toArray j (by simpa using r),Bw r]
     · simp[World.frozen?,d]
   · exact(JE.1 d).1
   rintro ae l ⟨rfl,k,os,rfl⟩
   refine⟨_,rfl,_,h,⟨rfl,rfl⟩,?_⟩
   have hsl:=ZL xs
   have ao:g<w.heap.size:=(JE.1 d).1
   refine m.repl .here rfl rfl rfl (by simp[Sort.grow]) λac ag a2 a1=>?_
   have aj:ac=[g]:=by
    rcases ag.2 with⟨e1,_⟩|⟨az,ax,ay,e1,e2,_⟩
    · cases e1
    · injection e1 with e1 _;injection e1 with e1;injection e1 with e1;rw[e2,e1]
   subst aj
   have ab:∀i,i<w.heap.size→(Sort.grow (Sort.putRow (Value.int .i64) (Sort.ahead w k) g 0 (xs.mergeSort λx y=>decide (x≤y)).toArray) os).heap[i]?=(w.heap.modify g (Sort.onCells (Sort.putCells (Value.int .i64) 0 (Gp xs).toArray)))[i]?:=by
    intro i hi
    show(w.heap.modify g _++os)[i]?=_
    rw[Rb Jq];rfl
   refine⟨[g],⟨by rw[QX];simp[hsl],.inr ⟨g,a,Sort.putCells (Value.int .i64) 0 (Gp xs).toArray c,rfl,rfl,?_,al,aq,by simp[Sort.putCells,aa],?_⟩⟩,An,?_,?_⟩
   · show(Sort.grow _ os).heap[g]?=_
     rw[ab g ao,Is,if_pos rfl,d]
     rfl
   · rw[Gy,QX]
     apply K'
     intro j
     rw[FF,FG]
     by_cases hj:j<xs.length
     · rw[if_pos hj,Lk]
       have s:j<(Gp xs).length:=by omega
       have an:j<c.size:=by omega
       simp only[Sort.putCells,Vc,OC an,Hg,GT,true_and,Dy,Nb,s,if_true,JM,Bw s]
       rw[getElem!_pos _ j (by simpa using s)]
       simp
     · rw[if_neg hj,Mj J];rfl
   · intro i hi
     simp only[Bk]at hi
     subst hi
     exact⟨.inl An,by simp[Sort.grow];omega⟩
   · intro i hi av
     have au:g≠i:=λe=>av MS
     rw[ab i hi,Is,if_neg au]
def Asa {P:Program}{f:FuncId}(aj:∀(blk off a:Nat) (zs:AC) (w:World),Sort.Holds (Value.int .i64) w blk off zs.toArray→zs.length≤9223372036854775807→zs.length≤a→
  Calls P f #[.slice (some ⟨blk,off,none⟩) zs.length a] w λe l=>e=.returned (.slice (some ⟨blk,off,none⟩) (Lib.compact zs).length a)∧∃q,l=Sort.putRow (Value.int .i64) (Sort.ahead w q) blk off (Lib.compact zs++List.replicate (zs.length-(Lib.compact zs).length) 0).toArray)
  (am:∀(p:At) (a:Nat) (w:World),Calls P f #[.slice p 0 a] w λe l=>e=.returned (.slice p 0 a)∧l=w)
  (t:∀zs:AC,(Lib.compact zs).length≤zs.length)
  (e:TypeId) (v:Value) (xs:AC) (n:Nat) (h:U) (hn:n≤1000000000) (hx:xs.length=n) :
  AP P f #[v] [Ar e 1 v n (xs.flatMap AQ)] h λu Es _=>Es=[Ar e 1 u (Lib.compact xs).length ((Lib.compact xs).flatMap AQ)]:=by
 subst hx
 intro w X0 ar ⟨af,ay,av,s⟩
 have r:Bq w X0 h [Ar e 1 v xs.length (xs.flatMap AQ)] h w:=⟨rfl,rfl,rfl,BU _,BU _,λ_ _ _=>rfl,ar,V.refl _,λi o e=>.inl e,af,ay,av,λb h1=>⟨(s b h1).1,.inr (s b h1).2.1,(s b h1).2.2⟩⟩
 obtain⟨D,aa⟩:=r.get (La _)
 have a3:=aa
 obtain⟨a6,hr⟩:=aa
 have t:=t xs
 rcases hr with⟨rfl,h0,ak⟩|⟨g,a,d,rfl,ak,hm,an,au,ab,z⟩
 · have hx:xs=[]:=Fu h0
   subst hx
   refine(am none 0 w).mono ?_
   rintro ag l ⟨rfl,rfl⟩
   have ah:Lib.compact ([]:AC)=[]:=Fu (by simpa using t)
   exact⟨_,rfl,_,h,rfl,by rw[ah];exact r⟩
 · have m:w.heap[g]?=some (.cells d e (0,0)):=hm
   rw[Gy]at ab z
   rw[QX]at z
   have ao:∀j,j<xs.length→d[j]?=some (O (xs.getD j 0)):=by
    intro j hj
    have h1:(d.toList.take xs.length)[j]?=(xs.map λi=>Value.int .i64 i)[j]?:=by rw[z]
    rw[FF,if_pos hj,FG,Bw hj]at h1
    rw[←Lk,h1];simp[List.getD,Bw hj]
   refine(aj g 0 a xs w ?_ J an).mono ?_
   · intro j hj
     have x:j<xs.length:=by simpa using hj
     refine⟨?_,?_⟩
     · simp only[World.cell?,m,Dy]
       simp[ao j x,List.getD,getElem!_pos xs.toArray j (by simpa using x),Bw x]
     · simp[World.frozen?,m]
   rintro ag l ⟨rfl,k,rfl⟩
   generalize a8:Lib.compact xs=zs at *
   refine⟨_,rfl,_,h,rfl,?_⟩
   have aq:g<w.heap.size:=(JE.1 m).1
   refine r.repl .here rfl rfl rfl (by simp[Sort.putRow,Sort.mapBlock,Sort.ahead]) λae ai a5 a4=>?_
   have al:ae=[g]:=by
    rcases ai.2 with⟨e1,_⟩|⟨a2,a0,a1,e1,e2,_⟩
    · cases e1
    · injection e1 with e1 _;injection e1 with e1;injection e1 with e1;rw[e2,e1]
   subst al
   generalize ad:(zs++List.replicate (xs.length-zs.length) 0).toArray=c
   have a7:c.size=xs.length:=by rw[←ad];simp;omega
   have az:∀j,j<zs.length→c[j]?=zs[j]?:=λj hj=>by rw[←ad];simp[GK hj]
   have ac:∀i:Nat,(Sort.putRow (Value.int .i64) (Sort.ahead w k) g 0 c).heap[i]?=(w.heap.modify g (Sort.onCells (Sort.putCells (Value.int .i64) 0 c)))[i]?:=λi=>rfl
   refine⟨[g],⟨by rw[QX];simp,.inr ⟨g,a,Sort.putCells (Value.int .i64) 0 c d,rfl,rfl,?_,J,au,by simp[Sort.putCells,ab],?_⟩⟩,An,?_,?_⟩
   · show(Sort.putRow _ _ _ _ _).heap[g]?=_
     rw[ac g,Is,if_pos rfl,m]
     rfl
   · rw[Gy,QX]
     apply K'
     intro j
     rw[FF,FG]
     by_cases hj:j<zs.length
     · rw[if_pos hj,Lk]
       have ap:j<d.size:=by omega
       have y:j<c.size:=by omega
       simp only[Sort.putCells,Vc,OC ap,Hg,GT,true_and,Dy,y,if_true,JM]
       rw[getElem!_pos _ j y]
       have:=az j hj
       rw[OC y]at this
       rw[←this];rfl
     · rw[if_neg hj,Mj J];rfl
   · intro i hi
     simp only[Bk]at hi
     subst hi
     exact⟨.inl An,by simpa[Sort.putRow,Sort.mapBlock,Sort.ahead]using aq⟩
   · intro i hi ax
     have aw:g≠i:=λe=>ax MS
     rw[ac i,Is,if_neg aw]
def aX (zs:AC):(Lib.compact zs).length≤zs.length:=by unfold Lib.compact Lib.compactUpTo;rw[Dc];have:=Pn (Lib.keeps zs.toArray) (List.range zs.length);simpa using this
def hU (zs:AC)(j:Nat)(hj:j<zs.length):Lib.keeps zs.toArray j=true↔j=0∨zs.getD j 0≠zs.getD (j-1) 0:=by unfold Lib.keeps;rw[decide_eq_true_eq];by_cases h0:j=0;{simp[h0]};{simp[h0,getElem!_pos zs.toArray j OU,getElem!_pos zs.toArray (j-1) FC,List.getD,Bw hj,Bw (show j-1<zs.length by omega)]}
def Axm {zs:AC}(x:Int):x∈Lib.compact zs↔x∈zs:=by unfold Lib.compact Lib.compactUpTo;simp only[CZ,DQ,JY];constructor;{rintro⟨j,⟨hj,_⟩,rfl⟩;rw[getElem!_pos zs.toArray j OU];simp};{intro hx;obtain⟨i,hi,rfl⟩:=Yk hx;(have:∀i,(hi:i<zs.length)→∃j,(j<zs.length∧Lib.keeps zs.toArray j=true)∧zs.toArray[j]! =zs[i]:=by{intro i;induction i with|zero=>intro hi;exact⟨0,⟨hi,(hU zs 0 hi).2 (.inl rfl)⟩,by rw[getElem!_pos zs.toArray 0 Jq];simp⟩|succ i b=>intro hi;by_cases a:zs[i+1]=zs[i];{rw[a];exact b J};{refine⟨i+1,⟨hi,(hU zs (i+1) hi).2 (.inr ?_)⟩,by rw[getElem!_pos zs.toArray (i+1) Jq];simp⟩;simpa[List.getD,Bw hi,Bw (show i<zs.length by omega)]using a}});exact this i hi}
def nI (xs:AC):(Gp xs).Pairwise (· ≤·):=by unfold Gp;have:=eG (le:=λx y:Int=>decide (x≤y)) (λa b c h1 h2=>by simp at *;omega) (λa b=>by simp;omega) xs;simpa using this
def Gt {C:Bu}{l:AW}{Es Es':Am}{h:U}{o:Oper}{G:Value→Am→U→Prop}{b:Nat}{e:TypeId}{cs:Ao}(hT:C' Es (Ap b e cs) Es')
  (g:∀h',V h h'→Au h' (Av b) cs→Cd C l Es' h' o G):Cd C l Es h o G:=λa w hs H=>by
 obtain⟨D,h',f,d,c⟩:=H.release hT
 exact g h' f (SA d.2) a w hs c
def hP {C:Bu}{l:AW}{Es Es':Am}{h:U}{o:Oper}{G:Value→Am→U→Prop}{α:Type}{enc:α→Ao}{e sz:Nat}{v:Value}{n:Nat}{xs:List α}(f:∀x,(enc x).length=sz)(hn:xs.length=n)
  (hT:C' Es (Ar e sz v n (xs.flatMap enc)) Es') (g:∀A c h',V h h'→v=.slice A n c→n≤c→Ai enc sz h' A n xs→Cd C l Es' h' o G):Cd C l Es h o G:=λa w hs H=>by
 obtain⟨D,h',i,d,b⟩:=H.release hT
 obtain⟨A,c,rfl,j,k⟩:=QS f hn d
 exact g A c h' i rfl j k a w hs b
section
variable {C:Bu} {ds:CL} {l:AW} {Es:Am} {h:U} {ops:Dm} {os:Hc} {K:CB}
end
section
variable {C:Bu} {ds:CL} {l:AW} {Es:Am} {h:U} {ops:Dm} {os:Hc} {K:CB}
def Aa7 {xs:KI}{tys:Kf}{n:Int}{d:Tmp}{ty:TypeId}{pos:String}{aft:Cw}{gd:Cq}
 (hv:Kg C.ts l (.call ⟨.builtin .min,xs,tys⟩)=some (O n)) (hg:Fe ops l gd=some true) (a:GI C.N (some d)=true) (g:∀w:Int,w=n→Bz C ds ((d,O w)::l) Es h ops os K) :
 Bz C ds l Es h ops (⟨some d,.call ⟨.builtin .min,xs,tys⟩,ty,pos,aft,gd⟩::os) K:=NJ hv hg a (g n rfl)
def Aa8 {xs:KI}{tys:Kf}{n:Int}{d:Tmp}{ty:TypeId}{pos:String}{aft:Cw}{gd:Cq}
 (hv:Kg C.ts l (.call ⟨.builtin .max,xs,tys⟩)=some (O n)) (hg:Fe ops l gd=some true) (a:GI C.N (some d)=true) (g:∀w:Int,w=n→Bz C ds ((d,O w)::l) Es h ops os K) :
 Bz C ds l Es h ops (⟨some d,.call ⟨.builtin .max,xs,tys⟩,ty,pos,aft,gd⟩::os) K:=NJ hv hg a (g n rfl)
end
def JU (A:At) (c lo sz:Nat):At:=if c=lo then A else A.map (·.add (lo*sz))
def Ig (A:At) (c sz:Nat):At:=if c=0 then A else A.map (·.add (0*sz))
def Ai.low {α:Type}{enc:α→Ao}{sz:Nat}{h:U}{A:At}{n:Nat}{xs:List α}(hs:Ai enc sz h A n xs){lo c:Nat}(a:lo≤n)(hnc:n≤c):Ai enc sz h (JU A c lo sz) (n-lo) (xs.drop lo):=by
 have b:=hs.part (l:=lo) (k:=n) a (BU _) (JU A c lo sz) (λh=>by
  unfold JU;split;{rename_i hc;omega}
  ·rfl)
 rwa [By (by rw[hs.len];exact BU _)]at b
def Ai.high {α:Type}{enc:α→Ao}{sz:Nat}{h:U}{A:At}{n:Nat}{xs:List α}(hs:Ai enc sz h A n xs){hi c:Nat}(a:hi≤n)(hnc:n≤c):Ai enc sz h (Ig A c sz) hi (xs.take hi):=by
 have b:=hs.part (l:=0) (k:=hi) (GT _) a (Ig A c sz) (λh=>by
  unfold Ig;rw[if_neg J])
 rwa [J',JM]at b
section
variable {C:Bu} {l:AW} {h:U} {ty:TypeId} {pos:String} {aft:Cw} {gd:Cq}
def Ml {x y:Operand}{t e:TypeId}{k:IntKind}{i:Int}{lo n c:Nat}{A:At}{T b:Ay}{dst:CK}(hT:AM t C.ts=some T)(j:T.desc=.slice e)(g:AM e C.ts=some b)
  (hx:AJ l x=some (.slice A n c)) (hy:AJ l y=some (.int k i)) (hi:i=(lo:Int)) (m:lo≤n):DN C l [] h ⟨dst,.slice t x (some y) none none,ty,pos,aft,gd⟩ (.slice (JU A c lo b.size) (n-lo) (c-lo)):=
 ⟨rfl,λa w hsl _ _=>by
  obtain⟨o,f,d⟩:=C.ok.und hT
  rw[j]at d
  rw[Ho d]at f
  have e1:a.eval x=.slice A n c:=hsl.eval hx
  have e2:a.eval y=.int k i:=hsl.eval hy
  simp only[execOp,Instr.sliceAt,BK,run_underlying f,B',Instr.slice,e1,e2,Hg,Qn,Instr.sliceBounds,CV,Mr (code:=.sliceB) hi m,C.ok.run_size g,Ir,if_false,Ud,JU]⟩
def PA {x y:Operand}{t e:TypeId}{k:IntKind}{i:Int}{hi n c:Nat}{A:At}{T b:Ay}{dst:CK}(hT:AM t C.ts=some T)(j:T.desc=.slice e)(g:AM e C.ts=some b)
  (hx:AJ l x=some (.slice A n c)) (hy:AJ l y=some (.int k i)) (m:i=(hi:Int)) (o:hi≤n) (hnc:n≤c):DN C l [] h ⟨dst,.slice t x none (some y) none,ty,pos,aft,gd⟩ (.slice (Ig A c b.size) hi c):=
 ⟨rfl,λa w hsl _ _=>by
  obtain⟨p,f,d⟩:=C.ok.und hT
  rw[j]at d
  rw[Ho d]at f
  have e1:a.eval x=.slice A n c:=hsl.eval hx
  have e2:a.eval y=.int k i:=hsl.eval hy
  simp only[execOp,Instr.sliceAt,BK,run_underlying f,B',Instr.slice,e1,e2,Hg,Qn,Instr.sliceBounds,CV,Mr m (Gj o hnc),C.ok.run_size g,Ir,if_false,if_true,Ud,JM,Ig]⟩
end
section
variable {C:Bu} {ds:CL} {l:AW} {Es:Am} {h:U} {ops:Dm} {os:Hc} {K:CB}
def gY {s t:TypeId}{x:Operand}{k:IntKind}{p:Int}{d:Tmp}{ty:TypeId}{pos:String}{aft:Cw}{gd:Cq}{S:Ay}{sz by':Nat}{z:Value}
  (a:AM s C.ts=some S) (hT:AM t C.ts=some ⟨t,.int .u64,sz,by',z⟩) (hx:AJ l x=some (.int k p)) (c:0≤p∧p≤9223372036854775807)
  (hg:Fe ops l gd=some true) (b:GI C.N (some d)=true) (g:Bz C ds ((d,(.int .u64 p))::l) Es h ops os K):Bz C ds l Es h ops (⟨some d,.convert s t x,ty,pos,aft,gd⟩::os) K:=by
 have e:IntKind.u64.wrap p=p:=by simp[IntKind.wrap,IntKind.bits,IntKind.signed];omega
 exact NJ (by simp[Kg,a,hT,hx,XX,e]) hg b g
end
section
variable {C:Bu} {ds:CL} {l:AW} {Es:Am} {h:U} {ops:Dm} {os:Hc} {K:CB}
def Ac9 {Es':Am}{A:EQ}(hT:C' Es A Es')(g:∀D h',V h h'→A.holds D h'→Bz C ds l Es' h' ops os K):Bz C ds l Es h ops os K:=λk c a w s=>by
 obtain⟨D,h',d,b,H⟩:=s.hp.release hT
 exact g D h' d b k c a w ⟨s.size,s.defers,s.slots,H⟩
def fT {α:Type}{enc:α→Ao}{e sz:Nat}{v:Value}{n:Nat}{xs:List α}{Es':Am}(d:∀x,(enc x).length=sz)(hn:xs.length=n)(hT:C' Es (Ar e sz v n (xs.flatMap enc)) Es')
  (g:∀A c h',V h h'→v=.slice A n c→n≤c→Ai enc sz h' A n xs→Bz C ds l Es' h' ops os K):Bz C ds l Es h ops os K:=
 Ac9 hT λD h' f b=>by
  obtain⟨A,c,e1,e2,a⟩:=QS d hn b
  exact g A c h' f e1 e2 a
end
section
variable {C:Bu} {ds:CL} {l0:AW} {Vs:ES} {Es:Am} {h:U} {K:CB} {os:Hc} {pl:IG} {i:Nat}
def uF {m j n k:Nat}{b r c d:IG}(a:(Pk Vs [i,j,k] os.toArray&&Nat.blt i os.toArray.size&& !HN Vs i)=true)(f:Vl m pl=some b)(hr:VJ m pl=some r)(g:Vl n r=some c)(l:VJ n r=some d)
  (hi:RL b C ds l0 Vs Es h os K i) (hj:RL c C ds l0 Vs Es h os K j) (e:RL d C ds l0 Vs Es h os K k):BV ((i,3)::(m,j)::(n,k)::pl) C ds l0 Vs Es h os.toArray K:=by
 simp only[Hq,IE,Pf]at a
 refine fB (cs:=[i,j,k]) a.1.1 ⟨i,.head _,a.1.2,a.2⟩ λq hq=>?_
 rcases Bx.1 hq with rfl|hq
 · exact hi
 · rcases Bx.1 hq with rfl|hq
   · exact hj
   · rw[Bk]at hq;subst hq;exact e
end
end Go.Hw