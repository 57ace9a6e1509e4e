import Derived.Test.YtbmffdagfjepgaaGreatDoorHwUs
set_option linter.all false
namespace Go.Hw
open Go
abbrev OB:=BitVec 64
abbrev Ht:=List OB
abbrev SN (x:OB):Value:=.int .u64 ((x.toNat:Nat):Int)
def Av2 {n:Nat}(h:n<18446744073709551616):IntKind.u64.wrap (n:Int)=n:=Zb ⟨J,J⟩
def Aeb (n:Int):IntKind.u64.wrap n=n%18446744073709551616:=by simp[IntKind.wrap,IntKind.bits,IntKind.signed]
section
variable {C:Bu} {l:AW} {h:U} {ty:TypeId} {pos:String} {aft:Cw} {gd:Cq} {dst:CK} {t ty':TypeId} {x y:Operand} {a b:OB} {T:Ay}
def Aw3 {k:IntKind}{i:Int}{n:Nat}(hx:AJ l x=some (SN a))(hy:AJ l y=some (.int k i))(hi:i=(n:Int)):DN C l [] h ⟨dst,.binOp .shr t x y ty',ty,pos,aft,gd⟩ (SN (a >>>n)):=
 ⟨rfl,λac w hs _ _=>by
  have e1:=hs.eval hx
  have e2:=hs.eval hy
  subst hi
  have d:(((a.toNat:Nat):Int)).fdiv (2^(min n 64))=(((a >>>n).toNat:Nat):Int):=by
   rw[A09,Nat.shiftRight_eq_div_pow]
   rw[Int.fdiv_eq_ediv_of_nonneg _ (by exact eZ (Int.pow_pos J))]
   have:((2:Int)^(min n 64))=((2^(min n 64):Nat):Int):=by push_cast;rfl
   rw[this,←Int.natCast_ediv]
   have b:a.toNat / 2^(min n 64)=a.toNat / 2^n:=by
    rcases Nat.le_total n 64 with h|h
    · rw[QA h]
    · rw[Nat.min_eq_right h]
      have c:a.toNat<2^64:=a.isLt
      rw[wQ c,wQ (Up c (Nat.pow_le_pow_right J h))]
   rw[b]
  have b:(do eqGuard .shr t x y (SN a) (.int k ((n:Nat):Int));binOp .shr t (SN a) (.int k ((n:Nat):Int)):Sem Value).run C.P w=.ok (SN (a >>>n)) w:=by
   show(Op.shift .shr .u64 ((a.toNat:Nat):Int) k ((n:Nat):Int)).run C.P w=_
   unfold Op.shift
   rw[if_neg J]
   show Result.ok (Value.int .u64 ((((a.toNat:Nat):Int)).fdiv (2^(min (((n:Nat):Int).toNat) 64)))) w=_
   rw[UJ,d]
  simp only[execOp,e1,e2,BK,CV,B']at b ⊢
  rw[b];rfl⟩
end
section
variable {C:Bu} {l:AW} {h:U} {ty:TypeId} {pos:String} {aft:Cw} {gd:Cq} {dst:CK} {s t:TypeId} {x:Operand} {S:Ay} {sz by':Nat} {z:Value}
end
theorem iS:∀(cs:Ao),OD cs.length cs=some cs
 |[]=>rfl
 |x::r=>by have:=iS r;simp only[Do,OD,this]
theorem gH:∀(o:Nat) (v:Value) (cs:Ao),o<cs.length→JR o [v] cs=some (cs.set o v)
 |_,v,[],h=>absurd h An
 |0,v,x::r,_=>by(have:JR 0 [] r=some r:=by unfold JR;cases r<;>exact iS _);simp only[JR,this,List.set_cons_zero]
 |o+1,v,x::r,h=>by have:=gH o v r RM;simp only[JR,this,eF]
theorem hJ {α:Type}{enc:α→Ao}{sz:Nat}(b:∀x,(enc x).length=sz):∀(xs:List α) (k j:Nat) (x:α) (u:Value),xs[k]?=some x→(enc x)[j]?=some u→(xs.flatMap enc)[k*sz+j]?=some u
 |[],k,j,x,u,h,_=>by simp at h
 |y::r,0,j,x,u,h,a=>by rw[QN,Eh]at h;subst h;have hj:=(Kx.1 a).1;rw[Uo,Dy,Eb,GK hj];exact a
 |y::r,k+1,j,x,u,h,a=>by rw[Sp]at h;have:=hJ b r k j x u h a;rw[Eb,JZ (by rw[b,Na];omega),b,Na,show k*sz+sz+j-sz=k*sz+j by omega];exact this
theorem Wn {α:Type}{enc:α→Ao}{sz:Nat}(a:∀x,(enc x).length=sz):∀(xs:List α) (k:Nat) (x:α),k<xs.length→(xs.set k x).flatMap enc=(xs.flatMap enc).take (k*sz)++enc x++(xs.flatMap enc).drop (k*sz+sz)
 |[],k,x,h=>by simp at h
 |y::r,0,x,h=>by simp only[List.set_cons_zero,Eb,Uo,Ia,FE,Dy];rw[List.drop_left' (a y)]
 |y::r,k+1,x,h=>by have d:=Wn a r k x RM;have h1:(enc y).length=sz:=a y;simp only[eF,Eb,d];have b:=List.take_length_add_append (l₁:=enc y) (l₂:=r.flatMap enc) (k*sz);have c:=List.drop_length_add_append (l₁:=enc y) (l₂:=r.flatMap enc) (k*sz+sz);rw[h1]at b c;rw[show(k+1)*sz=sz+k*sz by rw[Na];omega,show sz+k*sz+sz=sz+(k*sz+sz) by omega,b,c];simp only[Ck]
section
variable {C:Bu} {ds:CL} {l:AW} {Es:Am} {h:U} {K:CB} {G:Value→Am→U→Prop} {ty:TypeId} {pos:String} {aft:Cw} {gd:Cq} {dst:CK} {d:Tmp}
def wV {T:TypeId}{t:Ay}{e sz b off n c:Nat}{cs vs:Ao}{v:Value}(hT:AM T C.ts=some t)(hv:EC 0 t.size t.agg vs=some v)(hc:∀j u,vs[j]?=some u→cs[off+j]?=some u) :
  QI C [Ar e sz (.slice (some (Av b)) n c) n cs] h T ⟨b,off,none⟩ v:=
 fU hT hv λw hn hm j u hj=>by
  obtain⟨D,r,hr⟩:=hn _ (.head _)
  rcases hr with⟨h0,_⟩|⟨l,k,d,h2,h3,f,o,p,q,g⟩
  · cases h0
  · injection h2 with h2 _ m
    injection h2 with h2;injection h2 with h2
    subst h2
    have i:w.heap[b]?=some (.cells d e (0,0)):=f
    have a:=hc j u hj
    rw[←g,FF]at a
    split at a
    · rw[GC]
      simp only[World.cell?,i]
      simpa using a
    · cases a
def LW {α:Type}{enc:α→Ao}{t e sz:Nat}{x:Operand}{b off k n c:Nat}{xs:List α}{a:Addr}{y:α}{v:Value}{T:Ay}(hT:AM t C.ts=some T)(hx:AJ l x=some (.pointer (some a)))(d:a=⟨b,k*sz,none⟩)(f:∀x,(enc x).length=sz)
  (hy:xs[k]?=some y) (hv:EC 0 T.size T.agg (enc y)=some v):DN C l [Ar e sz (.slice (some (Av b)) n c) n (xs.flatMap enc)] h ⟨dst,.load t x,ty,pos,aft,gd⟩ v:=by
 subst d
 exact BA hx (wV hT hv λj u hj=>hJ f xs k j y u hy hj)
def uJ {α:Type}{enc:α→Ao}{t e sz:Nat}{x y:Operand}{b k n c:Nat}{v:Value}{xs:List α}{d:Addr}{z:α}{Es':Am}{T:Ay}
  (hT:AM t C.ts=some T) (hx:AJ l x=some (.pointer (some d))) (j:d=⟨b,k*sz,none⟩) (hy:AJ l y=some v) (a:∀x,(enc x).length=sz) (hp:BX v=enc z)
  (i:Ei Es (Ar e sz (.slice (some (Av b)) n c) n (xs.flatMap enc)) (Ar e sz (.slice (some (Av b)) n c) n ((xs.set k z).flatMap enc)) Es') (f:k<xs.length)
  (hs:T.size=sz) (h1:Ly (BX v)=true) (g:G undef Es' h):Cd C l Es h ⟨none,.store t x y,ty,pos,aft,gd⟩ G:=by
 subst j
 have m:=Hp a xs
 have h2:(BX v).length=sz:=by rw[hp];exact a z
 refine aS hT hx hy i ?_ ?_ ?_ h1 g
 · rw[h2,hp];exact Wn a xs k z f
 · rw[h2,m]
   have:(k+1)*sz≤xs.length*sz:=Pe _ f
   rw[Na]at this;exact this
 · rw[h2,hs];simp
def VQ {e sz:Nat}{v:Value}{n:Nat}{xs:Ao}(hm:Ar e sz v n xs∈Es)(h0:0<n)(g:∀b c,n≤c→v=.slice (some (Av b)) n c→AI C ds l Es h K):AI C ds l Es h K:=λa w s=>by
 obtain⟨D,h1,hr⟩:=s.hp.get hm
 rcases hr with⟨h2,h3,_⟩|⟨b,d,i,h2,_,_,f,_⟩
 · omega
 · exact g b d f h2 a w s
def fE {e sz b n c m:Nat}{xs:Ao}(hm:m≤n){D:BD}{q:U}(H:(Ar e sz (.slice (some (Av b)) n c) n xs).holds D q):(Ar e sz (.slice (some (Av b)) m c) m (xs.take (m*sz))).holds D q:=by obtain⟨r,hr⟩:=H;have j:m*sz≤n*sz:=Pe _ hm;refine⟨OY,?_⟩;rcases hr with⟨h0,_⟩|⟨l,k,a,h2,h3,f,p,g,h,i⟩;{cases h0};{injection h2 with h2 o d;injection h2 with h2;injection h2 with h2;subst h2;subst d;exact .inr ⟨b,c,a,rfl,h3,f,J,g,h,by rw[←i,eB,QA j]⟩}
end
def Bq.rowSet {w0:World}{X0:BD}{h0 h:U}{Es Es':Am}{w:World}{e sz b off n c:Nat}{xs ys vs:Ao}(hp:Bq w0 X0 h0 Es h w)(l:Ei Es (Ar e sz (.slice (some (Av b)) n c) n xs) (Ar e sz (.slice (some (Av b)) n c) n ys) Es')
  (t:ys=xs.take off++vs++xs.drop (off+vs.length)) (aw:off+vs.length≤xs.length) :
  ∃a:Dx,w.heap[b]?=some (.cells a e (0,0))∧off+vs.length≤a.size∧Bq w0 X0 h0 Es' h (w.setRow b (a.toList.take off++vs++a.toList.drop (off+vs.length)).toArray):=by
 obtain⟨al,ai,ah,au⟩:=hp.own
 obtain⟨D,aa,aq,ax,_⟩:=l.own ai ah
 obtain⟨aj,hr⟩:=aa
 rcases hr with⟨h0,_⟩|⟨an,am,a,h2,h3,x,g,y,k,z⟩
 · cases h0
 · injection h2 with h2 _ v
   injection h2 with h2;injection h2 with h2
   subst h2;subst v
   have m:w.heap[b]?=some (.cells a e (0,0)):=x
   have av:n*sz≤a.size:=by rw[k];exact Pe _ g
   refine⟨a,m,J,?_⟩
   refine hp.repl l rfl rfl rfl (by simp[World.setRow]) λu ab ar ad=>?_
   have ac:u=[b]:=by
    rcases ab.2 with⟨q,_⟩|⟨ao,_,_,d,ak,_⟩
    · cases q
    · injection d with d _ _;injection d with d;injection d with d;rw[ak,d]
   subst ac
   refine⟨[b],⟨?_,.inr ⟨b,c,_,rfl,rfl,setRow_heap w b a _ e (0,0) m,g,y,?_,?_⟩⟩,An,λq hq=>⟨.inl hq,by have:=ad q hq;simpa[World.setRow]using this⟩,λi hi ag=>?_⟩
   · rw[t,←aj];simp only[Bt,CF,Kw];omega
   · simp only[Nb,Bt,CF,Kw,PI]
     rw[←k];omega
   · rw[t,←z]
     apply K'
     intro j
     rw[FF]
     have ae:(a.toList.take off).length=off:=by rw[CF,PI];omega
     have af:((a.toList.take (n*sz)).take off).length=off:=by rw[CF,CF,PI];omega
     by_cases hj:j<n*sz
     · rw[if_pos hj]
       by_cases o:j<off
       · rw[Ck,Ck,GK J,GK J,FF,FF,FF,if_pos o,if_pos o,if_pos hj]
       · have ap:∀(p r:Ao),p.length=off→(p++r)[j]?=r[j-off]?:=λp r hp=>by rw[JZ J,hp]
         rw[Ck,Ck,ap _ _ ae,ap _ _ af]
         by_cases s:j-off<vs.length
         · rw[GK s,GK s]
         · have f:∀(r:Ao),(vs++r)[j-off]?=r[j-off-vs.length]?:=λr=>JZ J
           rw[f,f,Nd,Nd,FF,if_pos J]
     · rw[if_neg hj,Mj]
       simp only[Bt,CF,Kw,PI]
       omega
   · have:i≠b:=λe=>ag MS
     exact setRow_other w b i _ this
section
variable {C:Bu} {l:AW} {Es:Am} {h:U} {G:Value→Am→U→Prop} {ty:TypeId} {pos:String} {aft:Cw} {gd:Cq} {dst:CK} {d:Tmp}
def Adx {α:Type}{enc:α→Ao}{t e:TypeId}{x:Operand}{b k m n c o:Nat}{xs:List α}{j:Addr}{T d:Ay}{Es':Am}(hT:AM t C.ts=some T)(al:T.desc=.slice e)(af:AM e C.ts=some d)
  (az:BX d.zero≠[]) (a0:(BX d.zero).length=d.size) (h1:Ly (BX d.zero)=true) (hx:AJ l x=some (.slice (some j) m o)) (am:j=⟨b,k*d.size,none⟩) (u:∀x,(enc x).length=d.size)
  (ap:k+m=n) (hm:0<m) (ax:xs.length=n)
  (ai:Ei Es (Ar e d.size (.slice (some (Av b)) n c) n (xs.flatMap enc)) (Ar e d.size (.slice (some (Av b)) k c) k ((xs.take k).flatMap enc)) Es') (g:G (.tuple #[]) Es' h) :
  Cd C l Es h ⟨dst,.call ⟨.builtin .clear,#[x],#[t]⟩,ty,pos,aft,gd⟩ G:=by
 intro a w hs hp
 subst am
 obtain⟨a2,aa,r⟩:=C.ok.und hT
 rw[al]at r
 rw[Ho r]at aa
 have s:=Hp u xs
 have av:(repl (BX d.zero) m).length=m*d.size:=by rw[Vf,←a0];simp
 have ar:∀v∈repl (BX d.zero) m,v.oneCell'=true:=by
  intro v hv
  rw[Vf,List.mem_flatten]at hv
  obtain⟨q,au,y⟩:=hv
  rw[(List.mem_replicate.1 au).2]at y
  exact En h1 v y
 have aq:k*d.size+m*d.size=xs.length*d.size:=by rw[ax,←ap,KZ]
 have key:∃ys,ys=(xs.flatMap enc).take (k*d.size)++repl (BX d.zero) m++(xs.flatMap enc).drop (k*d.size+(repl (BX d.zero) m).length):=⟨_,rfl⟩
 obtain⟨ys,ab⟩:=key
 obtain⟨p,q,ag,ah⟩:=ai
 have aj:Ei Es (Ar e d.size (.slice (some (Av b)) n c) n (xs.flatMap enc)) (Ar e d.size (.slice (some (Av b)) n c) n ys) (p++Ar e d.size (.slice (some (Av b)) n c) n ys::q):=⟨p,q,ag,rfl⟩
 obtain⟨i,an,ao,H⟩:=hp.rowSet aj ab (by rw[av,s,aq];exact BU _)
 have ak:Ei (p++Ar e d.size (.slice (some (Av b)) n c) n ys::q) (Ar e d.size (.slice (some (Av b)) n c) n ys) (Ar e d.size (.slice (some (Av b)) k c) k ((xs.take k).flatMap enc)) Es':=⟨p,q,rfl,ah⟩
 have ay:ys.take (k*d.size)=(xs.take k).flatMap enc:=by
  have h2:((xs.flatMap enc).take (k*d.size)).length=k*d.size:=by rw[CF,s];omega
  rw[ab,Ck,wX J,eB,Nat.min_self]
  have h3:xs.flatMap enc=(xs.take k).flatMap enc++(xs.drop k).flatMap enc:=by rw[←Ep,GW]
  rw[h3,eD (by rw[Hp u,CF];congr 1;omega)]
 have ad:=H.asn ak λD m ae=>by
  have:=fE (m:=k) J ae
  rwa [ay]at this
 have z:=run_storeCells_at (P:=C.P) b (k*d.size) e (repl (BX d.zero) m) 0 i w an (by simpa using ao) ar
 rw[Sg]at z
 refine .inl ⟨.tuple #[],_,Es',h,?_,ad,g⟩
 have aw:(Builtin.clear_ #[t] ty #[.slice (some ⟨b,k*d.size,none⟩) m o]).run C.P w=.ok (.tuple #[]) (w.setRow b (i.toList.take (k*d.size)++repl (BX d.zero) m++i.toList.drop (k*d.size+(repl (BX d.zero) m).length)).toArray):=by
  obtain⟨f,rfl⟩:∃f,m=f+1:=⟨m-1,J⟩
  have a1:(Builtin.zeroCells (BX d.zero).toArray (f+1)).toList=repl (BX d.zero) (f+1):=by
   have ac:=wC (BX d.zero) (f+1) az
   rw[←Vf]at ac
   show(Array.map _ _).toList=_
   exact congrArg Array.toList ac
  simp only[Builtin.clear_,BK,run_underlying aa,B',C.ok.run_zero af,Ni,a1,z,CV,eK,QN]
 simp only[execOp,resolve,invoke,builtin,BK,CV,B',QM,CW,Jv,hs.eval hx,aw]
end
section
variable {C:Bu} {ds:CL} {l:AW} {Es:Am} {h:U} {K:CB} {G:Value→Am→U→Prop} {ty:TypeId} {pos:String} {aft:Cw} {gd:Cq} {d:Tmp} {dst:CK}
end
def SR (x:OB) (n:Nat):OB:=(x <<<n)|||(x >>>(64-n))
def SK:Nat→Nat×Nat
 |0=>(1,0)
 |t+1=>((SK t).2,(2*(SK t).1+3*(SK t).2)%5)
def Vk:Nat→BD
 |0=>List.replicate 25 0
 |t+1=>(Vk t).set (5*(SK t).2+(SK t).1) ((t+1)*(t+2) / 2%64)
def XW:Nat→BD
 |0=>List.replicate 25 0
 |i+1=>(XW i).set i (5*((2*(i%5)+3*(i / 5))%5)+i / 5)
def Ajj (s:Nat):Nat:=if 2*s>255 then(2*s) ^^^369 else 2*s
def jC:Nat→Nat
 |0=>1
 |n+1=>Ajj (jC n)
def kY (i:Nat):Nat→OB
 |0=>0
 |j+1=>kY i j|||(BitVec.ofNat 64 (jC (7*i+j)%2) <<<(2^j-1))
def VC:Nat→Ht
 |0=>List.replicate 24 0
 |i+1=>(VC i).set i (kY i 7)
@[simp] theorem Ahw:∀t,(Vk t).length=25
 |0=>rfl
 |t+1=>by rw[Vk,Mi,Ahw t]
@[simp] theorem Awc:∀t,(XW t).length=25
 |0=>rfl
 |t+1=>by rw[XW,Mi,Awc t]
@[simp] theorem Aon:∀t,(VC t).length=24
 |0=>rfl
 |t+1=>by rw[VC,Mi,Aon t]
def Alh:BD:=XW 25
def Ahx:BD:=Vk 24
def Arg:Ht:=VC 24
def Tg (l:Ht):Nat→Ht
 |0=>List.replicate 5 0
 |n+1=>(Tg l n).set (n%5) ((Tg l n).getD (n%5) 0 ^^^l.getD n 0)
def Vo (l c:Ht):Nat→Ht
 |0=>List.replicate 25 0
 |n+1=>(Vo l c n).set (Alh.getD n 0) (SR (l.getD n 0 ^^^(c.getD ((n%5+4)%5) 0 ^^^SR (c.getD ((n%5+1)%5) 0) 1)) (Ahx.getD n 0))
def VL (b l:Ht):Nat→Ht
 |0=>l
 |n+1=>(VL b l n).set n (b.getD n 0 ^^^(~~~ (b.getD (n-n%5+(n%5+1)%5) 0)&&& b.getD (n-n%5+(n%5+2)%5) 0))
def XZ (l:Ht) (k:OB):List OB:=
 let m:=VL (Vo l (Tg l 25) 25) l 25
 m.set 0 (m.getD 0 0 ^^^k)
def SW (l:Ht):Nat→Ht
 |0=>l
 |i+1=>XZ (SW l i) (Arg.getD i 0)
@[simp] theorem Asd (l:Ht):∀n,(Tg l n).length=5
 |0=>rfl
 |n+1=>by rw[Tg,Mi,Asd l n]
@[simp] theorem Akj (l c:Ht):∀n,(Vo l c n).length=25
 |0=>rfl
 |n+1=>by rw[Vo,Mi,Akj l c n]
@[simp] theorem Atb (b l:Ht):∀n,(VL b l n).length=l.length
 |0=>rfl
 |n+1=>by rw[VL,Mi,Atb b l n]
@[simp] theorem Awh (l:Ht) (k:OB):(XZ l k).length=l.length:=by unfold XZ;simp
@[simp] theorem zZ (l:Ht):∀n,(SW l n).length=l.length
 |0=>rfl
 |n+1=>by rw[SW,Awh,zZ l n]
def Ro (l:Ht) (p:Bj):Nat→Ht
 |0=>l
 |i+1=>(Ro l p i).set (i / 8) ((Ro l p i).getD (i / 8) 0 ^^^(BitVec.ofNat 64 (p.getD i 0).toNat <<<(8*(i%8))))
@[simp] theorem uL (l:Ht) (p:Bj):∀n,(Ro l p n).length=l.length
 |0=>rfl
 |n+1=>by rw[Ro,Mi,uL l p n]
def Ti (p:Bj):Nat→Ht
 |0=>List.replicate 25 0
 |n+1=>SW (Ro (Ti p n) (p.drop (136*n)) 136) 24
@[simp] theorem Atx (p:Bj):∀n,(Ti p n).length=25
 |0=>rfl
 |n+1=>by rw[Ti,zZ,uL,Atx p n]
def VH (n:Nat):List UInt8:=
 let z:=(List.replicate (136-n%136) (0:UInt8)).set 0 6
 z.set (136-n%136-1) (z.getD (136-n%136-1) 0 ^^^128)
@[simp] theorem A1l (n:Nat):(VH n).length=136-n%136:=by unfold VH;simp
def SX (l:Ht):Nat→Bj
 |0=>List.replicate 32 0
 |i+1=>(SX l i).set i (UInt8.ofNat ((l.getD (i / 8) 0) >>>(8*(i%8))).toNat)
@[simp] theorem Alm (l:Ht):∀n,(SX l n).length=32
 |0=>rfl
 |n+1=>by rw[SX,Mi,Alm l n]
def Ze (b:Bj):Bj:=SX (Ti (b++VH b.length) ((b.length+(136-b.length%136)) / 136)) 32
def Arf (tag b:Bj):Bj:=Ze (Ze tag++b)
section
variable {C:Bu} {l:AW} {h:U} {ty:TypeId} {pos:String} {aft:Cw} {gd:Cq} {dst:CK} {t ty':TypeId} {x y:Operand} {T:Ay}
def Aw4 {p q:Int}(hT:AM t C.ts=some T)(hx:AJ l x=some (O p))(hy:AJ l y=some (O q))(hp:0≤p∧p≤9223372036854775807)(hq:0<q):DN C l [] h ⟨dst,.binOp .quo t x y ty',ty,pos,aft,gd⟩ (O (p / q)):=
 UB hT hx hy (by
  simp only[JK,if_true]
  have h1:0≤p / q:=Int.ediv_nonneg hp.1 J
  have h2:p / q≤p:=Int.ediv_le_self _ hp.1
  rw[if_neg J,Az0 hp.1,NO _ ⟨J,J⟩])
def wH {p q:Int}(hT:AM t C.ts=some T)(hx:AJ l x=some (O p))(hy:AJ l y=some (O q))(a : -9223372036854775808≤p*q∧p*q≤9223372036854775807):DN C l [] h ⟨dst,.binOp .mul t x y ty',ty,pos,aft,gd⟩ (O (p*q)):=
 UB hT hx hy (by simp[JK,NO _ a])
end
section
variable {C:Bu} {l:AW} {h:U} {ty:TypeId} {pos:String} {aft:Cw} {gd:Cq} {dst:CK} {s t:TypeId} {x:Operand} {S T:Ay}
def Aw9 {k a:IntKind}{p:Int}(hT:AM t C.ts=some T)(c:T.desc=.int a)(b:AM s C.ts=some S)(hx:AJ l x=some (.int k p))(d:a.wrap p=p):DN C l [] h ⟨dst,.convert s t x,ty,pos,aft,gd⟩ (.int a p):=
 wE (by simp only[Kg,hx,hT,b,c,XX,d])
end
def fK {h:U}{a:Addr}{vs:Ao}(hc:Au h a vs){k:Nat}{v:Value}(hv:vs[k]?=some v):Au h (a.add (k*1)) [v]:=λj u hj=>by
 have b:j=0:=by
  have:=(Kx.1 hj).1
  simpa using this
 subst b
 have c:u=v:=by simpa using hj.symm
 subst c
 have:=hc k u hv
 rw[Mp,Gy,Sg];exact this
section
variable {C:Bu} {ds:CL} {l:AW} {Es:Am} {h:U} {K:CB} {G:Value→Am→U→Prop} {ty:TypeId} {pos:String} {aft:Cw} {gd:Cq} {dst:CK} {d:Tmp}
end
section
variable {C:Bu} {l:AW} {h:U} {ty:TypeId} {pos:String} {aft:Cw} {gd:Cq} {dst:CK} {t ty':TypeId} {x y:Operand}
end
open Go Go.Sort Go.Proofs
def YK {α:Type}[Inhabited α]{P:Program}{f gf:FuncId}{cb:Dx}(enc:α→Ao)(k:Nat)(t:∀x,(enc x).length=k)(bw:0<k)(r:α→α→Int)(h:U)
  (a3:∀(blk off l:Nat) (d:Array α) (w:World),CmpLays P gf cb enc k r blk off d.size w→HoldsK enc k w blk off d→blk<w.heap.size→d.size<4611686018427387904→
    Calls P f #[.slice (some ⟨blk,off,none⟩) d.size l,.func (.func gf) #[] cb] w λe s=>e=.returned (.tuple #[])∧∃c n os,PermIn 0 d.size d c∧SortedIn (ltOf r) 0 d.size c∧s=sortWorldK enc k w blk off n c os)
  (a6:∀(p:At) (l:Nat) (w:World),Calls P f #[.slice p 0 l,.func (.func gf) #[] cb] w λe s=>e=.returned (.tuple #[])∧s=w)
  (bb:∀x y,Az P gf (#[.agg (enc x).toArray,.agg (enc y).toArray]++cb) h λu _=>u=O (r x y))
  (e:TypeId) (v:Value) (xs:List α) (n:Nat) (hn:n≤1000000000) (hx:xs.length=n) :
  AP P f #[v,.func (.func gf) #[] cb] [Ar e k v n (xs.flatMap enc)] h λu Es _=>u=.tuple #[]∧∃ys:List α,ys.Perm xs∧(ys.Pairwise λa b=>ltOf r b a=false)∧Es=[Ar e k v n (ys.flatMap enc)]:=by
 subst hx
 intro w X0 ai ⟨ae,ar,bk,ac⟩
 have af:Bq w X0 h [Ar e k v xs.length (xs.flatMap enc)] h w:=⟨rfl,rfl,rfl,BU _,BU _,λ_ _ _=>rfl,ai,V.refl _,λi o e=>.inl e,ae,ar,bk,λb h1=>⟨(ac b h1).1,.inr (ac b h1).2.1,(ac b h1).2.2⟩⟩
 have bm:∀D,(Ar e k v xs.length (xs.flatMap enc)).holds D (mem w)→(∃aa,ae=[aa]∧(Ar e k v xs.length (xs.flatMap enc)).holds aa (mem w)):=by
  intro D _
  match ae,ar with
  |[aa],⟨h1,_⟩=>exact⟨aa,rfl,h1⟩
 obtain⟨ay,a1⟩:=af.get (La _)
 obtain⟨D,a5,a0⟩:=bm ay a1
 have be:∀b∈D,h b=none:=λb a9=>(ac b (by rw[a5];simp[a9])).1
 obtain⟨bx,hr⟩:=a0
 rcases hr with⟨rfl,h0,al⟩|⟨g,l,ab,rfl,al,hm,am,bj,bd,bp⟩
 · have hx:xs=[]:=Fu h0
   subst hx
   refine(a6 none 0 w).mono ?_
   rintro ak s ⟨rfl,rfl⟩
   exact⟨_,rfl,_,h,⟨rfl,[],.refl _,.nil,rfl⟩,af⟩
 · have ad:w.heap[g]?=some (.cells ab e (0,0)):=hm
   have bf:h g=none:=be g (by rw[al];simp)
   have an:=Hp t xs
   have a':∀j,j<xs.length*k→ab[j]?=(xs.flatMap enc)[j]?:=by
    intro j hj
    rw[←bp,FF,if_pos hj,Lk]
   have ao:g<w.heap.size:=(JE.1 ad).1
   have bn:∀(m:Nat) (q:Array α) (os:Array Obj) (i:Nat),i<w.heap.size→i≠g→(sortWorldK enc k w g 0 m q os).heap[i]?=w.heap[i]?:=by
    intro m q os i hi z
    unfold sortWorldK putRowK
    show(w.heap.modify g _++os)[i]?=_
    rw[Rb Jq,Is,if_neg (λe=>z e.symm)]
   have bc:CmpLays P gf cb enc k r g 0 xs.toArray.size w:=λm os q bv x y=>by
    have bh:V h (mem (sortWorldK enc k w g 0 m q os)):=λi o hi=>by
     have h1:=ai i o hi
     have z:i≠g:=λe=>by subst e;rw[bf]at hi;cases hi
     have bi:i<w.heap.size:=V.lt ai hi
     show(sortWorldK enc k w g 0 m q os).heap[i]?=some o
     rw[bn m q os i bi z];exact h1
    refine(bb x y (sortWorldK enc k w g 0 m q os) [] bh ⟨[],trivial,An,An⟩).mono ?_
    rintro ak s ⟨v,rfl,Es,h',⟨rfl,rfl⟩,H⟩
    exact⟨rfl,H.grown⟩
   refine(a3 g 0 l xs.toArray w bc ?_ ao FC).mono ?_
   · intro j hj
     rw[RE t]at hj
     have ap:j<xs.length*k:=by rw[←an];simpa using hj
     refine⟨?_,?_⟩
     · rw[RE t]
       have aq:j<(xs.flatMap enc).length:=by rw[an];exact ap
       simp only[World.cell?,ad,Dy]
       have:=a' j ap
       rw[Bw aq]at this
       rw[getElem!_pos (xs.flatMap enc).toArray j (by simpa using aq)]
       simpa using this
     · simp[World.frozen?,ad]
   rintro ak s ⟨rfl,c,m,os,a7,a8,rfl⟩
   obtain⟨av,_,aj⟩:=a7
   have e1:c.extract 0 xs.toArray.size=c:=by rw[←av];exact hY
   rw[e1,hY]at aj
   have hsl:c.toList.length=xs.length:=by simpa using av
   obtain⟨ys,ax⟩:∃ys,ys=c.toList:=⟨_,rfl⟩
   have aw:c=ys.toArray:=by rw[ax]
   rw[←ax]at hsl aj
   have bo:ys.Pairwise λa b=>ltOf r b a=false:=by
    rw[Uv]
    intro i j hi hj bg
    have:=a8 i j (GT _) bg (by rw[hsl]at hj;simpa using hj)
    rw[aw]at this
    rwa [getElem!_pos ys.toArray j OU,getElem!_pos ys.toArray i Jq,Yj,Yj]at this
   refine⟨_,rfl,_,h,⟨rfl,ys,by simpa using aj,bo,rfl⟩,?_⟩
   subst aw
   have ag:=Hp t ys
   have au:∀i,i<w.heap.size→(sortWorldK enc k w g 0 m ys.toArray os).heap[i]?=(w.heap.modify g (Sort.onCells (Sort.putCells id 0 (ys.flatMap enc).toArray)))[i]?:=by
    intro i hi
    unfold sortWorldK putRowK
    rw[RE t]
    show(w.heap.modify g _++os)[i]?=_
    rw[Rb Jq]
   refine af.repl .here rfl rfl rfl (by simp[sortWorldK,grow,putRowK,putRow,mapBlock,Sort.ahead]) (hdr:=by show w.drawn≤w.drawn+m;omega) λaz a2 bu bt=>?_
   have a4:az=[g]:=by
    rcases a2.2 with⟨e1,_⟩|⟨bs,bq,br,e1,e2,_⟩
    · cases e1
    · injection e1 with e1 _;injection e1 with e1;injection e1 with e1;rw[e2,e1]
   subst a4
   refine⟨[g],⟨by rw[ag,hsl],.inr ⟨g,l,Sort.putCells id 0 (ys.flatMap enc).toArray ab,rfl,rfl,?_,am,bj,by simp[Sort.putCells,bd],?_⟩⟩,An,?_,?_⟩
   · show(sortWorldK enc k w g 0 m _ os).heap[g]?=_
     rw[au g ao,Is,if_pos rfl,ad]
     rfl
   · apply K'
     intro j
     rw[FF]
     by_cases hj:j<xs.length*k
     · rw[if_pos hj,Lk]
       have ah:j<(ys.flatMap enc).length:=by rw[ag,hsl];exact hj
       have ba:j<ab.size:=by
        have:xs.length*k≤l*k:=Pe _ am
        omega
       simp only[Sort.putCells,Vc,OC ba,Hg,GT,true_and,Dy,Nb,ah,if_true,JM,Bw ah]
       rw[getElem!_pos _ j (by simpa using ah)]
       simp
     · rw[if_neg hj,Mj (by rw[ag,hsl];omega)]
   · intro i hi
     simp only[Bk]at hi
     subst hi
     exact⟨.inl An,by simp[sortWorldK,grow,putRowK,putRow,mapBlock,Sort.ahead];try omega⟩
   · intro i hi bl
     have z:g≠i:=λe=>bl MS
     show(sortWorldK enc k w g 0 m _ os).heap[i]?=_
     rw[au i hi,Is,if_neg z]
theorem Auv {P:Program}{ts:ER}(hT:FZ P ts){k e m:Nat}{T b:Ay}{q:IntKind}(z:AM k ts=some T)(y:T.desc=.array m e)(c:AM e ts=some b)(u:b.desc=.int q)(x:b.size=1)(t:b.agg=false){xs:Ao}(af:xs.length=m)(hc:∀v∈xs,∃n,v=.int q n)(w:World)(d:Bool) :
  (Instr.checkKey d 10000 k (.agg xs.toArray)).run P w=.ok () w:=by
 obtain⟨D,g,p⟩:=hT.und z
 rw[y]at p
 rw[Ou p]at g
 obtain⟨ae,h,s⟩:=hT.und c
 rw[u]at s
 rw[Nk s]at h
 show(Instr.checkKey d (9999+1) k (.agg xs.toArray)).run P w=_
 unfold Instr.checkKey
 simp only[BK,run_underlying g,B']
 simp only[Std.Legacy.Range.forIn_eq_forIn_range',Std.Legacy.Range.size,JM,Nat.add_one_sub_one,Nat.div_one]
 have f:∀i∈List.range' 0 m,i<m:=by
  intro i hi
  rw[List.mem_range']at hi
  obtain⟨j,h1,h2⟩:=hi
  omega
 generalize List.range' 0 m=L at f ⊢
 induction L with
 |nil=>simp
 |cons i r aa=>
   have hi:=f i DX
   obtain⟨n,hn⟩:=hc (xs[i]'J) (Po _)
   have hp:EC (i*b.size) b.size b.agg xs=some (.int q n):=by
    unfold EC
    rw[t,x,Gy]
    simp only
    have:∀(o:Nat) (cs:Ao),MC o cs=cs[o]?:=by
     intro o
     induction o with
     |zero=>intro cs;cases cs<;>rfl
     |succ o ab=>intro cs;cases cs with
       |nil=>rfl
       |cons a l=>rw[Sp];exact ab l
    rw[this,Bw J,hn]
   have ac:=Nl hp w (hT.run_size c w) (hT.run_agg c w)
   have ad:=wT (P:=P) (w:=w) h (show MapKept.IsKey (.int q) (.int q n)from rfl) d 9998
   simp only[xK,BK,hT.run_size c,ac,ad,CV,B']
   exact aa λj hj=>f j (Ey _ hj)
def Gw.array {κ:Type}[DecidableEq κ]{P:Program}{ts:ER}(hT:FZ P ts){k m e:Nat}{T c:Ay}{q:IntKind}(o:AM k ts=some T)(j:T.desc=.array m e)(t:AM e ts=some c)(z:c.desc=.int q)(aa:c.size=1)(u:c.agg=false)(f:κ→Ao)(ab:∀x y,f x=f y→x=y)
  (ac:∀x,(f x).length=m) (heq:∀x y,IK ts 10 k (.agg (f x).toArray) (.agg (f y).toArray)=some (decide (x=y))) (hs:(Kr ts 10 k).all (λi=> !P.stoodInHeld i)=true) (b:∀x,∀v∈f x,∃n,v=.int q n) :
  Gw P k (λx=>.agg (f x).toArray) where
 check:=λw s x=>Auv hT o j t z aa u (ac x) (b x) w s
 inj:=λx y e=>by injection e with e;exact ab x y (by simpa using congrArg Array.toList e)
 stays:=λw x=>by
  have hs:Instr.sameBits 10000 (.agg (f x).toArray) (.agg (f x).toArray)=true:=by
   show Instr.sameBits (9999+1) (.agg (f x).toArray) (.agg (f x).toArray)=true
   simp only[Instr.sameBits,beq_self_eq_true,Adn,Kz]
   intro p hp
   obtain⟨i,hi,e⟩:=Yk hp
   rw[List.getElem_zip]at e
   rw[←e]
   simp only
   obtain⟨n,e2⟩:=b x ((f x).toArray.toList[i]'Jq) (Po _)
   rw[e2]
   simp[Instr.sameBits]
  simp[Instr.keyThatStays,hs]
 find:=λw x ev a l h=>by
  obtain⟨D,g,b⟩:=hT.und o
  rw[j]at b
  rw[Ou b]at g
  have r:∀(a:List MapEntry) (l:List (κ×Nat)) (i:Nat),a.map (λe=>(e.key,e.val))=l.map (λp=>(Value.agg (f p.1).toArray,ev p.2))→
   (Instr.findAsking k (.agg (f x).toArray) a i).run P w=.ok ((Gq x l i).map λp=>(p.1,ev p.2)) w:=by
   intro a
   induction a with
   |nil=>intro l i h;cases l with
     |nil=>simp[Instr.findAsking,Gq]
     |cons p l=>cases h
   |cons e a ad=>
     intro l i h
     cases l with
     |nil=>cases h
     |cons p l=>
       simp only[CW,Kb,Mb]at h
       have q:=XK hT w (heq x p.1) (λi hi=>by have:=Kz.1 hs i hi;simpa using this) 9990
       have ae:(Op.equal k (.agg (f x).toArray) e.key).run P w=.ok (decide (x=p.1)) w:=by rw[h.1.1];exact q
       unfold Instr.findAsking
       simp only[BK,ae,B']
       by_cases hx:x=p.1
       · simp[Gq,hx,h.1.2]
       · simp only[hx,decide_false,Ir,if_false,Gq,KX hx]
         exact ad l (i+1) h.2
  unfold Instr.findKey
  simp only[BK,run_underlying g,B']
  cases a with
  |nil=>cases l with
    |nil=>simp[Instr.findNow,Gq]
    |cons p l=>cases h
  |cons d a=>
    have hn:Instr.findNow (.array m e) (.agg (f x).toArray) (d::a) 0=none:=by simp[Instr.findNow,Instr.sameNow]
    rw[hn]
    exact r (d::a) l 0 h
end Go.Hw