import Derived.OpenShut
import Derived.ProofKit
import Derived.Deep.Slices
import Derived.Test.YtbmffdagfjepgaaGreatDoorHE
import Derived.Test.YtbmffdagfjepgaaGreatDoorRows
import Derived.Test.YtbmffdagfjepgaaGreatDoorTie
import Derived.Test.YtbmffdagfjepgaaGreatDoorCards
import Derived.LaidMore
import Derived.SevenTiedAt
import Derived.Test.YtbmffdagfjepgaaGreatDoorBA
set_option linter.all false
namespace Go.Hw
open Go Go.ChangeShapes Go.WideShapes Go.RowKit
def ET (P:Program) (w:World) (t:TypeId) (cs:Ao):Prop:=
 ∃(H:Type) (enc:TypeId×Value→H) (fuel:Nat) (x:DataW H×List MemPlace),DataW.trod enc P w 0 (λ_=>true) true fuel t cs=some x
section
variable {P:Program} {w:World} {t:TypeId} {cs:Ao}
def nW {k:IntKind}(a:P.underlying t=some (.int k))(h:ET P w t cs):∃n,cs=[.int k n]∧(Lit.int k n).wf=true:=by obtain⟨H,enc,f,x,h⟩:=h;obtain⟨n,h1,_,h2⟩:=DataW.trod_int a h;exact⟨n,h1,h2⟩
def vW {cs:Ao}{o:Nat}{v:Value}(h:(cs.drop o).take 1=[v]):cs[o]?=some v:=by have:=congrArg (·[0]?) h;simpa[FF,Nd]using this
def Av7 (a:P.underlying t=some .bool)(h:ET P w t cs):∃b,cs=[.bool b]:=by obtain⟨H,enc,f,x,h⟩:=h;obtain⟨n,h1,_⟩:=DataW.trod_bool a h;exact⟨n,h1⟩
def Av4 (a:P.underlying t=some .string)(h:ET P w t cs):∃s:ByteArray,cs=[.string s]∧s.size≤maxLen:=by obtain⟨H,enc,f,x,h⟩:=h;obtain⟨n,h1,_,h2⟩:=DataW.trod_string a h;exact⟨n,h1,h2⟩
def KE {fs:Array Field}(c:P.underlying t=some (.struct fs))(h:ET P w t cs) :
  cs.length=P.cellsOf t∧∀(i:Nat) (f:Field),fs[i]?=some f→ET P w f.type ((cs.drop f.offset).take (P.cellsOf f.type)):=by
 obtain⟨H,enc,d,x,h⟩:=h
 obtain⟨xs,n,_,_,a,hx,hf⟩:=DataW.trod_struct c h
 refine⟨a,λi f hi=>?_⟩
 have b:i<xs.length:=by
  have:=(JE.1 hi).1
  omega
 exact⟨H,enc,n,xs[i],by rw[hf i f hi,Bw b]⟩
def Av8 {n:Nat}{e:TypeId}(c:P.underlying t=some (.array n e))(h:ET P w t cs) :
  cs.length=P.cellsOf t∧∀i,i<n→ET P w e ((cs.drop (i*P.cellsOf e)).take (P.cellsOf e)):=by
 obtain⟨H,enc,d,x,h⟩:=h
 obtain⟨xs,m,_,_,a,hx,hf⟩:=DataW.trod_array c h
 refine⟨a,λi hi=>?_⟩
 have b:i<xs.length:=by omega
 exact⟨H,enc,m,xs[i],by rw[hf i hi,Bw b]⟩
def Aup {base n:Nat}{a:Addr}(h:w.cells? base a n=some cs):Au (mem w) a cs:=λj v e=>by
 obtain⟨_,b,hc⟩:=World.cells?_some h
 rw[←Ps,hc j (by have:=(Kx.1 e).1;omega)];exact e
def Av6 {e:TypeId}(k:P.underlying t=some (.slice e))(h:ET P w t cs) :
  cs=[.slice none 0 0]∨∃(a:Addr) (n c:Nat),cs=[.slice (some a) n c]∧n≤c∧c≤maxLen∧
   ∀i,i<n→∃us,Au (mem w) (a.add (i*P.cellsOf e)) us∧ET P w e us:=by
 obtain⟨H,enc,o,x,h⟩:=h
 rcases Go.Deep.open_slice k h with⟨h1,_⟩|⟨a,len,b,m,n,D,l,h1,_,h2,h3,d,_,f⟩
 · exact .inl h1
 · refine .inr ⟨a,len,b,h1,h2,h3,λi hi=>?_⟩
   obtain⟨us,g,j⟩:=f i (by rw[d];split<;>omega)
   exact⟨us,Aup g,H,enc,n,_,j⟩
def fF {α:Type}{enc:α→Ao}{sz:Nat}{e:TypeId}(m:P.underlying t=some (.slice e))(o:P.cellsOf e=sz)(g:∀us,ET P w e us→∃x,us=enc x)(h:ET P w t cs) :
  ∃A n c xs,cs=[.slice A n c]∧n≤c∧c≤maxLen∧Ai enc sz (mem w) A n xs:=by
 rcases Av6 m h with h1|⟨a,n,c,h1,h2,h3,d⟩
 · exact⟨none,0,0,[],h1,BU _,GT _,Ai.nil⟩
 · rcases Of n with h0|h0
   · subst h0
     exact⟨some a,0,c,[],h1,h2,h3,Ai.nil⟩
   · obtain⟨p,_,b⟩:=d 0 h0
     obtain⟨q,_⟩:=g p b
     have hx:∀i,∃x,i<n→Au (mem w) (a.add (i*sz)) (enc x):=λi=>by
      by_cases hi:i<n
      · obtain⟨us,l,b⟩:=d i hi
        obtain⟨x,rfl⟩:=g us b
        exact⟨x,λ_=>o▸l⟩
      · exact⟨q,λh=>absurd h hi⟩
     obtain⟨f,hf⟩:=A05 hx
     refine⟨some a,n,c,(List.range n).map f,h1,h2,h3,An,λ_=>⟨a,rfl,λj x hj=>?_⟩⟩
     obtain⟨k,rfl⟩:=Kx.1 hj
     simp at k
     simpa using hf j k
end
def nV {P:Program}{w:World}{t:TypeId}{H:Type}{enc:TypeId×Value→H}{v:Value}{d:DataW H}{ps:List MemPlace}(h:DataW.Trod enc P w 0 (λ_=>true) true t v d ps):ET P w t v.cells.toList:=
 let⟨n,h⟩:=h
 ⟨H,enc,n,_,h⟩
theorem nQ {H:Type}{enc:TypeId×Value→H}{P:Program}(b:laidOutB P=true){W a:World}{e:Nat→Bool}:∀{ts:List TypeId} {vs:Ao} {ds:List (DataW H)} {ps:List MemPlace},
  (∀t∈ts,P.readableRec t=true∧t<P.types.size)→DataW.TrodAll enc P W 0 (λ_=>true) true ts vs ds ps→(∀p∈ps,W.sameAt a p)→(∀p∈ps,e p.block=true)→DataW.TrodAll enc P a 0 e true ts vs ds ps
 |[],_,_,_,_,h,_,_=>by
   obtain⟨rfl,rfl,rfl⟩:=trodAll_nil h
   exact trodAll_mk0
 |t::ts,_,_,_,c,h,hs,hp=>by
   obtain⟨v,vs,d,ds,p,q,rfl,rfl,rfl,h1,h2⟩:=trodAll_cons h
   have:=c t An
   exact⟨p,q,WideElems.Trod_stays b this.1 this.2 h1 (λx hx=>hs x L') (λx hx=>hp x L'),
    nQ b (λu f=>c u (by simp[f])) h2 (λx hx=>hs x L') (λx hx=>hp x L'),rfl⟩
def Bq.below {W w:World}{h0 h:U}{Es:Am}(H:Bq W [] h0 Es h w):Below W.heap.size W w:=
 ⟨H.os,H.tape,H.output,H.size,λk a=>H.old k a An⟩
def Amw {P:Program}{ts:List TypeId}(h:ts.all (λt=>P.readableRec t&&decide (t<P.types.size))=true):∀t∈ts,P.readableRec t=true∧t<P.types.size:=by simpa using h
def Anq {H:Type}{enc:TypeId×Value→H}{P:Program}{f:FuncId}{fn:Func}{s:ChangeSpec}{d Oy n:Bool}{W:World}{args:Dx}{ds gs:List (DataW H)}{j:List MemPlace}{tb:TypeId}
  (r:laidOutB P=true) (hr:fn.params.toList.all (λt=>P.readableRec t&&decide (t<P.types.size))=true) (u:fn.resultTypes=#[tb]) (w:P.underlying tb=some .bool) (hvs:s.vars=[])
  (b:s.fn H (ds++gs) = {results:=[.lit (.bool true)],args:=ds})
  (a:DataW.Whole enc P fn.params.toList s.vars d W args.toList ds gs j) (m:Aq P f args (mem W) (.bool true)) :
  Calls P f args W λe c=>∃v,e=.returned v∧s.post enc P fn d Oy n false W args v c:=by
 obtain⟨p,q,k,hG,rfl,y,z⟩:=id a
 rw[hvs]at hG
 obtain⟨rfl,rfl⟩:=trodVars_none hG
 refine(m W [] (V.refl _) ⟨[],trivial,An,An⟩).mono λe c ⟨v,o,Es,h',⟨hv,_⟩,l⟩=>?_
 subst hv
 have g:=l.below
 have i:∀x∈p,x.block<W.heap.size:=λx hx=>by simpa using a.lt x L'
 refine⟨_,o,ds,[],p++[],[],p,[],a,?_,?_,?_,g.frame _,λh=>by cases h⟩
 · rw[b,u]
   exact trodAll_mk1 (shut_bool w true)
 · rw[b]
   exact nQ r (Amw hr) k (λx hx=>g.same (i x hx)) (λx hx=>by simpa using i x hx)
 · rw[b,hvs]
   exact F
end Go.Hw
set_option maxRecDepth 100000
namespace Go.Hw
open Go Go.ChangeShapes Go.WideShapes Go.RowKit
open Go.Proofs.Tryz (prog)
open Go.Proofs.YtbmffdagfjepgaaGreatDoor (Rows.none)
def Dh {us p:Ao}{o k:Nat}(h:(us.drop o).take k=p):us.drop o=p++us.drop (o+k):=by rw[←h,←List.drop_drop,GW]
def Aif (s:ByteArray):∃l,s=Cj l:=⟨s.data.toList,by unfold Cj;rfl⟩
def Av5 {P:Program}{w:World}{t:TypeId}{cs:Ao}{α:Type}{enc:α→Ao}{sz:Nat}{e:TypeId}{S:α→Prop}(i:P.underlying t=some (.slice e))(l:P.cellsOf e=sz)(f:∀us,ET P w e us→∃x,us=enc x∧S x)(h:ET P w t cs) :
  ∃A n c xs,cs=[.slice A n c]∧n≤c∧c≤maxLen∧Ai enc sz (mem w) A n xs∧∀x∈xs,S x:=by
 obtain⟨A,n,c,xs,h1,h2,h3,b⟩:=fF (enc:=λx :{x:α // S x}=>enc x.1) i l (λus k=>by obtain⟨x,e,hs⟩:=f us k;exact⟨⟨x,hs⟩,e⟩) h
 refine⟨A,n,c,xs.map (·.1),h1,h2,h3,⟨by rw[Dc];exact b.len,λg=>?_⟩,λx hx=>?_⟩
 · obtain⟨a,d,hc⟩:=b.2 g
   refine⟨a,d,λj x hj=>?_⟩
   rw[FG]at hj
   cases hq:xs[j]? with
   |none=>rw[hq]at hj;cases hj
   |some y=>rw[hq]at hj;injection hj with hj;rw[←hj];exact hc j y hq
 · obtain⟨y,_,rfl⟩:=CZ.1 hx
   exact y.2
def CR {P:Program}{w:World}{us:Ao}{t:TypeId}{o k:Nat}(a:P.cellsOf t=k)(h:ET P w t ((us.drop o).take (P.cellsOf t))):ET P w t ((us.drop o).take k):=a▸h
def EK:prog.cellsOf 3=1:=by kernel_rfl
def Zr:prog.cellsOf 4=1:=by kernel_rfl
def Aop:prog.cellsOf 5=1:=by kernel_rfl
def Aoo:prog.cellsOf 9=1:=by kernel_rfl
def Tb:prog.cellsOf 46=1:=by kernel_rfl
def kV:prog.cellsOf 55=1:=by kernel_rfl
def kW:prog.cellsOf 186=2:=by kernel_rfl
def VE:prog.cellsOf 36=4:=by kernel_rfl
def Zq:prog.cellsOf 52=4:=by kernel_rfl
def kR:prog.cellsOf 54=5:=by kernel_rfl
def kM:prog.cellsOf 57=13:=by kernel_rfl
def kQ:prog.cellsOf 59=2:=by kernel_rfl
def kN:prog.cellsOf 61=17:=by kernel_rfl
def kX:prog.cellsOf 63=3:=by kernel_rfl
def kO:prog.cellsOf 65=2:=by kernel_rfl
def kP:prog.cellsOf 67=3:=by kernel_rfl
def kT:prog.cellsOf 69=32:=by kernel_rfl
def kS:prog.cellsOf 71=82:=by kernel_rfl
section
variable {w:World} {us:Ao}
def EJ (h:ET prog w 3 us):∃n,us=[O n]:=by obtain⟨n,e,_⟩:=nW Go.Proofs.Tryz.underlying3 h;exact⟨n,e⟩
def Zi (h:ET prog w 4 us):∃b,us=[.bool b]:=Av7 Go.Proofs.Tryz.underlying4 h
def Akt (h:ET prog w 9 us):∃l,us=[.string (Cj l)]∧l.length≤9223372036854775807:=by obtain⟨s,e,a⟩:=Av4 Go.Proofs.Tryz.underlying9 h;obtain⟨l,rfl⟩:=Aif s;unfold maxLen at a;exact⟨l,e,by rw[RJ]at a;omega⟩
def lL {a b c d:Ao}(f:us.length=4)(h0:(us.drop 0).take 1=a)(h1:(us.drop 1).take 1=b)(h2:(us.drop 2).take 1=c)(h3:(us.drop 3).take 1=d):us=a++(b++(c++(d++[]))):=by have e:us.drop 4=[]:=Ka J;have:=Dh h0;rw[Dh h1,Dh h2,Dh h3,e]at this;simpa using this
def Zh (h:ET prog w 36 us):∃g,us=CG g:=by obtain⟨e,hf⟩:=KE Go.Proofs.Tryz.underlying36 h;rw[VE]at e;have j:=CR (t:=3) (o:=0) EK (hf 0 _ rfl);have k:=CR (t:=3) (o:=1) EK (hf 1 _ rfl);have l:=CR (t:=3) (o:=2) EK (hf 2 _ rfl);have m:=CR (t:=3) (o:=3) EK (hf 3 _ rfl);obtain⟨a,f⟩:=EJ j;obtain⟨b,e1⟩:=EJ k;obtain⟨c,e2⟩:=EJ l;obtain⟨d,i⟩:=EJ m;exact⟨⟨a,b,c,d⟩,lL e f e1 e2 i⟩
def Ak3 (h:ET prog w 186 us):∃c,us=Fk c:=by obtain⟨i,hf⟩:=KE Go.Proofs.Tryz.underlying186 h;rw[kW]at i;have f:=CR (t:=3) (o:=0) EK (hf 0 _ rfl);have g:=CR (t:=4) (o:=1) Zr (hf 1 _ rfl);obtain⟨a,d⟩:=EJ f;obtain⟨b,e1⟩:=Zi g;refine⟨⟨a,b⟩,?_⟩;have e:us.drop 2=[]:=Ka J;have:=Dh d;rw[Dh e1,e]at this;rw[J']at this;rw[this];rfl
def UL (h:ET prog w 46 us):∃A n c xs,us=[.slice A n c]∧n≤c∧Ai AQ 1 (mem w) A n xs∧xs.length≤9223372036854775807:=by obtain⟨A,n,c,xs,e,h1,h3,h2⟩:=fF (enc:=AQ) Go.Proofs.Tryz.underlying46 EK (λ_ a=>EJ a) h;unfold maxLen at h3;have:=h2.len;exact⟨A,n,c,xs,e,h1,h2,J⟩
def jI (h:ET prog w 55 us):∃A n c xs,us=[.slice A n c]∧Ai Fk 2 (mem w) A n xs∧xs.length≤9223372036854775807:=by obtain⟨A,n,c,xs,e,h1,h3,h2⟩:=fF (enc:=Fk) Go.Proofs.Tryz.underlying55 kW (λ_ a=>Ak3 a) h;unfold maxLen at h3;have:=h2.len;exact⟨A,n,c,xs,e,h2,J⟩
def Ak2 (h:ET prog w 52 us):∃a b A n c xs r,us=[O a,O b,.slice A n c,.string (Cj r)]∧Ai AQ 1 (mem w) A n xs∧xs.length≤9223372036854775807∧r.length≤9223372036854775807:=by obtain⟨d,hf⟩:=KE Go.Proofs.Tryz.underlying52 h;rw[Zq]at d;have g:=CR (t:=3) (o:=0) EK (hf 0 _ rfl);have i:=CR (t:=3) (o:=1) EK (hf 1 _ rfl);have j:=CR (t:=46) (o:=2) Tb (hf 2 _ rfl);have k:=CR (t:=9) (o:=3) Aoo (hf 3 _ rfl);obtain⟨a,e⟩:=EJ g;obtain⟨b,e1⟩:=EJ i;obtain⟨A,n,c,xs,e2,_,hs,l⟩:=UL j;obtain⟨r,f,hr⟩:=Akt k;exact⟨a,b,A,n,c,xs,r,lL d e e1 e2 f,hs,l,hr⟩
def Akz (h:ET prog w 54 us):∃g v,us=CG g++[O v]:=by obtain⟨d,hf⟩:=KE Go.Proofs.Tryz.underlying54 h;rw[kR]at d;have b:=CR (t:=36) (o:=0) VE (hf 0 _ rfl);have c:=CR (t:=3) (o:=4) EK (hf 1 _ rfl);obtain⟨g,a⟩:=Zh b;obtain⟨v,e1⟩:=EJ c;refine⟨g,v,?_⟩;have e:us.drop 5=[]:=Ka J;have:=Dh a;rw[Dh e1,e]at this;rw[J']at this;rw[this];rfl
def Aku (h:ET prog w 57 us):∃(s:AA) (x:DV),us=LZ s x∧Ef (mem w) s x∧Gg x:=by obtain⟨am,hf⟩:=KE Go.Proofs.Tryz.underlying57 h;rw[kM]at am;have y:=CR (t:=36) (o:=0) VE (hf 0 _ rfl);have z:=CR (t:=3) (o:=4) EK (hf 1 _ rfl);have aa:=CR (t:=3) (o:=5) EK (hf 2 _ rfl);have ab:=CR (t:=3) (o:=6) EK (hf 3 _ rfl);have ad:=CR (t:=3) (o:=7) EK (hf 4 _ rfl);have ae:=CR (t:=3) (o:=8) EK (hf 5 _ rfl);have f6:=CR (t:=46) (o:=9) Tb (hf 6 _ rfl);have af:=CR (t:=46) (o:=10) Tb (hf 7 _ rfl);have ag:=CR (t:=55) (o:=11) kV (hf 8 _ rfl);have ah:=CR (t:=55) (o:=12) kV (hf 9 _ rfl);obtain⟨g,l⟩:=Zh y;obtain⟨a1,e1⟩:=EJ z;obtain⟨a2,e2⟩:=EJ aa;obtain⟨a3,m⟩:=EJ ab;obtain⟨a4,n⟩:=EJ ad;obtain⟨a5,p⟩:=EJ ae;obtain⟨A6,n6,i,an,q,_,ai,b6⟩:=UL f6;obtain⟨a,n7,c7,ao,r,_,aj,b7⟩:=UL af;obtain⟨b,n8,j,ap,u,ak,d⟩:=jI ag;obtain⟨c,n9,k,aq,v,al,f⟩:=jI ah;refine⟨{CP with hs:=⟨A6,n6,i⟩,asn:=⟨a,n7,c7⟩,hc:=⟨b,n8,j⟩,ac:=⟨c,n9,k⟩},⟨g,a1,a2,a3,a4,a5,an,ao,ap,aq⟩,?_,⟨ai,aj,ak,al⟩,⟨b6,b7,d,f⟩⟩;have e:us.drop 13=[]:=Ka J;have:=Dh l;rw[Dh e1,Dh e2,Dh m,Dh n,Dh p,Dh q,Dh r,Dh u,Dh v,e]at this;rw[J']at this;rw[this];rfl
def Aky (h:ET prog w 59 us):∃a b,us=[O a,O b]:=by obtain⟨g,hf⟩:=KE Go.Proofs.Tryz.underlying59 h;rw[kQ]at g;have d:=CR (t:=3) (o:=0) EK (hf 0 _ rfl);have f:=CR (t:=3) (o:=1) EK (hf 1 _ rfl);obtain⟨a,c⟩:=EJ d;obtain⟨b,e1⟩:=EJ f;refine⟨a,b,?_⟩;have e:us.drop 2=[]:=Ka J;have:=Dh c;rw[Dh e1,e]at this;rw[J']at this;rw[this];rfl
def Akv (h:ET prog w 61 us):∃r,us=DH r:=by obtain⟨aj,hf⟩:=KE Go.Proofs.Tryz.underlying61 h;rw[kN]at aj;have x:=CR (t:=3) (o:=0) EK (hf 0 _ rfl);have y:=CR (t:=3) (o:=1) EK (hf 1 _ rfl);have ac:=CR (t:=3) (o:=2) EK (hf 2 _ rfl);have ad:=CR (t:=36) (o:=3) VE (hf 3 _ rfl);have ae:=CR (t:=3) (o:=7) EK (hf 4 _ rfl);have af:=CR (t:=3) (o:=8) EK (hf 5 _ rfl);have f6:=CR (t:=3) (o:=9) EK (hf 6 _ rfl);have ag:=CR (t:=3) (o:=10) EK (hf 7 _ rfl);have ah:=CR (t:=3) (o:=11) EK (hf 8 _ rfl);have ai:=CR (t:=3) (o:=12) EK (hf 9 _ rfl);have z:=CR (t:=3) (o:=13) EK (hf 10 _ rfl);have aa:=CR (t:=3) (o:=14) EK (hf 11 _ rfl);have ab:=CR (t:=59) (o:=15) kQ (hf 12 _ rfl);obtain⟨a0,i⟩:=EJ x;obtain⟨a1,e1⟩:=EJ y;obtain⟨a2,e2⟩:=EJ ac;obtain⟨g,m⟩:=Zh ad;obtain⟨a4,n⟩:=EJ ae;obtain⟨a5,p⟩:=EJ af;obtain⟨c,q⟩:=EJ f6;obtain⟨d,s⟩:=EJ ag;obtain⟨f,u⟩:=EJ ah;obtain⟨a9,v⟩:=EJ ai;obtain⟨a,j⟩:=EJ z;obtain⟨b,k⟩:=EJ aa;obtain⟨lo,hi,l⟩:=Aky ab;refine⟨⟨a0,a1,a2,g,a4,a5,c,d,f,a9,a,b,lo,hi⟩,?_⟩;have e:us.drop 17=[]:=Ka J;have:=Dh i;rw[Dh e1,Dh e2,Dh m,Dh n,Dh p,Dh q,Dh s,Dh u,Dh v,Dh j,Dh k,Dh l,e]at this;rw[J']at this;rw[this];rfl
def Ak4 (h:ET prog w 63 us):∃a b c,us=[O a,O b,.bool c]:=by obtain⟨j,hf⟩:=KE Go.Proofs.Tryz.underlying63 h;rw[kX]at j;have f:=CR (t:=3) (o:=0) EK (hf 0 _ rfl);have g:=CR (t:=3) (o:=1) EK (hf 1 _ rfl);have i:=CR (t:=4) (o:=2) Zr (hf 2 _ rfl);obtain⟨a,d⟩:=EJ f;obtain⟨b,e1⟩:=EJ g;obtain⟨c,e2⟩:=Zi i;refine⟨a,b,c,?_⟩;have e:us.drop 3=[]:=Ka J;have:=Dh d;rw[Dh e1,Dh e2,e]at this;rw[J']at this;rw[this];rfl
def Akw (h:ET prog w 65 us):∃a b,us=[O a,O b]:=by obtain⟨g,hf⟩:=KE Go.Proofs.Tryz.underlying65 h;rw[kO]at g;have d:=CR (t:=3) (o:=0) EK (hf 0 _ rfl);have f:=CR (t:=3) (o:=1) EK (hf 1 _ rfl);obtain⟨a,c⟩:=EJ d;obtain⟨b,e1⟩:=EJ f;refine⟨a,b,?_⟩;have e:us.drop 2=[]:=Ka J;have:=Dh c;rw[Dh e1,e]at this;rw[J']at this;rw[this];rfl
def Akx (h:ET prog w 67 us):∃a b A n c xs,us=[O a,O b,.slice A n c]∧n≤c∧Ai AQ 1 (mem w) A n xs∧xs.length≤9223372036854775807:=by obtain⟨k,hf⟩:=KE Go.Proofs.Tryz.underlying67 h;rw[kP]at k;have f:=CR (t:=3) (o:=0) EK (hf 0 _ rfl);have g:=CR (t:=3) (o:=1) EK (hf 1 _ rfl);have i:=CR (t:=46) (o:=2) Tb (hf 2 _ rfl);obtain⟨a,d⟩:=EJ f;obtain⟨b,e1⟩:=EJ g;obtain⟨A,n,c,xs,e2,hc,hs,j⟩:=UL i;refine⟨a,b,A,n,c,xs,?_,hc,hs,j⟩;have e:us.drop 3=[]:=Ka J;have:=Dh d;rw[Dh e1,Dh e2,e]at this;rw[J']at this;rw[this];rfl
def Aex (v:Bj):PE v=(List.range 32).map (Ct v):=rfl
def Akr (h:ET prog w 69 us):∃v:Bj,v.length=32∧us=PE v:=by
 obtain⟨c,hf⟩:=Av8 Go.Proofs.Tryz.underlying69 h;rw[kT]at c;rw[Aop]at hf;(have a:∀i,i<32→∃b:UInt8,us[i]?=some (.int .u8 b.toNat):=λi hi=>by{obtain⟨n,e,hw⟩:=nW Go.Proofs.Tryz.underlying5 (hf i hi);rw[Gy]at e;(have hr:0≤n∧n<256:=by{simp[Lit.wf,IntKind.min,IntKind.max,IntKind.bits,IntKind.signed]at hw;omega});refine⟨UInt8.ofNat n.toNat,?_⟩;rw[vW e,Wt];congr 2;omega})
 have hx:∀i,∃b:UInt8,i<32→us[i]?=some (.int .u8 b.toNat):=λi=>by
  by_cases hi:i<32;{obtain⟨b,e⟩:=a i hi;exact⟨b,λ_=>e⟩};{exact⟨0,λh=>absurd h hi⟩}
 obtain⟨f,hf2⟩:=A05 hx;refine⟨(List.range 32).map f,An,?_⟩;rw[Aex];apply K';intro i;by_cases hi:i<32;{rw[hf2 i hi,FG,List.getElem?_range hi];simp[Ct,List.getD,FG,List.getElem?_range hi]};{rw[Mj J,Mj FC]}
def Ak1 (h:ET prog w 71 us):∃p:AA×Al,us=BM p∧Cr (mem w) p.1 p.2∧Eu p.2:=by obtain⟨aq,hf⟩:=KE Go.Proofs.Tryz.underlying71 h;rw[kS]at aq;have ae:=CR (t:=3) (o:=0) EK (hf 0 _ rfl);have af:=CR (t:=3) (o:=1) EK (hf 1 _ rfl);have ah:=CR (t:=3) (o:=2) EK (hf 2 _ rfl);have ai:=CR (t:=52) (o:=3) Zq (hf 3 _ rfl);have aj:=CR (t:=54) (o:=7) kR (hf 4 _ rfl);have ak:=CR (t:=57) (o:=12) kM (hf 5 _ rfl);have f6:=CR (t:=61) (o:=25) kN (hf 6 _ rfl);have al:=CR (t:=63) (o:=42) kX (hf 7 _ rfl);have am:=CR (t:=65) (o:=45) kO (hf 8 _ rfl);have an:=CR (t:=67) (o:=47) kP (hf 9 _ rfl);have ag:=CR (t:=69) (o:=50) kT (hf 10 _ rfl);obtain⟨a0,m⟩:=EJ ae;obtain⟨a1,e1⟩:=EJ af;obtain⟨a2,e2⟩:=EJ ah;obtain⟨eS,eC,a,ne,l,aw,ad,q,ap,g,j⟩:=Ak2 ai;obtain⟨fg,av,u⟩:=Akz aj;obtain⟨s,x,y,hs,k⟩:=Aku ak;obtain⟨r,z⟩:=Akv f6;obtain⟨c,d,f,aa⟩:=Ak4 al;obtain⟨mP,au,ab⟩:=Akw am;obtain⟨lS,lC,b,nl,cl,ax,ac,ao,ar,i⟩:=Akx an;obtain⟨v,hv,n⟩:=Akr ag;refine⟨({s with cl:=⟨a,ne,l⟩,lo:=⟨b,nl,cl⟩},⟨a0,a1,a2,eS,eC,aw,ad,fg,av,x,r,c,d,f,mP,au,lS,lC,ax,v⟩),?_,⟨⟨hs.hs,hs.asn,hs.hc,hs.ac⟩,ap,ar,hv,ao⟩,⟨k,g,i,j⟩⟩;have e:us.drop 82=[]:=Ka J;have:=Dh m;rw[Dh e1,Dh e2,Dh q,Dh u,Dh y,Dh z,Dh aa,Dh ab,Dh ac,Dh n,e]at this;rw[J']at this;rw[this];rfl
end
section
variable {H:Type} {enc:TypeId×Value→H} {W:World} {base:Nat} {v:Value} {d:DataW H} {p:List MemPlace}
def mE (hv:Value.okWide prog W .any base 3 v):∃n,v=O n:=okWide_int Go.Proofs.Tryz.underlying3 hv
end
def own:ownKnob prog.godebug=none:=by kernel_rfl
def An0:laidOutB prog=true:=by kernel_rfl
def Anx {P:Program}{w:World}{H:Type}{enc:TypeId×Value→H}{h:Nat→Bool}{held:Bool}{n:Nat}{t e:TypeId}{k:IntKind}{cs:Ao}{fuel:Nat}{ls:AC}{p:List MemPlace}(f:P.underlying t=some (.array n e))(c:P.underlying e=some (.int k))(g:P.cellsOf e=1)(hc:P.cellsOf t=n)
  (b:DataW.trod enc P w 0 h held fuel t cs=some (.agg (ls.map λz=>.lit (.int k z)),p)):cs=ls.map λz=>.int k z:=by
 obtain⟨xs,m,_,hx,j,hn,d⟩:=DataW.trod_array f b
 simp only[Mb,DataW.agg.injEq]at hx
 obtain⟨hx,_⟩:=hx
 have l:ls.length=n:=by
  have:=congrArg List.length hx
  simp at this;omega
 apply K'
 intro i
 by_cases hi:i<n
 · have h0:=d i hi
   rw[g]at h0
   have a:i<xs.length:=by omega
   rw[Bw a]at h0
   obtain⟨o,e1,e2,_⟩:=DataW.trod_int c h0
   rw[Gy]at e1
   rw[vW e1]
   have h1:=congrArg (λq=>q[i]?) hx
   simp only[FG,Bw a,Bw (show i<ls.length by omega),Hg,Eh]at h1
   rw[e2]at h1
   simp only[DataW.lit.injEq,Lit.int.injEq,true_and]at h1
   rw[FG,Bw (show i<ls.length by omega),Hg,h1]
 · rw[Mj J,Mj WQ]
abbrev Ta:List (String×DataW Unit):=[("math/bits.deBruijn32tab",Go.Proofs.YtbmffdagfjepgaaGreatDoor.Rows.laid_math_bits_deBruijn32tab),("math/bits.deBruijn64tab",Go.Proofs.YtbmffdagfjepgaaGreatDoor.Rows.laid_math_bits_deBruijn64tab),("internal/strconv.uint64pow10",Go.Proofs.YtbmffdagfjepgaaGreatDoor.Rows.laid_internal_strconv_uint64pow10)]
def Ard (os:Os)(args:Dx):laidMetH prog Ta ((World.doorLaid prog 400 os).forCall (λ_ _=>0) ⟨#[],args,[]⟩).memory:=
 laidMetH_of_parts3 (fuel:=8) (laidMet_of_run' 8 GH GH) GH GH
def Zt:prog.globalNamed "internal/strconv.uint64pow10" =some 1:=by kernel_rfl
def Ah8:(prog.globals[(1:Nat)]?).map (·.type)=some 380:=by kernel_rfl
def Alc:(Go.Proofs.YtbmffdagfjepgaaGreatDoor.Rows.laid_internal_strconv_uint64pow10:DataW Unit)=.agg (Lib.pow10Tab.map λz=>.lit (.int .u64 z)):=rfl
def Ald {W:World}(h:laidMetH prog Ta W):DG (mem W):=by rw[MakeChecks.laidMetH_plain _ _ _ GH]at h;obtain⟨ps,⟨_,_,_,_,_,_,_,_,_,_,⟨_,_,_,_,_,_,_,_,_,_,⟨g,t,cs,e,p,q,hg,c,hv,a,_,_⟩,_⟩,_⟩,_,_⟩:=h;obtain rfl:=Od (Zt.symm.trans hg);obtain rfl:=Od (Ah8.symm.trans c);rw[Alc]at a;have hc:=Anx Go.Proofs.Tryz.underlying380 Go.Proofs.Tryz.underlying137 GH GH a;unfold World.var? at hv;rw[Zt,XS]at hv;split at hv;{rename_i cs' d b hh;injection hv with hv;refine⟨_,d,b,Zt,?_⟩;show W.heap[_]?=_;rw[hh,hv,←hc]};{cases hv}
def Aom:prog.cellsOf 24=2:=by kernel_rfl
section
variable {w:World} {us:Ao}
end
section
variable {w:World} {us:Ao}
def Aks (h:ET prog w 24 us):∃t,us=Mw t:=by obtain⟨d,hf⟩:=KE Go.Proofs.Tryz.underlying24 h;rw[Aom]at d;have b:=CR (t:=3) (o:=0) EK (hf 0 _ rfl);have c:=CR (t:=4) (o:=1) Zr (hf 1 _ rfl);obtain⟨a0,a⟩:=EJ b;obtain⟨b1,e1⟩:=Zi c;refine⟨⟨a0,b1⟩,?_⟩;have e:us.drop 2=[]:=Ka J;have:=Dh a;rw[Dh e1,e]at this;rw[J']at this;rw[this];rfl
end
section
variable {H:Type} {enc:TypeId×Value→H} {W:World} {base:Nat} {v:Value} {d:DataW H} {p:List MemPlace}
end
section
variable {H:Type} {enc:TypeId×Value→H} {W:World} {base:Nat} {v:Value} {d:DataW H} {p:List MemPlace}
def Aua (hv:Value.okWide prog W .any base 24 v)(h:DataW.Trod enc prog W 0 (λ_=>true) true 24 v d p):∃t,v=GF t:=by obtain⟨cs,rfl,_⟩:=okWide_struct Go.Proofs.Tryz.underlying24 hv;obtain⟨r,e⟩:=Aks (nV h);refine⟨r,?_⟩;simp[Value.cells]at e;(have:cs=cs.toList.toArray:=by simp);rw[this,e]
end
def Ak0 {w:World}{us:Ao}(h:ET prog w 71 us):∃p:AA×Al,us=BM p∧(Cr (mem w) p.1 p.2∧Eu p.2)∧p.1.cl.n≤p.1.cl.c:=by obtain⟨p,e,q⟩:=Ak1 h;refine⟨p,e,q,?_⟩;obtain⟨i,hf⟩:=KE Go.Proofs.Tryz.underlying71 h;have f:=CR (t:=52) (o:=3) Zq (hf 3 _ rfl);obtain⟨j,hf3⟩:=KE Go.Proofs.Tryz.underlying52 f;have g:=CR (t:=46) (o:=2) Tb (hf3 2 _ rfl);obtain⟨A,n,c,xs,e2,hc,_⟩:=UL g;rw[e]at e2;have a:[Value.slice p.1.cl.A p.1.cl.n p.1.cl.c]=[.slice A n c]:=e2;injection a with a;injection a with _ b d;rw[b,d];exact hc
def Aub {H:Type}{enc:TypeId×Value→H}{W:World}{base:Nat}{v:Value}{d:DataW H}{p:List MemPlace}(hv:Value.okWide prog W .any base 22 v)(h:DataW.Trod enc prog W 0 (λ_=>true) true 22 v d p) :
  ∃A n c l,v=.slice A n c∧xT (mem W) A n c l∧∀p∈l,p.1.cl.n≤p.1.cl.c:=by
 obtain⟨A,n,c,rfl⟩:=okWide_slice Go.Proofs.Tryz.underlying22 hv
 obtain⟨A',g,f,xs,e,h1,h2,h3,a⟩:=Av5 (enc:=BM) (S:=λp=>(Cr (mem W) p.1 p.2∧Eu p.2)∧p.1.cl.n≤p.1.cl.c) Go.Proofs.Tryz.underlying22 kS (λ_ b=>Ak0 b) (nV h)
 simp[Value.cells]at e
 obtain⟨rfl,rfl,rfl⟩:=e
 unfold maxLen at h2
 exact⟨_,_,_,xs,rfl,⟨h3,λp hp=>(a p hp).1,h1,J⟩,λp hp=>(a p hp).2⟩
end Go.Hw