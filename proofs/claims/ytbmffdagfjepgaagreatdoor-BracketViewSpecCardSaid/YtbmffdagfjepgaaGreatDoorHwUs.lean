import Derived.Test.YtbmffdagfjepgaaGreatDoorHC
import Derived.Shelf.SlSortCmp.NoneTotal
set_option linter.all false
namespace Go.Hw
open Go
def Azk (s:Bj)(lo hi:Nat):(Cj s).extract lo hi=Cj ((s.take hi).drop lo):=by apply ByteArray.ext;rw[ByteArray.data_extract];unfold Cj;simp[List.extract_toArray,List.take_drop];by_cases h:lo≤hi;{rw[show lo+(hi-lo)=hi by omega]};{rw[Ka OY,Ka OY]}
section
variable {C:Bu} {l:AW} {h:U} {ty:TypeId} {pos:String} {aft:Cw} {gd:Cq} {dst:CK}
def Aw0 {t:TypeId}{x y z:Operand}{k b:IntKind}{i j:Int}{lo hi:Nat}{s:Bj}{T:Ay}(hT:AM t C.ts=some T)(f:T.desc=.string)(hx:AJ l x=some (.string (Cj s)))(hy:AJ l y=some (.int k i))(o:AJ l z=some (.int b j))
  (g:i=(lo:Int)) (m:j=(hi:Int)) (n:lo≤hi) (hhi:hi≤s.length):DN C l [] h ⟨dst,.slice t x (some y) (some z) none,ty,pos,aft,gd⟩ (.string (Cj ((s.take hi).drop lo))):=
 ⟨rfl,λa w hsl _ _=>by
  obtain⟨p,d,c⟩:=C.ok.und hT
  rw[f]at c
  rw[Ox c]at d
  have e1:a.eval x=.string (Cj s):=hsl.eval hx
  have e2:a.eval y=.int k i:=hsl.eval hy
  have e:a.eval z=.int b j:=hsl.eval o
  have b1:=Mr (P:=C.P) (w:=w) (k:=b) (code:=.sliceAlen) m (show hi≤(Cj s).size from hhi)
  have b2:=Mr (P:=C.P) (w:=w) (k:=k) (code:=.sliceB) g n
  simp only[execOp,Instr.sliceAt,BK,run_underlying d,B',Instr.slice,e1,e2,e,Hg,Qn,Instr.sliceBounds,CV,b1,b2,Ir,if_false,Ud,Azk]⟩
end
section
variable {C:Bu} {ds:CL} {l:AW} {Es:Am} {h:U} {ops:Dm} {os:Hc} {K:CB}
def Zb {p:Int}(a:0≤p∧p≤18446744073709551615):IntKind.u64.wrap p=p:=by simp[IntKind.wrap,IntKind.bits,IntKind.signed];omega
def wW {t ty':TypeId}{x y:Operand}{u:Nat}{d:Tmp}{ty:TypeId}{pos:String}{aft:Cw}{gd:Cq}{T:Ay}
  (hT:AM t C.ts=some T) (hx:AJ l x=some (.int .u64 (u:Int))) (hy:AJ l y=some (.int .u64 10))
  (hg:Fe ops l gd=some true) (a:GI C.N (some d)=true) (g:Bz C ds ((d,(.int .u64 ((u%10:Nat):Int)))::l) Es h ops os K):Bz C ds l Es h ops (⟨some d,.binOp .rem t x y ty',ty,pos,aft,gd⟩::os) K:=
 UV hT hx hy (by
  simp only[JK,if_true]
  rw[if_neg J,Int.tmod_eq_emod_of_nonneg J];rfl) hg a g
def A0g {t ty':TypeId}{x y:Operand}{u:Nat}{d:Tmp}{ty:TypeId}{pos:String}{aft:Cw}{gd:Cq}{T:Ay}
  (hT:AM t C.ts=some T) (hx:AJ l x=some (.int .u64 (u:Int))) (hy:AJ l y=some (.int .u64 10)) (b:u≤18446744073709551615)
  (hg:Fe ops l gd=some true) (a:GI C.N (some d)=true) (g:Bz C ds ((d,(.int .u64 ((u / 10:Nat):Int)))::l) Es h ops os K):Bz C ds l Es h ops (⟨some d,.binOp .quo t x y ty',ty,pos,aft,gd⟩::os) K:=
 UV hT hx hy (by
  simp only[JK,if_true]
  rw[if_neg J,Az0 J,Zb J];rfl) hg a g
def fR {t ty':TypeId}{x y:Operand}{p q:Int}{d:Tmp}{ty:TypeId}{pos:String}{aft:Cw}{gd:Cq}{T:Ay}
  (hT:AM t C.ts=some T) (hx:AJ l x=some (.int .u64 p)) (hy:AJ l y=some (.int .u64 q)) (a:0≤p+q∧p+q≤18446744073709551615)
  (hg:Fe ops l gd=some true) (b:GI C.N (some d)=true) (g:Bz C ds ((d,(.int .u64 (p+q)))::l) Es h ops os K):Bz C ds l Es h ops (⟨some d,.binOp .add t x y ty',ty,pos,aft,gd⟩::os) K:=
 UV hT hx hy (by simp[JK,Zb a]) hg b g
def A0h {t ty:TypeId}{x:Operand}{p:Int}{d:Tmp}{pos:String}{aft:Cw}{gd:Cq}(hx:AJ l x=some (O p))(a : -9223372036854775808≤0-p∧0-p≤9223372036854775807)
  (hg:Fe ops l gd=some true) (b:GI C.N (some d)=true) (g:Bz C ds ((d,(O (0-p)))::l) Es h ops os K):Bz C ds l Es h ops (⟨some d,.unOp .neg t x,ty,pos,aft,gd⟩::os) K:=
 NJ (by simp only[Kg,hx,Zk,NO _ a]) hg b g
end
open Go Go.Sort Go.Proofs
def Bq.grown {W a:World}{h0 h:U}{Es:Am}(H:Bq W [] h0 Es h a):∃q c,a=grow (W.drewN q) c:=by refine⟨a.drawn-W.drawn,a.heap.extract W.heap.size a.heap.size,?_⟩;have h1:=H.os;have h2:=H.tape;have h3:=H.output;have d:=H.size;have e:=H.dr;have b:∀i,i<W.heap.size→a.heap[i]?=W.heap[i]?:=λi hi=>H.old i hi An;clear H;obtain⟨f,m,j,c,k⟩:=a;obtain⟨hp,l,g,os,out⟩:=W;simp only at h1 h2 h3 d e b;subst h1;subst h2;subst h3;simp only[grow,World.drewN,World.mk.injEq,and_true,true_and];refine⟨?_,J⟩;apply hZ;intro i;by_cases hi:i<hp.size;{rw[Rb hi];exact b i hi};{rw[Array.getElem?_append_right J,Array.getElem?_extract];by_cases hj:i<f.size;{rw[if_pos J];congr 1;omega};{rw[if_neg J,Ad3 J]}}
def RE {α:Type}[Inhabited α]{enc:α→Ao}{k:Nat}(b:∀x,(enc x).length=k)(xs:List α):flatK enc k xs.toArray=(xs.flatMap enc).toArray:=by have c:=Hp b xs;refine ext_get! (by rw[size_flatK];simp[c]) λt a=>?_;rw[size_flatK]at a;rw[get_flatK enc k _ t a];(have d:t<xs.length*k:=by simpa using a);(have h1:t<(xs.flatMap enc).length:=by rw[c];exact d);obtain⟨x,hx1,hx2⟩:=bA b xs t _ (Bw h1);rw[getElem!_pos (xs.flatMap enc).toArray t (by simpa using h1)];simp only[Yj];(have e1:xs.toArray[t / k]! =x:=by{rw[getElem!_def];simp[hx1]});rw[e1,getElem!_def,hx2]
def MP {α:Type} (a:α→α→Int) (xs:List α):List α:=xs.mergeSort λx y=> !(ltOf a) y x
def Acv {α:Type}(a:α→α→Int)(xs:List α):(MP a xs).length=xs.length:=Ayy xs
def Azd {α:Type}(a:α→α→Int)(xs:List α):(MP a xs).Perm xs:=Yh xs _
def Aiw {α:Type}[Inhabited α]{P:Program}{f gf:FuncId}{cb:Dx}(enc:α→Ao)(k:Nat)(q:∀x,(enc x).length=k)(bc:0<k)(a:α→α→Int)
  (ao:∀(blk off c:Nat) (d:Array α) (w:World),CmpLays P gf cb enc k a blk off d.size w→HoldsK enc k w blk off d→blk<w.heap.size→d.size<4611686018427387904→
    Calls P f #[.slice (some ⟨blk,off,none⟩) d.size c,.func (.func gf) #[] cb] w λe l=>e=.returned (.tuple #[])∧∃n os,l=sortWorldK enc k w blk off n (d.toList.mergeSort λx y=> !(ltOf a) y x).toArray os)
  (ar:∀(p:At) (c:Nat) (w:World),Calls P f #[.slice p 0 c,.func (.func gf) #[] cb] w λe l=>e=.returned (.tuple #[])∧l=w)
  (aw:∀x y,Az P gf (#[.agg (enc x).toArray,.agg (enc y).toArray]++cb) (λ_=>none) λu _=>u=O (a x y))
  (e:TypeId) (v:Value) (xs:List α) (n:Nat) (h:U) (hn:n≤1000000000) (hx:xs.length=n) :
  AP P f #[v,.func (.func gf) #[] cb] [Ar e k v n (xs.flatMap enc)] h λu Es _=>u=.tuple #[]∧Es=[Ar e k v n ((MP a xs).flatMap enc)]:=by
 subst hx
 intro w X0 a0 ⟨aj,a5,a2,z⟩
 have t:Bq w X0 h [Ar e k v xs.length (xs.flatMap enc)] h w:=⟨rfl,rfl,rfl,BU _,BU _,λ_ _ _=>rfl,a0,V.refl _,λi o e=>.inl e,aj,a5,a2,λb h1=>⟨(z b h1).1,.inr (z b h1).2.1,(z b h1).2.2⟩⟩
 obtain⟨D,am⟩:=t.get (La _)
 obtain⟨bd,hr⟩:=am
 rcases hr with⟨rfl,h0,ap⟩|⟨g,c,s,rfl,ap,hm,ad,a1,ay,a6⟩
 · have hx:xs=[]:=Fu h0
   subst hx
   refine(ar none 0 w).mono ?_
   rintro ac l ⟨rfl,rfl⟩
   have al:MP a ([]:List α)=[]:=by simp[MP]
   exact⟨_,rfl,_,h,⟨rfl,by rw[al]⟩,t⟩
 · have r:w.heap[g]?=some (.cells s e (0,0)):=hm
   have ae:=Hp q xs
   have au:∀j,j<xs.length*k→s[j]?=(xs.flatMap enc)[j]?:=by
    intro j hj
    rw[←a6,FF,if_pos hj,Lk]
   have ax:CmpLays P gf cb enc k a g 0 xs.toArray.size w:=λm os ak bb x y=>by
    refine(aw x y (sortWorldK enc k w g 0 m ak os) [] (λi o e=>by cases e) ⟨[],trivial,An,An⟩).mono ?_
    rintro ac l ⟨v,rfl,Es,h',⟨rfl,rfl⟩,H⟩
    exact⟨rfl,H.grown⟩
   refine(ao g 0 c xs.toArray w ax ?_ ?_ FC).mono ?_
   · intro j hj
     rw[RE q]at hj
     have af:j<xs.length*k:=by rw[←ae];simpa using hj
     refine⟨?_,?_⟩
     · rw[RE q]
       have ag:j<(xs.flatMap enc).length:=by rw[ae];exact af
       simp only[World.cell?,r,Dy]
       have:=au j af
       rw[Bw ag]at this
       rw[getElem!_pos (xs.flatMap enc).toArray j (by simpa using ag)]
       simpa using this
     · simp[World.frozen?,r]
   · exact(JE.1 r).1
   rintro ac l ⟨rfl,m,os,rfl⟩
   refine⟨_,rfl,_,h,⟨rfl,rfl⟩,?_⟩
   have hsl:=Acv a xs
   have aa:=Hp q (MP a xs)
   have az:g<w.heap.size:=(JE.1 r).1
   have ah:∀i,i<w.heap.size→(sortWorldK enc k w g 0 m (xs.toArray.toList.mergeSort λx y=> !(ltOf a) y x).toArray os).heap[i]?=(w.heap.modify g (Sort.onCells (Sort.putCells id 0 ((MP a xs).flatMap enc).toArray)))[i]?:=by
    intro i hi
    unfold sortWorldK putRowK
    rw[RE q]
    show(w.heap.modify g _++os)[i]?=_
    rw[Rb Jq];rfl
   refine t.repl .here rfl rfl rfl (by simp[sortWorldK,grow,putRowK,putRow,mapBlock,Sort.ahead]) (hdr:=by show w.drawn≤w.drawn+m;omega) λai an ba a'=>?_
   have aq:ai=[g]:=by
    rcases an.2 with⟨e1,_⟩|⟨a9,a7,a8,e1,e2,_⟩
    · cases e1
    · injection e1 with e1 _;injection e1 with e1;injection e1 with e1;rw[e2,e1]
   subst aq
   refine⟨[g],⟨by rw[aa,hsl],.inr ⟨g,c,Sort.putCells id 0 ((MP a xs).flatMap enc).toArray s,rfl,rfl,?_,ad,a1,by simp[Sort.putCells,ay],?_⟩⟩,An,?_,?_⟩
   · show(sortWorldK enc k w g 0 m _ os).heap[g]?=_
     rw[ah g az,Is,if_pos rfl,r]
     rfl
   · apply K'
     intro j
     rw[FF]
     by_cases hj:j<xs.length*k
     · rw[if_pos hj,Lk]
       have ab:j<((MP a xs).flatMap enc).length:=by rw[aa,hsl];exact hj
       have av:j<s.size:=by
        have:xs.length*k≤c*k:=Pe _ ad
        omega
       simp only[Sort.putCells,Vc,OC av,Hg,GT,true_and,Dy,Nb,ab,if_true,JM,Bw ab]
       rw[getElem!_pos _ j (by simpa using ab)]
       simp
     · rw[if_neg hj,Mj (by rw[aa,hsl];omega)]
   · intro i hi
     simp only[Bk]at hi
     subst hi
     exact⟨.inl An,by simp[sortWorldK,grow,putRowK,putRow,mapBlock,Sort.ahead];omega⟩
   · intro i hi a4
     have a3:g≠i:=λe=>a4 MS
     show(sortWorldK enc k w g 0 m _ os).heap[i]?=_
     rw[ah i hi,Is,if_neg a3]
end Go.Hw