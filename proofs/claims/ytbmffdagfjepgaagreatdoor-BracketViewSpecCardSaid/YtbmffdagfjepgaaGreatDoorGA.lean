import Derived.Test.YtbmffdagfjepgaaGreatDoorFA
import Derived.Test.YtbmffdagfjepgaaGreatDoorHC
import Derived.Test.YtbmffdagfjepgaaGreatDoorNT
set_option linter.all false
namespace Go.Hw
open Go
structure Ca where
 A:At
 n:Nat
 c:Nat
def Cl:Ca:=⟨none,0,0⟩
structure AA where
 cl:Ca
 hs:Ca
 asn:Ca
 hc:Ca
 ac:Ca
 lo:Ca
abbrev AN:=List (AA×Al)
abbrev YX:=Option (AA×Al)
abbrev Re:=List (AA×Dn)
def CP:AA:=⟨Cl,Cl,Cl,Cl,Cl,Cl⟩
def Fk (c:Jb):Ao:=[O c.p,.bool c.red]
def CG (g:AL):Ao:=[O g.s,O g.c,O g.h,O g.a]
def LZ (s:AA) (x:DV):Ao:=[O x.g.s,O x.g.c,O x.g.h,O x.g.a,O x.ref,O x.hg,O x.ag,O x.hp,O x.ap,
 .slice s.hs.A s.hs.n s.hs.c,.slice s.asn.A s.asn.n s.asn.c,.slice s.hc.A s.hc.n s.hc.c,.slice s.ac.A s.ac.n s.ac.c]
def DH (r:Cu):Ao:=[O r.case,O r.inst,O r.kind,O r.g.s,O r.g.c,O r.g.h,O r.g.a,O r.club,O r.player,
 O r.season,O r.comp,O r.points,O r.amount,O r.hg,O r.ag,O r.lo,O r.hi]
def Ct (l:Bj) (i:Nat):Value:=.int .u8 ((l.getD i 0).toNat:Int)
def PE (v:Bj):Ao:=[Ct v 0,Ct v 1,Ct v 2,Ct v 3,Ct v 4,Ct v 5,Ct v 6,Ct v 7,Ct v 8,Ct v 9,Ct v 10,Ct v 11,Ct v 12,Ct v 13,Ct v 14,Ct v 15,
 Ct v 16,Ct v 17,Ct v 18,Ct v 19,Ct v 20,Ct v 21,Ct v 22,Ct v 23,Ct v 24,Ct v 25,Ct v 26,Ct v 27,Ct v 28,Ct v 29,Ct v 30,Ct v 31]
def CS (s:AA) (x:Al):Ao:=[O x.kind,O x.day,O x.known,O x.eS,O x.eC,.slice s.cl.A s.cl.n s.cl.c,.string (Cj x.eRules),
 O x.fg.s,O x.fg.c,O x.fg.h,O x.fg.a,O x.venue,
 O x.sh.g.s,O x.sh.g.c,O x.sh.g.h,O x.sh.g.a,O x.sh.ref,O x.sh.hg,O x.sh.ag,O x.sh.hp,O x.sh.ap,
 .slice s.hs.A s.hs.n s.hs.c,.slice s.asn.A s.asn.n s.asn.c,.slice s.hc.A s.hc.n s.hc.c,.slice s.ac.A s.ac.n s.ac.c,
 O x.ru.case,O x.ru.inst,O x.ru.kind,O x.ru.g.s,O x.ru.g.c,O x.ru.g.h,O x.ru.g.a,O x.ru.club,O x.ru.player,
 O x.ru.season,O x.ru.comp,O x.ru.points,O x.ru.amount,O x.ru.hg,O x.ru.ag,O x.ru.lo,O x.ru.hi,
 O x.aCase,O x.aInst,.bool x.aSusp,O x.mP,O x.mTo,O x.lS,O x.lC,.slice s.lo.A s.lo.n s.lo.c,
 Ct x.void 0,Ct x.void 1,Ct x.void 2,Ct x.void 3,Ct x.void 4,Ct x.void 5,Ct x.void 6,Ct x.void 7,Ct x.void 8,Ct x.void 9,Ct x.void 10,Ct x.void 11,Ct x.void 12,Ct x.void 13,Ct x.void 14,Ct x.void 15,
 Ct x.void 16,Ct x.void 17,Ct x.void 18,Ct x.void 19,Ct x.void 20,Ct x.void 21,Ct x.void 22,Ct x.void 23,Ct x.void 24,Ct x.void 25,Ct x.void 26,Ct x.void 27,Ct x.void 28,Ct x.void 29,Ct x.void 30,Ct x.void 31]
def Di (g:AL):Value:=.agg (CG g).toArray
def KV (s:AA) (x:DV):Value:=.agg (LZ s x).toArray
def Ew (r:Cu):Value:=.agg (DH r).toArray
def BW (s:AA) (x:Al):Value:=.agg (CS s x).toArray
def Py (s:AA) (x:Al):Value:=.agg [O x.eS,O x.eC,.slice s.cl.A s.cl.n s.cl.c,.string (Cj x.eRules)].toArray
def Vz (s:AA) (x:Al):Value:=.agg [O x.lS,O x.lC,.slice s.lo.A s.lo.n s.lo.c].toArray
structure Ef (h:U) (s:AA) (x:DV):Prop where
 hs:Ai AQ 1 h s.hs.A s.hs.n x.hs
 asn:Ai AQ 1 h s.asn.A s.asn.n x.asn
 hc:Ai Fk 2 h s.hc.A s.hc.n x.hc
 ac:Ai Fk 2 h s.ac.A s.ac.n x.ac
structure Cr (h:U) (s:AA) (x:Al):Prop where
 sh:Ef h s x.sh
 cl:Ai AQ 1 h s.cl.A s.cl.n x.eClubs
 lo:Ai AQ 1 h s.lo.A s.lo.n x.lO
 void:x.void.length=32
 lc:s.lo.n≤s.lo.c
def Ef.le {h h':U}{s:AA}{x:DV}(a:Ef h s x)(b:V h h'):Ef h' s x:=⟨a.hs.le b,a.asn.le b,a.hc.le b,a.ac.le b⟩
def Cr.le {h h':U}{s:AA}{x:Al}(a:Cr h s x)(b:V h h'):Cr h' s x:=⟨a.sh.le b,a.cl.le b,a.lo.le b,a.void,a.lc⟩
def Gg (x:DV):Prop:=x.hs.length≤9223372036854775807∧x.asn.length≤9223372036854775807∧x.hc.length≤9223372036854775807∧x.ac.length≤9223372036854775807
def Eu (x:Al):Prop:=Gg x.sh∧x.eClubs.length≤9223372036854775807∧x.lO.length≤9223372036854775807∧x.eRules.length≤9223372036854775807
def Ih (x:Al):Prop:=(x.sh.hs.length≤100∧x.sh.asn.length≤100∧x.sh.hc.length≤100∧x.sh.ac.length≤100)∧x.eClubs.length≤100∧x.lO.length≤100∧x.eRules.length≤100
def Cr.small1 {h:U}{s:AA}{x:Al}(a:Cr h s x)(b:Ih x):s.hs.n≤100∧s.asn.n≤100∧s.hc.n≤100∧s.ac.n≤100∧s.cl.n≤100∧s.lo.n≤100:=by have h1:=a.sh.hs.len;have h2:=a.sh.asn.len;have h3:=a.sh.hc.len;have e:=a.sh.ac.len;have f:=a.cl.len;have g:=a.lo.len;obtain⟨⟨b1,b2,b3,c⟩,d,b6,b7⟩:=b;omega
def NL.len {s:Bj}(a:NL s):s.length≤24:=a.2.1
def BT.sm1 {f:Al}(a:BT f):Ih f:=by
 obtain⟨-,-,hc,b⟩:=a;unfold EW at hc;unfold HZ at b;unfold Ih;(have i:∀x:Al,f=x→x.sh=f.sh∧x.eClubs=f.eClubs∧x.lO=f.lO∧x.eRules=f.eRules:=λx e=>by rw[e];exact⟨rfl,rfl,rfl,rfl⟩);by_cases h1:f.kind=1
 ·rw[if_pos h1]at hc;simp only[if_pos h1]at b;obtain⟨c,d,g,h⟩:=i _ b.symm;rw[←c,←g]
  have hr:f.eRules.length≤100:=by
   have:=hc.2.2.2.2;split at this;{have:=this.len;omega};{rw[this];simp}
  have:=hc.2.2.1.2.1;exact⟨by simp[BQ,IB],J,by simp[BQ],hr⟩
 rw[if_neg h1]at hc;simp only[if_neg h1]at b;by_cases h2:f.kind=2;{simp only[if_pos h2]at b;obtain⟨c,d,g,h⟩:=i _ b.symm;rw[←c,←d,←g,←h];simp[BQ,IB]};rw[if_neg h2]at hc;simp only[if_neg h2]at b;by_cases h3:f.kind=3;{rw[if_pos h3]at hc;simp only[if_pos h3]at b;obtain⟨c,d,g,h⟩:=i _ b.symm;rw[←d,←g,←h];obtain⟨-,-,-,-,-,a1,a2,a3,a4,-⟩:=hc;have b1:=a1.1;have b2:=a2.1;have b3:=a3.1;have n:=a4.1;exact⟨⟨J,J,J,J⟩,by simp[BQ],by simp[BQ],by simp[BQ]⟩};rw[if_neg h3]at hc;simp only[if_neg h3]at b;by_cases j:f.kind=4;{simp only[if_pos j]at b;obtain⟨c,d,g,h⟩:=i _ b.symm;rw[←c,←d,←g,←h];simp[BQ,IB]};rw[if_neg j]at hc;simp only[if_neg j]at b;by_cases k:f.kind=5;{simp only[if_pos k]at b;obtain⟨c,d,g,h⟩:=i _ b.symm;rw[←c,←d,←g,←h];simp[BQ,IB]};rw[if_neg k]at hc;simp only[if_neg k]at b;by_cases l:f.kind=6;{simp only[if_pos l]at b;obtain⟨c,d,g,h⟩:=i _ b.symm;rw[←c,←d,←g,←h];simp[BQ,IB]};rw[if_neg l]at hc;simp only[if_neg l]at b;by_cases m:f.kind=7;{rw[if_pos m]at hc;simp only[if_pos m]at b;obtain⟨c,d,g,h⟩:=i _ b.symm;rw[←c,←d,←h];have:=hc.2.2.1.2.1;exact⟨by simp[BQ,IB],by simp[BQ],J,by simp[BQ]⟩};simp only[if_neg m]at b;obtain⟨c,d,g,h⟩:=i _ b.symm;rw[←c,←d,←g,←h];simp[BQ,IB]
def Ef.nil (h:U):Ef h CP IB:=⟨Ai.nil,Ai.nil,Ai.nil,Ai.nil⟩
def Cr.nil (h:U):Cr h CP BQ:=⟨Ef.nil h,Ai.nil,Ai.nil,rfl,BU _⟩
def BM (p:AA×Al):Ao:=CS p.1 p.2
def Gv (p:AA×Al):(BM p).length=82:=rfl
def Ap6 (s:AA)(x:Al):Ly (CS s x)=true:=rfl
end Go.Hw
set_option maxRecDepth 100000
set_option maxHeartbeats 1600000
namespace Go.Hw
open Go
attribute [local irreducible] AI Bz BV Aq AP Az Au CH Ap Ar BG Cm BP
open Go.Proofs.Tryz
def At0 (h:U)(n m:Int):Aq prog 126 #[O n,O m] h (.bool (decide (AY n m))):=by refine AK func126 λ_ _=>?_;(repeat'(first|refine Aa ?_|refine AF ?_|(refine AG ?_ ?_<;>intro hc<;>try omega)|refine Bm ?_|fail));all_goals(simp only[OO,aQ];first|(rw[decide_eq_decide];unfold AY;omega)|(symm;rw[decide_eq_false_iff_not];unfold AY;omega))
def dJ (h:U)(n:Int):Aq prog 120 #[O n] h (.bool (decide (AY n 192))):=by refine AK func120 λ_ _=>?_;(repeat'(first|refine Aa ?_|(refine Ac ?_;first|(refine Qb ?_))|refine Bm ?_|fail));all_goals rfl
def iC (h:U)(n:Int):Aq prog 137 #[O n] h (.bool (decide (AY n 8192))):=by refine AK func137 λ_ _=>?_;(repeat'(first|refine Aa ?_|(refine Ac ?_;first|(refine Qb ?_))|refine Bm ?_|fail));all_goals rfl
def vO (h:U)(n:Int):Aq prog 192 #[O n] h (.bool (decide (AY n 100))):=by refine AK func192 λ_ _=>?_;(repeat'(first|refine Aa ?_|(refine Ac ?_;first|(refine Qb ?_))|refine Bm ?_|fail));all_goals rfl
def Arn (h:U)(n:Int):Aq prog 87 #[O n] h (.bool (decide (AY n 1048577))):=by refine AK func87 λ_ _=>?_;(repeat'(first|refine Aa ?_|(refine Ac ?_;first|(refine Qb ?_))|refine Bm ?_|fail));all_goals rfl
def Ar3 (h:U)(n m:Int):Aq prog 119 #[O n,O m] h (.bool (decide (AY n 64∧AY m 16))):=by refine AK func119 λ_ _=>?_;(repeat'(first|refine Aa ?_|(refine Ac ?_;first|(refine Qb ?_))|refine AF ?_|(refine AG ?_ ?_<;>intro hc<;>try omega)|refine Bm ?_|fail));all_goals(simp only[aQ];first|(rw[decide_eq_decide];simp[*];done)|(symm;rw[decide_eq_false_iff_not];simp[*];done))
def Va (h:U)(g:AL):Aq prog 84 #[Di g] h (O (if DL g then 0 else 70)):=by refine AK func84 λ_ _=>?_;(repeat'(first|refine Aa ?_|(refine Aj ?_;intro b)|(refine Ac ?_;first|(refine WW ?_)|(refine TP ?_))|(refine Y ?_ ?_<;>intro hc<;>try omega)|refine AF ?_|(refine AG ?_ ?_<;>intro hc<;>try omega)|refine Bm ?_|fail));all_goals(first|(rw[if_neg (by unfold DL;simp_all)];done)|(rw[if_pos (by unfold DL;simp_all)];done))
def YN {xs:AC}:Ns xs↔∀i,0<i→i<xs.length→xs.getD (i-1) 0<xs.getD i 0:=by
 constructor;{intro h i h0 hi;unfold Ns at h;rw[Uv]at h;have:=h (i-1) i J hi J;simpa[List.getD,Bw hi,Bw (show i-1<xs.length by omega)]using this}
 ·intro h;unfold Ns;induction xs with
  |nil=>exact .nil
  |cons a r f=>
   have hr:=f (λi h0 hi=>by
    have:=h (i+1) J Jq;simp only[Nat.add_sub_cancel,Yl]at this;obtain⟨j,rfl⟩:∃j,i=j+1:=⟨i-1,J⟩
    simpa using this)
   refine .cons (λb d=>?_) hr;cases r with|nil=>(cases d)|cons c r=>(have h1:a<c:=by have:=h 1 J An;simpa using this);rw[FD]at hr;rcases Bx.1 d with e|e;{rw[e];exact h1};{exact Int.lt_trans h1 (hr.1 b e)}
open Classical in
theorem lG (h:U)(A:At)(n c:Nat)(xs:AC)(hx:Ai AQ 1 h A n xs)(hn:n≤9223372036854775807) :
  Aq prog 189 #[.slice A n c] h (.bool (decide (Ns xs))):=by
 refine AK func189 λ_ _=>?_
 have o:=hx.len
 repeat'(first|refine Aa ?_|fail)
 refine Bg (X:=Nat) (λk=>1≤k∧(k≤n∨k=1)∧∀i,0<i→i<k→i<xs.length→xs.getD (i-1) 0<xs.getD i 0) (λk=>n+1-k) (λk=>[(3,O k),(0,.slice A n c)]) (λ_=>[]) (λ_=>h) 1 ⟨J,J,λi h0 h1=>by omega⟩ Af Ad rfl ?_
 rintro k ⟨m,l,a⟩ g
 by_cases b:k<n
 · have a1:=hx.addrD b
   have c1:=hx.cellsD 0 b
   have c2:=hx.cellsD 0 (show k-1<n by omega)
   have hs:=a k
   generalize d:xs.getD k 0=u at *
   generalize f:xs.getD (k-1) 0=v at *
   repeat'(first|refine Aa ?_|(apply AU (n:=4) 10 [0,1,2,3,4,5,6,7,8,9];kernel_rfl)|(apply Be;exact Bd;(first|exact Bf|(apply Cs (j:=k-1);(iterate 5 exact F);exact a1;omega;omega)|exact BN|exact KQ);exact AX)|(refine Y ?_ ?_<;>intro hc<;>try omega)|fail)
   · (first|(apply BS;(iterate 3 exact F)))
     rw[decide_eq_false];intro hh;have:=YN.1 hh k J J;omega
   · have h3:=g (k+1) ⟨J,J,λi h0 h1 h2=>by
      by_cases e:i=k
      · subst e;rw[d,f];assumption
      · exact a i h0 J h2⟩ J
     refine AB Af Ad h3
 · repeat'(first|refine Aa ?_|(refine Y ?_ ?_<;>intro hc<;>try omega)|refine Bm ?_|fail)
   rw[decide_eq_true];exact YN.2 λi h0 h1=>a i h0 J h1
def NN {b:Bool}{p:Prop}{inst:Decidable p}(h:b=true↔p):b=decide p:=by rw[Lj,decide_eq_true_eq];exact h
def Cv {b:Bool}{p:Prop}{inst:Decidable p}(h:b=true↔p):Value.bool b=Value.bool (decide p):=by rw[NN h]
def Dz {α:Type} (p:α→Bool):List α→Nat→Int
 |[],_=> -1
 |x::r,k=>if p x then k else Dz p r (k+1)
theorem Sv {α:Type}(p:α→Bool):∀(l:List α) (k:Nat),0≤Dz p l k↔l.any p=true
 |[],k=>by simp[Dz]
 |a::r,k=>by have:=Sv p r (k+1);by_cases h:p a;{simp[Dz,h]};{simp[Dz,h,this]}
def Lt {α:Type}(d:α){xs:List α}{k n:Nat}(b:xs.length=n)(a:k<n):xs.drop k=xs.getD k d::xs.drop (k+1):=by rw[LG J];simp[List.getD,Bw (show k<xs.length by omega)]
def BY {α:Type}(d:α){xs:List α}{k n:Nat}(b:xs.length=n)(a:k<n):xs.take (k+1)=xs.take k++[xs.getD k d]:=by rw[LF];simp[List.getD,Bw (show k<xs.length by omega)]
def Ce {α:Type}(d:α){xs:List α}{k:Nat}(a:k<xs.length):xs.getD k d∈xs:=by simp[List.getD,Bw a]
def Ao7 (h:U)(A:At)(n c:Nat)(l:AC)(hx:Ai AQ 1 h A n l)(hn:n≤9223372036854775807)(f:FuncId)(fs cs:Ao)(p:Int→Bool)(hh:BP prog f)
  (hf:∀x∈l,Aq prog f (fs++[Value.int .i64 x]++cs).toArray h (.bool (p x))) :
  Aq prog 116 #[.slice A n c,.func (.func f) fs.toArray cs.toArray] h (O (Dz p l 0)):=by
 refine AK func116 λ_ _=>?_
 have e:=hx.len
 repeat'(first|refine Aa ?_|fail)
 refine Bg (X:=Nat) (λk=>k≤n∧Dz p (l.drop k) k=Dz p l 0) (λk=>n-k) (λk=>[(8,O k),(7,O n),(0,.slice A n c),(1,.func (.func f) fs.toArray cs.toArray)]) (λ_=>[]) (λ_=>h) 0 ⟨J,rfl⟩ Af Ad rfl ?_
 rintro k ⟨i,a⟩ g
 by_cases b:k<n
 · have a1:=hx.addrD b
   have c1:=hx.cellsD 0 b
   have d:=Lt 0 e b
   have hv:=hf _ (Ce 0 (show k<l.length by omega))
   generalize l.getD k 0=x at *
   repeat'(first|refine Aa ?_|refine Z Bf ?_|refine Z BN ?_|(refine Ac ?_;first|(refine Qc ?_))|(refine Y ?_ ?_<;>intro hc<;>try omega)|refine Bm ?_|fail)
   · rw[←a,d,Dz,if_pos hc]
   · have h3:=g (k+1) ⟨J,by rw[←a,d,Dz,if_neg NS]⟩ J
     refine AB Af Ad h3
 · repeat'(first|refine Aa ?_|(refine Y ?_ ?_<;>intro hc<;>try omega)|refine Bm ?_|fail)
   rw[←a,show k=l.length by omega,Ok];rfl
def Yy (h:U)(A:At)(n c:Nat)(l:AC)(hx:Ai AQ 1 h A n l)(hn:n≤9223372036854775807)(f:FuncId)(fs cs:Ao)(p:Int→Bool)(hh:BP prog f)
  (hf:∀x∈l,Aq prog f (fs++[Value.int .i64 x]++cs).toArray h (.bool (p x))) :
  Aq prog 76 #[.slice A n c,.func (.func f) fs.toArray cs.toArray] h (.bool (l.any p)):=by
 refine AK func76 λ_ _=>?_
 repeat'(first|refine Aa ?_|(refine Ac ?_;first|(apply Aw;exact F;exact Ab func116;exact Ao7 _ _ _ _ _ hx hn f fs cs p hh hf))|refine Bm ?_|fail)
 rw[ON];congr 1;rw[Lj,decide_eq_true_eq];exact Sv _ _ _
def ZG (c:Jb):Value:=.agg (Fk c).toArray
def De:Jb:=⟨0,false⟩
def Ao9 (h:U)(A:At)(n c:Nat)(l:Fz)(hx:Ai Fk 2 h A n l)(hn:n≤9223372036854775807)(f:FuncId)(fs cs:Ao)(p:Jb→Bool)(hh:BP prog f)
  (hf:∀x∈l,Aq prog f (fs++[ZG x]++cs).toArray h (.bool (p x))) :
  Aq prog 324 #[.slice A n c,.func (.func f) fs.toArray cs.toArray] h (O (Dz p l 0)):=by
 refine AK func324 λ_ _=>?_
 have e:=hx.len
 repeat'(first|refine Aa ?_|fail)
 refine Bg (X:=Nat) (λk=>k≤n∧Dz p (l.drop k) k=Dz p l 0) (λk=>n-k) (λk=>[(8,O k),(7,O n),(0,.slice A n c),(1,.func (.func f) fs.toArray cs.toArray)]) (λ_=>[]) (λ_=>h) 0 ⟨J,rfl⟩ Af Ad rfl ?_
 rintro k ⟨i,a⟩ g
 by_cases b:k<n
 · have a1:=hx.addrD b
   have c1:=hx.cellsD De b
   have d:=Lt De e b
   have hv:=hf _ (Ce De (show k<l.length by omega))
   generalize l.getD k De=x at *
   repeat'(first|refine Aa ?_|refine Z Bf ?_|refine Z BN ?_|(refine Ac ?_;first|(refine Qc ?_))|(refine Y ?_ ?_<;>intro hc<;>try omega)|refine Bm ?_|fail)
   · rw[←a,d,Dz,if_pos hc]
   · have h3:=g (k+1) ⟨J,by rw[←a,d,Dz,if_neg NS]⟩ J
     refine AB Af Ad h3
 · repeat'(first|refine Aa ?_|(refine Y ?_ ?_<;>intro hc<;>try omega)|refine Bm ?_|fail)
   rw[←a,show k=l.length by omega,Ok];rfl
def Ar8 (h:U)(A:At)(n c:Nat)(l:Fz)(hx:Ai Fk 2 h A n l)(hn:n≤9223372036854775807)(f:FuncId)(fs cs:Ao)(p:Jb→Bool)(hh:BP prog f)
  (hf:∀x∈l,Aq prog f (fs++[ZG x]++cs).toArray h (.bool (p x))) :
  Aq prog 267 #[.slice A n c,.func (.func f) fs.toArray cs.toArray] h (.bool (l.any p)):=by
 refine AK func267 λ_ _=>?_
 repeat'(first|refine Aa ?_|(refine Ac ?_;first|(apply Aw;exact F;exact Ab func324;exact Ao9 _ _ _ _ _ hx hn f fs cs p hh hf))|refine Bm ?_|fail)
 rw[ON];congr 1;rw[Lj,decide_eq_true_eq];exact Sv _ _ _
def Ao3 (h:U)(A:At)(n c:Nat)(l:AC)(hx:Ai AQ 1 h A n l)(hn:n≤9223372036854775807)(v:Int) :
  Aq prog 269 #[.slice A n c,O v] h (O (Dz (λx=>decide (x=v)) l 0)):=by
 refine AK func269 λ_ _=>?_
 have e:=hx.len
 repeat'(first|refine Aa ?_|fail)
 refine Bg (X:=Nat) (λk=>k≤n∧Dz (λx=>decide (x=v)) (l.drop k) k=Dz (λx=>decide (x=v)) l 0) (λk=>n-k) (λk=>[(8,O k),(7,O n),(0,.slice A n c),(1,O v)]) (λ_=>[]) (λ_=>h) 0 ⟨J,rfl⟩ Af Ad rfl ?_
 rintro k ⟨g,a⟩ f
 by_cases b:k<n
 · have a1:=hx.addrD b
   have c1:=hx.cellsD 0 b
   have d:=Lt 0 e b
   generalize l.getD k 0=x at *
   repeat'(first|refine Aa ?_|refine Z Bf ?_|refine Z BN ?_|(refine Y ?_ ?_<;>intro hc<;>try omega)|refine Bm ?_|fail)
   all_goals first
    |(rw[←a,d,Dz,if_pos FC];done)
    |(
       have h3:=f (k+1) ⟨J,by rw[←a,d,Dz,if_neg FC]⟩ J
       refine AB Af Ad h3)
 · repeat'(first|refine Aa ?_|(refine Y ?_ ?_<;>intro hc<;>try omega)|refine Bm ?_|fail)
   rw[←a,show k=l.length by omega,Ok];rfl
def mB (h:U)(A:At)(n c:Nat)(l:AC)(hx:Ai AQ 1 h A n l)(hn:n≤9223372036854775807)(v:Int) :
  Aq prog 195 #[.slice A n c,O v] h (.bool (decide (v∈l))):=by
 refine AK func195 λ_ _=>?_
 repeat'(first|refine Aa ?_|(refine Ac ?_;first|(apply Aw;exact F;exact Ab func269;exact Ao3 _ _ _ _ _ hx hn _))|refine Bm ?_|fail)
 rw[ON];congr 1;rw[decide_eq_decide,Sv,Uy]
 constructor
 · rintro⟨x,hx,h2⟩;simp at h2;subst h2;exact hx
 · intro hh;exact⟨v,hh,An⟩
def Qm (h:U)(A:At)(n c:Nat)(l:AC)(hx:Ai AQ 1 h A n l)(hn:n≤9223372036854775807)(b:At)(m d:Nat)(r:AC)(hy:Ai AQ 1 h b m r)(hm:m≤9223372036854775807) :
  Aq prog 47 #[.slice A n c,.slice b m d] h (.bool (decide (l=r))):=by
 refine AK func47 λ_ _=>?_
 have g:=hx.len
 have i:=hy.len
 by_cases o:n=m
 · subst o
   repeat'(first|refine Aa ?_|(refine Y ?_ ?_<;>intro hc<;>try omega)|fail)
   · refine Bg (X:=Nat) (λk=>k≤n∧l.take k=r.take k) (λk=>n-k) (λk=>[(13,O k),(12,O n),(0,.slice A n c),(1,.slice b n d)]) (λ_=>[]) (λ_=>h) 0 ⟨J,rfl⟩ Af Ad rfl ?_
     rintro k ⟨t,e⟩ s
     by_cases a:k<n
     · have a1:=hx.addrD a
       have c1:=hx.cellsD 0 a
       have a2:=hy.addrD a
       have c2:=hy.cellsD 0 a
       have p:=BY 0 g a
       have q:=BY 0 i a
       have j:l.getD k 0≠r.getD k 0→l≠r:=λh1 h2=>h1 (by rw[h2])
       generalize l.getD k 0=u at *
       generalize r.getD k 0=v at *
       repeat'(first|refine Aa ?_|(apply AU (n:=6) 9 [0,1,2,3,4,5,6,7,8];kernel_rfl)|(apply Be;exact Bd;(first|exact Bf|exact RT|exact BN|exact KQ);exact AX)|(refine Y ?_ ?_<;>intro hc<;>try omega)|fail)
       · (first|(apply BS;(iterate 3 exact F)))
         rw[decide_eq_false (j J)]
       · have h3:=s (k+1) ⟨J,by have f:u=v:=J;rw[p,q,e,f]⟩ J
         refine AB Af Ad h3
     · repeat'(first|refine Aa ?_|(refine Y ?_ ?_<;>intro hc<;>try omega)|refine Bm ?_|fail)
       rw[By J,By J]at e
       rw[decide_eq_true e]
 · repeat'(first|refine Aa ?_|(refine Y ?_ ?_<;>intro hc<;>try omega)|refine Bm ?_|fail)
   rw[decide_eq_false];intro hh;subst hh;omega
def VZ (h:U)(A:At)(n c:Nat)(l:Fz)(hx:Ai Fk 2 h A n l)(hn:n≤9223372036854775807)(b:At)(m d:Nat)(r:Fz)(hy:Ai Fk 2 h b m r)(hm:m≤9223372036854775807) :
  Aq prog 144 #[.slice A n c,.slice b m d] h (.bool (decide (l=r))):=by
 refine AK func144 λ_ _=>?_
 have f:=hx.len
 have g:=hy.len
 by_cases j:n=m
 · subst j
   repeat'(first|refine Aa ?_|(refine Y ?_ ?_<;>intro hc<;>try omega)|fail)
   · refine Bg (X:=Nat) (λk=>k≤n∧l.take k=r.take k) (λk=>n-k) (λk=>[(13,O k),(12,O n),(0,.slice A n c),(1,.slice b n d)]) (λ_=>[]) (λ_=>h) 0 ⟨J,rfl⟩ Af Ad rfl ?_
     rintro k ⟨s,e⟩ q
     by_cases a:k<n
     · have a1:=hx.addrD a
       have c1:=hx.cellsD De a
       have a2:=hy.addrD a
       have c2:=hy.cellsD De a
       have o:=BY De f a
       have p:=BY De g a
       have i:l.getD k De≠r.getD k De→l≠r:=λh1 h2=>h1 (by rw[h2])
       generalize l.getD k De=u at *
       generalize r.getD k De=v at *
       obtain⟨t,w⟩:=u
       obtain⟨vp,vr⟩:=v
       repeat'(first|refine Aa ?_|(apply AU (n:=6) 9 [0,1,2,3,4,5,6,7,8];kernel_rfl)|(apply Be;exact Bd;(first|exact Bf|exact RT|exact BN|exact KQ|exact bR);exact AX)|(refine Y ?_ ?_<;>intro hc<;>try omega)|fail)
       · (first|(apply BS;(iterate 3 exact F)))
         rw[decide_eq_false (i cA)]
       · have h3:=q (k+1) ⟨J,by
          simp[FP]at hc
          rw[o,p,e,hc.1,hc.2]⟩ J
         refine AB Af Ad h3
     · repeat'(first|refine Aa ?_|(refine Y ?_ ?_<;>intro hc<;>try omega)|refine Bm ?_|fail)
       rw[By J,By J]at e
       rw[decide_eq_true e]
 · repeat'(first|refine Aa ?_|(refine Y ?_ ?_<;>intro hc<;>try omega)|refine Bm ?_|fail)
   rw[decide_eq_false];intro hh;subst hh;omega
end Go.Hw
set_option maxHeartbeats 4000000
namespace Go.Hw
open Go
attribute [local irreducible] AI Bz BV Aq AP Az Au CH Ap Ar BG Cm BP
open Go.Proofs.Tryz
def Auh (h:U)(b:Nat)(g:FuncId)(p:Int→Bool)(hg:BP prog g)(hv:∀h x,Aq prog g #[O x] h (.bool (p x)))(hc:Au h (Av b) [.func (.func g) #[] #[]])(x:Int) :
  Aq prog 266 #[O x,AD b] h (.bool (!p x)):=by
 refine AK func266 λ_ _=>?_
 repeat'(first|refine Aa ?_|refine Z Cb ?_|(refine Ac ?_;first|(apply Hb (f:=g) (fs:=[]) (cs:=[]);exact F;exact F;exact hg;exact hv _ _))|refine Bm ?_|fail)
 all_goals rfl
def ZJ (h:U)(A:At)(n c:Nat)(xs:AC)(hx:Ai AQ 1 h A n xs)(hn:n≤9223372036854775807)(lo hi:Int)(g:FuncId)(p:Int→Bool)(hg:BP prog g)(hv:∀h x,Aq prog g #[O x] h (.bool (p x))) :
  Aq prog 188 #[.slice A n c,O lo,O hi,.func (.func g) #[] #[]] h (.bool (decide (lo≤(xs.length:Int)∧(xs.length:Int)≤hi∧∀x∈xs,p x=true))):=by
 refine AK func188 λ_ _=>?_
 have e:=hx.len
 repeat'(first|refine Aa ?_|(refine Aj ?_;intro b)|(refine Ac ?_;first|(refine Gt Bh ?_;intro h1 d a;apply Aw;exact F;exact Ab func76;exact Yy h1 _ _ _ xs (hx.le d) hn 266 [] [AD _] (λx=> !p x) (Ab func266) (λx _=>Auh h1 _ g p hg hv a x)))|refine AF ?_|(refine AG ?_ ?_<;>intro hc<;>try omega)|refine Bm ?_|fail)
 all_goals(subst e;simp only[aQ])
 · rw[Lj];simp only[IE,Sr,decide_eq_true_eq,YR,hF]
   constructor
   · intro h2;exact⟨J,J,λx hx=>by simpa using h2 x hx⟩
   · intro h2 x hx;simpa using h2.2.2 x hx
 all_goals(symm;rw[decide_eq_false_iff_not];rintro⟨h1,h2,_⟩;omega)
def Atm (h:U)(b:Nat)(A:At)(n c:Nat)(a:AC)(hx:Ai AQ 1 h A n a)(hn:n≤9223372036854775807)(hc:Au h (Av b) [.slice A n c])(x:Jb) :
  Aq prog 268 #[ZG x,AD b] h (.bool (!decide (x.p∈a))):=by
 refine AK func268 λ_ _=>?_
 repeat'(first|refine Aa ?_|refine Z Cb ?_|(refine Aj ?_;intro b)|(refine Ac ?_;first|(apply Aw;exact F;exact Ab func195;exact mB _ _ _ _ _ hx hn _))|refine Bm ?_|fail)
 all_goals rfl
open Classical in
theorem oJ (h:U)(A:At)(n c:Nat)(l:Fz)(hx:Ai Fk 2 h A n l)(hn:n≤9223372036854775807)(e:At)(m d:Nat)(a:AC)(hy:Ai AQ 1 h e m a)(hm:m≤9223372036854775807) :
  Aq prog 193 #[.slice A n c,.slice e m d] h (.bool (decide (Rp l a))):=by
 refine AK func193 λ_ _=>?_
 have i:=hx.len
 repeat'(first|refine Aa ?_|(refine Aj ?_;intro b)|(refine Ac ?_;first|(refine Gt Bh ?_;intro h1 f g;apply Aw;exact F;exact Ab func267;exact Ar8 h1 _ _ _ l (hx.le f) hn 268 [] [AD _] (λx=> !decide (x.p∈a)) (Ab func268) (λx _=>Atm h1 _ _ _ _ a (hy.le f) hm g x)))|refine AF ?_|(refine AG ?_ ?_<;>intro hc<;>try omega)|refine Bm ?_|fail)
 all_goals(subst i;simp only[aQ])
 · refine NN ?_
   simp only[IE,Sr,YR,hF,decide_eq_true_eq]
   exact⟨λh2=>⟨J,λx hx=>by simpa using h2 x hx⟩,λh2 x hx=>by simpa using h2.2 x hx⟩
 all_goals(symm;rw[decide_eq_false_iff_not];rintro⟨h1,_⟩;omega)
def Lq (c:UInt8):Prop:=(97≤c.toNat∧c.toNat≤122)∨(48≤c.toNat∧c.toNat≤57)∨c.toNat=95
def Nm (s:Bj):NL s↔1≤s.length∧s.length≤24∧(97≤(s.getD 0 0).toNat∧(s.getD 0 0).toNat≤122)∧∀c∈s,Lq c:=by unfold NL Lq;cases s with|nil=>simp|cons a r=>simp
open Classical in
theorem Amn (h:U)(s:Bj)(hs:s.length≤9223372036854775807):Aq prog 190 #[.string (Cj s)] h (.bool (decide (NL s))):=by
 refine AK func190 λ_ _=>?_;have g:=RJ s;by_cases h0:s.length=0;{(repeat'(first|refine Aa ?_|(refine Y ?_ ?_<;>intro hc<;>try omega)|refine AF ?_|(refine AG ?_ ?_<;>intro hc<;>try omega)|fail));(all_goals(try(exfalso;rw[g]at *;omega)));(first|(apply BS;(iterate 3 exact F)));rw[decide_eq_false];rw[Nm];intro hh;omega};by_cases h1:24<s.length;{(repeat'(first|refine Aa ?_|(refine Y ?_ ?_<;>intro hc<;>try omega)|refine AF ?_|(refine AG ?_ ?_<;>intro hc<;>try omega)|fail));(all_goals(try(exfalso;rw[g]at *;omega)));(first|(apply BS;(iterate 3 exact F)));rw[decide_eq_false];rw[Nm];intro hh;omega};(repeat'(first|refine Aa ?_|(refine Z (by apply hN (s:=s) (j:=0);(iterate 5 exact F);omega) ?_)|(refine Y ?_ ?_<;>intro hc<;>try omega)|refine AF ?_|(refine AG ?_ ?_<;>intro hc<;>try omega)|fail));{(first|(apply BS;(iterate 3 exact F)));rw[decide_eq_false];rw[Nm];intro hh;omega};{(first|(apply BS;(iterate 3 exact F)));rw[decide_eq_false];rw[Nm];intro hh;omega}
 ·have hw:=Nm s;(repeat'(first|refine Aa ?_|(refine Ac ?_;first|(apply Adw;(iterate 6 exact F);omega;intro i c1 h1 o hs1))|fail));refine Bg (X:=Nat) (λk=>k≤s.length∧∀c∈s.take k,Lq c) (λk=>s.length-k) (λk=>[(26,O k),(25,O s.length),(24,.slice i s.length c1)]) (λ_=>[]) (λ_=>h1) 0 ⟨J,An⟩ Af Ad rfl ?_;rintro k ⟨n,d⟩ m;by_cases b:k<s.length
  ·have a1:=hs1.addrD b;have cc:=hs1.cellsD 0 b;have l:=BY 0 rfl b;have hm:=Ce 0 b;generalize s.getD k 0=u at *;have e:¬Lq u→¬NL s:=λh3 a=>h3 ((hw.1 a).2.2.2 u hm)
   have f:Lq u→∀c∈s.take (k+1),Lq c:=λh3 c a=>by
    rw[l,AO,Bk]at a;rcases a with a|a;{exact d c a};{rw[a];exact h3}
   unfold Lq at e f;(repeat'(first|refine Aa ?_|refine Z Bf ?_|refine Z HG ?_|(refine Y ?_ ?_<;>intro hc<;>try omega)|refine AF ?_|(refine AG ?_ ?_<;>intro hc<;>try omega)|fail))
   all_goals first
    |((first|(apply BS;(iterate 3 exact F)));rw[decide_eq_false];apply e;omega)
    |(
       have h3:=m (k+1) ⟨J,f J⟩ J
       refine AB Af Ad h3)
  {(repeat'(first|refine Aa ?_|(refine Y ?_ ?_<;>intro hc<;>try omega)|refine Bm ?_|fail));rw[By J]at d;rw[decide_eq_true];exact hw.2 ⟨J,J,⟨J,J⟩,d⟩}
open Classical in
theorem vU (h:U)(A:At)(n c:Nat)(xs:AC)(hx:Ai AQ 1 h A n xs)(hn:n≤9223372036854775807) :
  Aq prog 191 #[.slice A n c] h (.bool (decide (Oc xs))):=by
 refine AK func191 λ_ _=>?_
 repeat'(first|refine Aa ?_|(refine Ac ?_;first|(apply Aw;exact F;exact Ab func188;exact ZJ _ _ _ _ xs hx hn 0 40 137 (λx=>decide (AY x 8192)) (Ab func137) (λh x=>iC h x))|(apply Aw;exact F;exact Ab func189;exact lG _ _ _ _ xs hx hn))|refine AF ?_|(refine AG ?_ ?_<;>intro hc<;>try omega)|refine Bm ?_|fail)
 all_goals(refine Cv ?_;unfold Oc;(try simp only[decide_eq_true_eq]at *);grind)
def Ai6 (h:U)(b:Nat)(s:AA)(x:DV)(hx:Ai AQ 1 h s.asn.A s.asn.n x.asn)(hn:s.asn.n≤9223372036854775807)(hc:Au h (Av b) (LZ s x))(p:Int) :
  Aq prog 194 #[O p,AD b] h (.bool (decide (p∈x.asn))):=by
 refine AK func194 λ_ _=>?_
 repeat'(first|refine Aa ?_|refine Z Cb ?_|(refine Ac ?_;first|(apply Aw;exact F;exact Ab func195;exact mB _ _ _ _ _ hx hn _))|refine Bm ?_|fail)
 all_goals rfl
def Ef.small {h:U}{s:AA}{x:DV}(a:Ef h s x)(b:Gg x):s.hs.n≤9223372036854775807∧s.asn.n≤9223372036854775807∧s.hc.n≤9223372036854775807∧s.ac.n≤9223372036854775807:=by have h1:=a.hs.len;have h2:=a.asn.len;have h3:=a.hc.len;have d:=a.ac.len;obtain⟨b1,b2,b3,c⟩:=b;omega
def Aue {l r:AC}:(!(l.any λp=>decide (p∈r)))=true↔∀p∈l,p∉r:=by simp
open Classical in
theorem Ai5 (h:U)(s:AA)(x:DV)(hx:Ef h s x)(hs:Gg x):Aq prog 129 #[KV s x] h (.bool (decide (GZ x))):=by refine AK func129 λ_ _=>?_;obtain⟨d,e,n3,g⟩:=hx.small hs;(repeat'(first|refine Aa ?_|(refine Aj ?_;intro b)|(refine Ac ?_;first|(apply Hb (f:=191) (fs:=[]) (cs:=[]);exact F;exact F;exact Ab func191;first|exact vU _ _ _ _ x.hs (hx.hs.le Ag) J|exact vU _ _ _ _ x.asn (hx.asn.le Ag) J)|(apply Aw;exact F;exact Ab func193;first|exact oJ _ _ _ _ x.hc (hx.hc.le Ag) J _ _ _ x.hs (hx.hs.le Ag) J|exact oJ _ _ _ _ x.ac (hx.ac.le Ag) J _ _ _ x.asn (hx.asn.le Ag) J)|(refine Gt Bh ?_;intro h1 a c;apply Aw;exact F;exact Ab func76;exact Yy h1 _ _ _ x.hs (hx.hs.le a) J 194 [] [AD _] (λp=>decide (p∈x.asn)) (Ab func194) (λp _=>Ai6 h1 _ s x (hx.asn.le a) J c p))|(apply Aw;exact F;exact Ab func84;exact Va _ _)|(refine Qb ?_)|(apply Aw;exact F;exact Ab func192;exact vO _ _))|refine AF ?_|(refine AG ?_ ?_<;>intro hc<;>try omega)|fail));(all_goals(first|(apply BS;(iterate 3 exact F))));(all_goals(clear hx hs d e n3 g;refine Cv ?_;try rw[Aue]));all_goals(unfold GZ;grind)
def mJ (xs:AC)(lo hi:Int):(decide (lo≤(xs.length:Int)∧(xs.length:Int)≤hi∧∀x∈xs,(λx=>decide (AY x 192)) x=true))=decide (lo≤(xs.length:Int)∧(xs.length:Int)≤hi∧∀x∈xs,AY x 192):=by rw[decide_eq_decide];simp
open Classical in
theorem Ayd (h:U)(s:AA)(x:Al)(hx:Ai AQ 1 h s.cl.A s.cl.n x.eClubs)(hn:s.cl.n≤9223372036854775807)(hr:x.eRules.length≤9223372036854775807):Aq prog 123 #[Py s x] h (.bool (decide (SB x))):=by refine AK func123 λ_ _=>?_;have a:=hx.len;(repeat'(first|refine Aa ?_|(refine Aj ?_;intro b)|(refine Ac ?_;first|(apply Aw;exact F;exact Ab func188;exact mJ _ _ _▸ZJ _ _ _ _ x.eClubs hx hn 2 24 120 (λx=>decide (AY x 192)) (Ab func120) (λh x=>dJ h x))|(apply Aw;exact F;exact Ab func189;exact lG _ _ _ _ x.eClubs hx hn)|(apply Aw;exact F;exact Ab func190;exact Amn _ x.eRules hr)|(refine WW ?_))|refine AF ?_|(refine AG ?_ ?_<;>intro hc<;>try omega)|fail));(all_goals(first|(apply BS;(iterate 3 exact F))));(all_goals(clear hx hn hr;refine Cv ?_));(all_goals(try rw[Li,show(⟨#[]⟩:ByteArray).toList=[]from Li [],beq_iff_eq]));all_goals(unfold SB;grind)
def LJ:Gw prog 3 (λi:Int=>O i):=by obtain⟨D,h1,h2⟩:=It.und (show AM 3 _=some _ from rfl);exact Gw.int (by rw[h1,Nk h2])
def IJ (l:AC):PL:=l.foldl (λm x=>Dk x true m) []
def vB (l:AC)(x:Int):IJ (l++[x])=Dk x true (IJ l):=by simp[IJ,GL]
theorem fW {x:Int}:∀(m:PL),(Dk x true m).length=if x∈m.map (·.1)then m.length else m.length+1
 |[]=>by simp[Dk]
 |(y,b)::r=>by have a:=fW (x:=x) r;by_cases h:y=x;{subst h;simp[Dk]};{simp only[Dk,if_neg h,Do,a,CW,Bx,show¬x=y fromλe=>h e.symm,false_or];split<;>rfl}
theorem yY {x:Int}:∀(m:PL) (z:Int),z∈(Dk x true m).map (·.1)↔z=x∨z∈m.map (·.1)
 |[],z=>by simp[Dk]
 |(y,b)::r,z=>by have a:=yY (x:=x) r z;by_cases h:y=x;{subst h;simp[Dk]};{simp only[Dk,if_neg h,CW,Bx,a];constructor;{rintro(h1|h1|h1);{exact .inr (.inl h1)};{exact .inl h1};{exact .inr (.inr h1)}};{rintro(h1|h1|h1);{exact .inr (.inl h1)};{exact .inl h1};{exact .inr (.inr h1)}}}
def Amr (l:AC):(∀z,z∈(IJ l).map (·.1)↔z∈l)∧(IJ l).length≤l.length∧((IJ l).length=l.length↔l.Nodup):=by(have key:∀n,n≤l.length→(∀z,z∈(IJ (l.take n)).map (·.1)↔z∈l.take n)∧(IJ (l.take n)).length≤n∧((IJ (l.take n)).length=n↔(l.take n).Nodup):=by{intro n;induction n with|zero=>intro _;simp[IJ]|succ n g=>intro hn;obtain⟨h1,h2,h3⟩:=g J;have f:=BY 0 (xs:=l) rfl (show n<l.length by omega);(have i:(l.take n).length=n:=by rw[CF];omega);rw[f,vB];generalize l.getD n 0=x at *;refine⟨λz=>?_,?_,?_⟩;{rw[yY,h1,AO,Bk];exact Or.comm};{rw[fW];split<;>omega};{rw[fW,Fm];simp only[h1];split;{rename_i hx;constructor;{intro h;omega};{rintro⟨_,_,h⟩;exact absurd rfl (h x hx x An)}};{rename_i hx;rw[show(IJ (l.take n)).length+1=n+1↔(IJ (l.take n)).length=n from by omega,h3];constructor;{intro h;refine⟨h,An,λa d b c=>?_⟩;rw[Bk]at c;subst c;intro e;subst e;exact hx d};{exactλh=>h.1}}}});have:=key l.length (BU _);rwa [Ye]at this
open Classical in
theorem Anb (h:U)(s:AA)(x:Al)(hx:Ai AQ 1 h s.lo.A s.lo.n x.lO)(hn:s.lo.n≤9223372036854775807):Aq prog 140 #[Vz s x] h (.bool (decide (Si x))):=by refine AK func140 λ_ _=>?_;have e:=hx.len;(repeat'(first|refine Aa ?_|(refine Aj ?_;intro b)|(refine Ac ?_;first|(apply Nn (λi:Int=>O i) Value.bool;intro bm))|fail));generalize b=c;refine Bg (X:=Nat) (λk=>k≤s.lo.n) (λk=>s.lo.n-k) (λk=>[(10,O k),(9,O s.lo.n),(8,.slice s.lo.A s.lo.n s.lo.c),(3,.map (some bm)),(1,AD c)]) (λk=>[BG (λi:Int=>O i) Value.bool bm (IJ (x.lO.take k)),Ap c 67 (BX (Vz s x))]) (λ_=>h) 0 J Af Ad rfl ?_;rintro k j d;by_cases a:k<s.lo.n;{have a1:=hx.addrD a;have c1:=hx.cellsD 0 a;(have f:IJ (x.lO.take (k+1))=Dk (x.lO.getD k 0) true (IJ (x.lO.take k)):=by rw[BY 0 e a,vB]);generalize x.lO.getD k 0=u at *;(repeat'(first|refine Aa ?_|refine Z Bf ?_|refine Z BN ?_|(refine Ac ?_;first|(apply Nq (ek:=λi:Int=>O i) (ev:=Value.bool) (b:=bm) (m:=IJ (x.lO.take k)) (key:=u) (u:=true) LJ;(iterate 6 exact F);rw[←f];exact Bp))|(refine Y ?_ ?_<;>intro hc<;>try omega)|fail));have h3:=d (k+1) J J;refine AB Af Ad h3};{rw[By J];clear d;have hm:=Amr x.lO;generalize IJ x.lO=g at *;(repeat'(first|refine Aa ?_|(refine Z (by apply Aw5 (ek:=λi:Int=>O i) (ev:=Value.bool) (b:=bm) (m:=g);(iterate 3 exact F)) ?_)|(refine Ac ?_;first|(apply Aw;exact F;exact Ab func188;exact mJ _ _ _▸ZJ _ _ _ _ x.lO hx hn 2 24 120 (λx=>decide (AY x 192)) (Ab func120) (λh x=>dJ h x))|(refine WW ?_))|(refine Y ?_ ?_<;>intro hc<;>try omega)|refine AF ?_|(refine AG ?_ ?_<;>intro hc<;>try omega)|fail));(all_goals(first|(apply BS;(iterate 3 exact F))));(all_goals(refine Cv ?_;unfold Si;try rw[Fb]));all_goals(clear hx;grind)}
def VG (g:AL) (v:Int):Ao:=[O g.s,O g.c,O g.h,O g.a,O v]
def VN (x:Al):Ao:=[O x.aCase,O x.aInst,.bool x.aSusp]
def Vt (x:Al):Ao:=[O x.mP,O x.mTo]
def gQ {a b:AL}:a=b↔a.s=b.s∧a.c=b.c∧a.h=b.h∧a.a=b.a:=by cases a;cases b;simp
def Ajt {a b:Cu}:a=b↔a.case=b.case∧a.inst=b.inst∧a.kind=b.kind∧a.g=b.g∧a.club=b.club∧a.player=b.player∧a.season=b.season∧a.comp=b.comp∧a.points=b.points∧a.amount=b.amount∧a.hg=b.hg∧a.ag=b.ag∧a.lo=b.lo∧a.hi=b.hi:=by cases a;cases b;simp
def Aa4 {a b:DV}:a=b↔a.g=b.g∧a.ref=b.ref∧a.hg=b.hg∧a.ag=b.ag∧a.hp=b.hp∧a.ap=b.ap∧a.hs=b.hs∧a.asn=b.asn∧a.hc=b.hc∧a.ac=b.ac:=by cases a;cases b;simp
def lM {a b:Al}:a=b↔a.kind=b.kind∧a.day=b.day∧a.known=b.known∧(a.fg=b.fg∧a.venue=b.venue)∧a.ru=b.ru∧(a.aCase=b.aCase∧a.aInst=b.aInst∧a.aSusp=b.aSusp)∧(a.mP=b.mP∧a.mTo=b.mTo)∧a.void=b.void∧
  a.eS=b.eS∧a.eC=b.eC∧a.eRules=b.eRules∧a.eClubs=b.eClubs∧a.lS=b.lS∧a.lC=b.lC∧a.lO=b.lO∧a.sh=b.sh:=by
 cases a;cases b;simp;grind
def MZ (a b:AL):HU ts 10 36 (.agg (CG a).toArray) (.agg (CG b).toArray)=some (decide (a=b)):=by have e:HU ts 10 36 (.agg (CG a).toArray) (.agg (CG b).toArray)=some (DZ a.s b.s&&(DZ a.c b.c&&(DZ a.h b.h&&(DZ a.a b.a&&true)))):=rfl;rw[e];congr 1;refine NN ?_;rw[gQ];simp only[Hq,Fb,and_true]
def lJ (a b:AL)(u v:Int):HU ts 10 54 (.agg (VG a u).toArray) (.agg (VG b v).toArray)=some (decide (a=b∧u=v)):=by have e:HU ts 10 54 (.agg (VG a u).toArray) (.agg (VG b v).toArray)=some ((DZ a.s b.s&&(DZ a.c b.c&&(DZ a.h b.h&&(DZ a.a b.a&&true))))&&(DZ u v&&true)):=rfl;rw[e];congr 1;refine NN ?_;rw[gQ];simp only[Hq,Fb,and_true]
def LY (a b:Cu):HU ts 10 61 (.agg (DH a).toArray) (.agg (DH b).toArray)=some (decide (a=b)):=by have e:HU ts 10 61 (.agg (DH a).toArray) (.agg (DH b).toArray)=some (DZ a.case b.case&&(DZ a.inst b.inst&&(DZ a.kind b.kind&&((DZ a.g.s b.g.s&&(DZ a.g.c b.g.c&&(DZ a.g.h b.g.h&&(DZ a.g.a b.g.a&&true))))&&(DZ a.club b.club&&(DZ a.player b.player&&(DZ a.season b.season&&(DZ a.comp b.comp&&(DZ a.points b.points&&(DZ a.amount b.amount&&(DZ a.hg b.hg&&(DZ a.ag b.ag&&((DZ a.lo b.lo&&(DZ a.hi b.hi&&true))&&true))))))))))))):=rfl;rw[e];congr 1;refine NN ?_;rw[Ajt,gQ];simp only[Hq,Fb,and_true]
def mF (a b:Al):HU ts 10 63 (.agg (VN a).toArray) (.agg (VN b).toArray)=some (decide (a.aCase=b.aCase∧a.aInst=b.aInst∧a.aSusp=b.aSusp)):=by have e:HU ts 10 63 (.agg (VN a).toArray) (.agg (VN b).toArray)=some (DZ a.aCase b.aCase&&(DZ a.aInst b.aInst&&((a.aSusp==b.aSusp)&&true))):=rfl;rw[e];congr 1;refine NN ?_;simp only[Hq,Fb,and_true,beq_iff_eq]
def jX (a b:Al):HU ts 10 65 (.agg (Vt a).toArray) (.agg (Vt b).toArray)=some (decide (a.mP=b.mP∧a.mTo=b.mTo)):=by have e:HU ts 10 65 (.agg (Vt a).toArray) (.agg (Vt b).toArray)=some (DZ a.mP b.mP&&(DZ a.mTo b.mTo&&true)):=rfl;rw[e];congr 1;refine NN ?_;simp only[Hq,Fb,and_true]
def Td (a b:Bj):BD→Bool
 |[]=>true
 |i::r=>DZ ((a.getD i 0).toNat:Int) ((b.getD i 0).toNat:Int)&&Td a b r
theorem oX (a b:Bj):∀l,Td a b l=true↔∀i∈l,a.getD i 0=b.getD i 0
 |[]=>by simp[Td]
 |i::r=>by rw[Td,Hq,Fb,oX a b r,FV];refine and_congr ⟨λh=>?_,λh=>by rw[h]⟩ Yu;exact nN.1 J
def iO (a b:Bj)(c:a.length=32)(d:b.length=32):IK ts 10 69 (.agg (PE a).toArray) (.agg (PE b).toArray)=some (decide (a=b)):=by have e:IK ts 10 69 (.agg (PE a).toArray) (.agg (PE b).toArray)=some (Td a b (List.range 32)):=rfl;rw[e];congr 1;refine NN ?_;rw[oX];constructor;{intro h;refine List.ext_getElem J λi h1 h2=>?_;have:=h i (by rw[JY];omega);simpa[List.getD,Bw h1,Bw h2]using this};{rintro rfl i _;rfl}
def Cr.small {h:U}{s:AA}{x:Al}(a:Cr h s x)(b:Eu x):s.hs.n≤9223372036854775807∧s.asn.n≤9223372036854775807∧s.hc.n≤9223372036854775807∧s.ac.n≤9223372036854775807∧s.cl.n≤9223372036854775807∧s.lo.n≤9223372036854775807:=by have h1:=a.sh.hs.len;have h2:=a.sh.asn.len;have h3:=a.sh.hc.len;have e:=a.sh.ac.len;have f:=a.cl.len;have g:=a.lo.len;obtain⟨⟨b1,b2,b3,c⟩,d,b6,b7⟩:=b;omega
def Ajh (h:U)(s:AA)(x:Al)(hx:Cr h s x)(a:Eu x)(t:AA)(y:Al)(hy:Cr h t y)(c:Eu y):Aq prog 88 #[BW s x,BW t y] h (.bool (decide (x=y))):=by refine AK func88 λ_ _=>?_;obtain⟨k,l,n3,m,o,n6⟩:=hx.small a;obtain⟨d,e,f,g,i,j⟩:=hy.small c;(repeat'(first|refine AH ?_|(refine Z (by apply Ld;exact F;exact F;(first|exact MZ _ _|exact lJ _ _ _ _|exact LY _ _|exact mF x y|exact jX x y);kernel_rfl;kernel_rfl) ?_)|(refine Z (by apply Aw8;exact F;exact F;exact iO x.void y.void hx.void hy.void;kernel_rfl;kernel_rfl) ?_)|(refine Aj ?_;intro b)|(refine Ac ?_;first|(apply Aw;exact F;exact Ab func47;first|exact Qm _ _ _ _ x.eClubs (hx.cl.le Ag) J _ _ _ y.eClubs (hy.cl.le Ag) J|exact Qm _ _ _ _ x.lO (hx.lo.le Ag) J _ _ _ y.lO (hy.lo.le Ag) J|exact Qm _ _ _ _ x.sh.hs (hx.sh.hs.le Ag) J _ _ _ y.sh.hs (hy.sh.hs.le Ag) J|exact Qm _ _ _ _ x.sh.asn (hx.sh.asn.le Ag) J _ _ _ y.sh.asn (hy.sh.asn.le Ag) J)|(apply Aw;exact F;exact Ab func144;first|exact VZ _ _ _ _ x.sh.hc (hx.sh.hc.le Ag) J _ _ _ y.sh.hc (hy.sh.hc.le Ag) J|exact VZ _ _ _ _ x.sh.ac (hx.sh.ac.le Ag) J _ _ _ y.sh.ac (hy.sh.ac.le Ag) J))|(apply Da (n:=1) [0,1,4,5,6,2,3,7] [(0,0),(1,0),(2,0),(3,0),(4,2),(3,5),(5,1),(6,1),(7,1),(4,1),(6,1),(7,1)];kernel_rfl)|(apply GQ;kernel_rfl;exact F;exact F)|refine AF ?_|(refine AG ?_ ?_<;>intro hc<;>try omega)|fail));(all_goals(first|(apply BS;(iterate 3 exact F))));(all_goals(clear hx a hy c;refine Cv ?_;(try simp only[Li,beq_iff_eq]at *)));all_goals(rw[lM,Aa4];grind)
instance (a b:Int):Decidable (IT a b):=by unfold IT;infer_instance
def jO {p:Prop}[Decidable p]{e:Int}(a:e≠0):DZ (if p then 0 else e) 0=decide p:=by rw[FP,decide_eq_decide];split<;>simp_all
def kZ (a b:Int):Ao:=[O a,O b]
def Ae7 (h:U)(n:Int):Aq prog 325 #[O n] h (.bool (decide (0≤n∧n≤1048576))):=by refine AK func325 λ_ _=>?_;(repeat'(first|refine Aa ?_|refine AF ?_|(refine AG ?_ ?_<;>intro hc<;>try omega)|refine Bm ?_|fail));all_goals(refine Cv ?_;(try rw[GV]);grind)
def Att (h:U)(a b:Int):Aq prog 272 #[.agg (kZ a b).toArray] h (O (if IT a b then 0 else 10)):=by refine AK func272 λ_ _=>?_;(repeat'(first|refine Aa ?_|(refine Aj ?_;intro b)|(refine Ac ?_;first|(apply Aw;exact F;exact Ab func325;exact Ae7 _ _))|(refine Y ?_ ?_<;>intro hc<;>try omega)|refine AF ?_|(refine AG ?_ ?_<;>intro hc<;>try omega)|refine Bm ?_|fail));all_goals(first|(rw[if_pos (show IT _ _ from by unfold IT;omega)];done)|(rw[if_neg (show¬IT _ _ from by unfold IT;omega)];done))
def Zf (h:U)(r:Cu):Aq prog 270 #[Ew r] h (.bool (decide (DL r.g))):=by refine AK func270 λ_ _=>?_;(repeat'(first|refine Aa ?_|(refine Aj ?_;intro b)|(refine Ac ?_;first|(apply Aw;exact F;exact Ab func84;exact Va _ r.g))|refine Bm ?_|fail));all_goals(rw[jO BO])
def jF (h:U)(r:Cu):Aq prog 271 #[Ew r] h (.bool (decide (IT r.lo r.hi))):=by refine AK func271 λ_ _=>?_;(repeat'(first|refine Aa ?_|(refine Aj ?_;intro b)|(refine Ac ?_;first|(apply Aw;exact F;exact Ab func272;exact Att _ r.lo r.hi))|refine Bm ?_|fail));all_goals(rw[jO BO])
def Qv (h:U) (b:Nat):Prop:=Au h (Av b) [.func (.func 270) #[] #[]]
def Qr (h:U) (b:Nat):Prop:=Au h (Av b) [.func (.func 271) #[] #[]]
def Aka (h:U)(b:Nat)(a:Qv h b)(r:Cu):Aq prog 273 #[Ew r,AD b] h (.bool (decide (DL r.g∧(r.club=r.g.h∨r.club=r.g.a)))):=by refine AK func273 λ_ _=>?_;unfold Qv at a;(repeat'(first|refine Aa ?_|refine Z Cb ?_|(refine Aj ?_;intro b)|(refine Ac ?_;first|(apply Hb (f:=270) (fs:=[]) (cs:=[]);exact F;exact F;exact Ab func270;exact Zf _ r))|refine AF ?_|(refine AG ?_ ?_<;>intro hc<;>try omega)|refine Bm ?_|fail));all_goals(refine Cv ?_;(try rw[Fb]);grind)
def Aj7 (h:U)(b:Nat)(a:Qv h b)(r:Cu):Aq prog 276 #[Ew r,AD b] h (.bool (decide (DL r.g∧AY r.hg 100∧AY r.ag 100))):=by refine AK func276 λ_ _=>?_;unfold Qv at a;(repeat'(first|refine Aa ?_|refine Z Cb ?_|(refine Aj ?_;intro b)|(refine Ac ?_;first|(apply Hb (f:=270) (fs:=[]) (cs:=[]);exact F;exact F;exact Ab func270;exact Zf _ r)|(apply Aw;exact F;exact Ab func192;exact vO _ _))|refine AF ?_|(refine AG ?_ ?_<;>intro hc<;>try omega)|refine Bm ?_|fail));all_goals(refine Cv ?_;grind)
def Aj5 (h:U)(r:Cu):Aq prog 278 #[Ew r] h (.bool (decide (AY r.club 192∧AY r.season 64∧AY r.comp 16∧1≤r.points∧r.points≤99))):=by refine AK func278 λ_ _=>?_;(repeat'(first|refine Aa ?_|(refine Aj ?_;intro b)|(refine Ac ?_;first|(refine TP ?_)|(refine WW ?_))|refine AF ?_|(refine AG ?_ ?_<;>intro hc<;>try omega)|refine Bm ?_|fail));all_goals(refine Cv ?_;(try rw[GV]);grind)
def Aki (h:U)(b:Nat)(a:Qr h b)(r:Cu):Aq prog 280 #[Ew r,AD b] h (.bool (decide (AY r.club 192∧IT r.lo r.hi))):=by refine AK func280 λ_ _=>?_;unfold Qr at a;(repeat'(first|refine Aa ?_|refine Z Cb ?_|(refine Aj ?_;intro b)|(refine Ac ?_;first|(apply Hb (f:=271) (fs:=[]) (cs:=[]);exact F;exact F;exact Ab func271;exact jF _ r)|(refine TP ?_))|refine AF ?_|(refine AG ?_ ?_<;>intro hc<;>try omega)|refine Bm ?_|fail));all_goals(refine Cv ?_;grind)
def Akg (h:U)(b:Nat)(a:Qr h b)(r:Cu):Aq prog 282 #[Ew r,AD b] h (.bool (decide (AY r.player 8192∧IT r.lo r.hi))):=by refine AK func282 λ_ _=>?_;unfold Qr at a;(repeat'(first|refine Aa ?_|refine Z Cb ?_|(refine Aj ?_;intro b)|(refine Ac ?_;first|(apply Hb (f:=271) (fs:=[]) (cs:=[]);exact F;exact F;exact Ab func271;exact jF _ r)|(apply Aw;exact F;exact Ab func137;exact iC _ _))|refine AF ?_|(refine AG ?_ ?_<;>intro hc<;>try omega)|refine Bm ?_|fail));all_goals(refine Cv ?_;grind)
def Ake (h:U)(r:Cu):Aq prog 284 #[Ew r] h (.bool (decide (AY r.club 192∧1≤r.amount∧r.amount≤1125899906842624))):=by refine AK func284 λ_ _=>?_;(repeat'(first|refine Aa ?_|(refine Aj ?_;intro b)|(refine Ac ?_;first|(refine TP ?_))|refine AF ?_|(refine AG ?_ ?_<;>intro hc<;>try omega)|refine Bm ?_|fail));all_goals(refine Cv ?_;(try rw[GV]);grind)
def Akc (h:U)(r:Cu):Aq prog 286 #[Ew r] h (.bool true):=by refine AK func286 λ_ _=>?_;(repeat'(first|refine Aa ?_|(refine Aj ?_;intro b)|refine Bm ?_|fail));all_goals rfl
def HL (b T:Nat) (cs:Ao):Value→Am→U→Prop:=λv Es _=>v=.tuple #[]∧Es=[Ap b T cs]
def Aj9 (h:U)(a:Nat)(r x:Cu):AP prog 274 #[Ew r,AD a] [Ap a 61 (DH x)] h (HL a 61 (DH {x with g:=r.g,club:=r.club})):=by refine Cx func274 λ_ _=>?_;(repeat'(first|refine Ba ?_|(refine Aj ?_;intro b)|(apply Da (n:=1) [0,2,3,6,7,8,1,4,5,9,10,11] [(0,0),(1,0),(2,0),(3,0),(4,0),(5,0),(6,0),(7,0),(8,1),(9,0),(10,0),(11,1)];kernel_rfl)|refine BF ?_|fail));exact EF (Es':=[Ap a 61 (DH {x with g:=r.g,club:=r.club})]) Ad (FK (rs:=[]) (vs:=[]) rfl rfl trivial ⟨rfl,rfl⟩)
def Aj8 (h:U)(a:Nat)(r x:Cu):AP prog 275 #[Ew r,AD a] [Ap a 61 (DH x)] h (HL a 61 (DH {x with g:=r.g})):=by refine Cx func275 λ_ _=>?_;(repeat'(first|refine AH ?_|(refine Aj ?_;intro b)|fail));exact EF (Es':=[Ap a 61 (DH {x with g:=r.g})]) Ad (FK (rs:=[]) (vs:=[]) rfl rfl trivial ⟨rfl,rfl⟩)
def Aj6 (h:U)(a:Nat)(r x:Cu):AP prog 277 #[Ew r,AD a] [Ap a 61 (DH x)] h (HL a 61 (DH {x with g:=r.g,hg:=r.hg,ag:=r.ag})):=by refine Cx func277 λ_ _=>?_;(repeat'(first|refine Ba ?_|(refine Aj ?_;intro b)|(apply Da (n:=1) [0,3,4,9,10,11,1,5,6,12,13,14,2,7,8,15,16,17] [(0,0),(1,0),(2,0),(3,0),(4,0),(5,0),(6,0),(7,0),(8,0),(9,0),(10,0),(11,1),(12,0),(13,0),(14,1),(15,0),(16,0),(17,1)];kernel_rfl)|refine BF ?_|fail));exact EF (Es':=[Ap a 61 (DH {x with g:=r.g,hg:=r.hg,ag:=r.ag})]) Ad (FK (rs:=[]) (vs:=[]) rfl rfl trivial ⟨rfl,rfl⟩)
def Aj4 (h:U)(a:Nat)(r x:Cu):AP prog 279 #[Ew r,AD a] [Ap a 61 (DH x)] h (HL a 61 (DH {x with club:=r.club,season:=r.season,comp:=r.comp,points:=r.points})):=by refine Cx func279 λ_ _=>?_;(repeat'(first|refine Ba ?_|(refine Aj ?_;intro b)|(apply Da (n:=1) [0,4,5,12,13,14,1,6,7,15,16,17,2,8,9,18,19,20,3,10,11,21,22,23] [(0,0),(1,0),(2,0),(3,0),(4,0),(5,0),(6,0),(7,0),(8,0),(9,0),(10,0),(11,0),(12,0),(13,0),(14,1),(15,0),(16,0),(17,1),(18,0),(19,0),(20,1),(21,0),(22,0),(23,1)];kernel_rfl)|refine BF ?_|fail));exact EF (Es':=[Ap a 61 (DH {x with club:=r.club,season:=r.season,comp:=r.comp,points:=r.points})]) Ad (FK (rs:=[]) (vs:=[]) rfl rfl trivial ⟨rfl,rfl⟩)
def Akh (h:U)(a:Nat)(r x:Cu):AP prog 281 #[Ew r,AD a] [Ap a 61 (DH x)] h (HL a 61 (DH {x with club:=r.club,lo:=r.lo,hi:=r.hi})):=by refine Cx func281 λ_ _=>?_;(repeat'(first|refine Ba ?_|(refine Aj ?_;intro b)|(apply Da (n:=1) [0,2,3,6,7,8,1,4,5,9,10,11] [(0,0),(1,0),(2,0),(3,0),(4,0),(5,0),(6,0),(7,0),(8,1),(9,0),(10,0),(11,1)];kernel_rfl)|refine BF ?_|fail));exact EF (Es':=[Ap a 61 (DH {x with club:=r.club,lo:=r.lo,hi:=r.hi})]) Ad (FK (rs:=[]) (vs:=[]) rfl rfl trivial ⟨rfl,rfl⟩)
def Akf (h:U)(a:Nat)(r x:Cu):AP prog 283 #[Ew r,AD a] [Ap a 61 (DH x)] h (HL a 61 (DH {x with player:=r.player,lo:=r.lo,hi:=r.hi})):=by refine Cx func283 λ_ _=>?_;(repeat'(first|refine Ba ?_|(refine Aj ?_;intro b)|(apply Da (n:=1) [0,2,3,6,7,8,1,4,5,9,10,11] [(0,0),(1,0),(2,0),(3,0),(4,0),(5,0),(6,0),(7,0),(8,1),(9,0),(10,0),(11,1)];kernel_rfl)|refine BF ?_|fail));exact EF (Es':=[Ap a 61 (DH {x with player:=r.player,lo:=r.lo,hi:=r.hi})]) Ad (FK (rs:=[]) (vs:=[]) rfl rfl trivial ⟨rfl,rfl⟩)
def Akd (h:U)(a:Nat)(r x:Cu):AP prog 285 #[Ew r,AD a] [Ap a 61 (DH x)] h (HL a 61 (DH {x with club:=r.club,amount:=r.amount})):=by refine Cx func285 λ_ _=>?_;(repeat'(first|refine Ba ?_|(refine Aj ?_;intro b)|(apply Da (n:=1) [0,2,3,6,7,8,1,4,5,9,10,11] [(0,0),(1,0),(2,0),(3,0),(4,0),(5,0),(6,0),(7,0),(8,1),(9,0),(10,0),(11,1)];kernel_rfl)|refine BF ?_|fail));exact EF (Es':=[Ap a 61 (DH {x with club:=r.club,amount:=r.amount})]) Ad (FK (rs:=[]) (vs:=[]) rfl rfl trivial ⟨rfl,rfl⟩)
def Akb (h:U)(a:Nat)(r x:Cu):AP prog 287 #[Ew r,AD a] [Ap a 61 (DH x)] h (HL a 61 (DH x)):=by refine Cx func287 λ_ _=>?_;(repeat'(first|refine Ba ?_|(refine Aj ?_;intro b)|fail));exact EF (Es':=[Ap a 61 (DH x)]) Ad (FK (rs:=[]) (vs:=[]) rfl rfl trivial ⟨rfl,rfl⟩)
def Mx (p:Value×Value):Value:=.agg #[p.1,p.2]
def VD (l:List (Int×(Value×Value))):List (Int×(Value×Value)):=l.foldl (λm p=>Dk p.1 p.2 m) []
theorem KM {κ α:Type}[DecidableEq κ](x y:κ)(a:α):∀(m:List (κ×α)),Co y (Dk x a m)=if x=y then some a else Co y m
 |[]=>by simp[Dk,Co]
 |(z,b)::r=>by by_cases c:z=x;{subst c;by_cases hy:z=y;{simp[Dk,Co,hy]};{simp[Dk,Co,hy]}};{by_cases hy:z=y;{subst hy;simp[Dk,Co,c,KX c]};{simp[Dk,Co,c,hy,KM x y a r]}}
def Ab8 {C:Bu}{l:AW}{Es Es':Am}{h:U}{G:Value→Am→U→Prop}{ty:TypeId}{pos:String}{aft:Cw}{gd:Cq}{dst:CK}{t e:TypeId}{x y v:Operand}{b:Nat}{key:Int}{p q:Value}{m:List (Int×(Value×Value))}{T:Ay}
  (K:Gw C.P 3 (λi:Int=>O i)) (hT:AM t C.ts=some T) (c:T.desc=.map 3 e) (hx:AJ l x=some (.map (some b))) (hy:AJ l y=some (O key)) (hv:AJ l v=some (.agg #[p,q]))
  (a:Ei Es (BG (λi:Int=>O i) Mx b m) (BG (λi:Int=>O i) Mx b (Dk key (p,q) m)) Es') (g:G undef Es' h):Cd C l Es h ⟨dst,.insert t x y v,ty,pos,aft,gd⟩ G:=
 XG K hT c hx hy hv (u:=(p,q)) rfl a g
def Ch (f:Nat) (cs:Ao):Value:=.func (.func f) #[] cs.toArray
def OF (b1 b2:Nat):List (Int×(Value×Value)):=VD [
 (1,(Ch 273 [AD b1],Ch 274 [])),
 (2,(Ch 270 [],Ch 275 [])),
 (3,(Ch 276 [AD b1],Ch 277 [])),
 (4,(Ch 278 [],Ch 279 [])),
 (5,(Ch 280 [AD b2],Ch 281 [])),
 (6,(Ch 282 [AD b2],Ch 283 [])),
 (7,(Ch 284 [],Ch 285 [])),
 (8,(Ch 286 [],Ch 287 []))]
def Ajo (h:U):AP prog 196 #[] [] h λv Es h'=>∃bm b1 b2,v=.map (some bm)∧Es=[BG (λi:Int=>O i) Mx bm (OF b1 b2)]∧Qv h' b1∧Qr h' b2:=by refine Cx func196 λ_ _=>?_;(repeat'(first|refine AH ?_|(refine Aj ?_;intro b)|(refine Ac ?_;first|(apply Nn (λi:Int=>O i) Mx;intro bm)|(apply Ab8 LJ;(iterate 5 exact F);exact Bp))|fail));rename_i b1;refine Ii (b:=b1) Bh ?_;intro h1 e a;refine Ii (b:=b) Bh ?_;intro h2 d c;exact DD rfl rfl rfl (FH _) ⟨bm,b1,b,rfl,rfl,a.le d,c⟩
def EU (r:Cu):Cu:={DB with case:=r.case,inst:=r.inst,kind:=r.kind}
def nS (r:Cu) (b1 b2:Nat) (g:Nat) (d:Ao) (b:Nat) (c:Bool):Prop:=
 Co r.kind (OF b1 b2)=some (Ch g d,Ch b [])∧BP prog g∧BP prog b∧(c=true↔GY r)∧(∀h',Qv h' b1→Qr h' b2→Aq prog g ([]++[Ew r]++d).toArray h' (.bool c))∧
 ∀h' a,AP prog b ([]++[Ew r,AD a]++[]).toArray [Ap a 61 (DH (EU r))] h' (HL a 61 (DH (GO r)))
def Aah (b1 b2:Nat)(k:Int):Co k (OF b1 b2) =
  if 8=k then some (Ch 286 [],Ch 287 [])
  else if 7=k then some (Ch 284 [],Ch 285 [])
  else if 6=k then some (Ch 282 [AD b2],Ch 283 [])
  else if 5=k then some (Ch 280 [AD b2],Ch 281 [])
  else if 4=k then some (Ch 278 [],Ch 279 [])
  else if 3=k then some (Ch 276 [AD b1],Ch 277 [])
  else if 2=k then some (Ch 270 [],Ch 275 [])
  else if 1=k then some (Ch 273 [AD b1],Ch 274 [])
  else none:=by
 unfold OF VD
 simp only[Nf,List.foldl_nil,KM,Co]
def OT {r:Cu}{b1 b2:Nat}{g:Nat}{c:Ao}{a:Nat}{b:Bool}{x:Cu}(h:Co r.kind (OF b1 b2)=some (Ch g c,Ch a []))(hg:BP prog g)(f:BP prog a)(e:b=true↔GY r)
 (hv:∀h',Qv h' b1→Qr h' b2→Aq prog g ([]++[Ew r]++c).toArray h' (.bool b)) (hx:x=GO r) (hf:∀h' d,AP prog a ([]++[Ew r,AD d]++[]).toArray [Ap d 61 (DH (EU r))] h' (HL d 61 (DH x))) :
 ∃g c a b,nS r b1 b2 g c a b:=⟨g,c,a,b,h,hg,f,e,hv,hx▸hf⟩
def wO (r:Cu)(b1 b2:Nat)(f:1≤r.kind∧r.kind≤8):∃g c d b,nS r b1 b2 g c d b:=by(have:r.kind=1∨r.kind=2∨r.kind=3∨r.kind=4∨r.kind=5∨r.kind=6∨r.kind=7∨r.kind=8:=by omega);rcases this with e|e|e|e|e|e|e|e;{exact OT OV (Ab func273) (Ab func274) Qa (λh' h1 h2=>Aka h' b1 h1 r) OZ (λh' a=>Aj9 h' a r (EU r))};{exact OT OV (Ab func270) (Ab func275) Qa (λh' h1 h2=>Zf h' r) OZ (λh' a=>Aj8 h' a r (EU r))};{exact OT OV (Ab func276) (Ab func277) Qa (λh' h1 h2=>Aj7 h' b1 h1 r) OZ (λh' a=>Aj6 h' a r (EU r))};{exact OT OV (Ab func278) (Ab func279) Qa (λh' h1 h2=>Aj5 h' r) OZ (λh' a=>Aj4 h' a r (EU r))};{exact OT OV (Ab func280) (Ab func281) Qa (λh' h1 h2=>Aki h' b2 h2 r) OZ (λh' a=>Akh h' a r (EU r))};{exact OT OV (Ab func282) (Ab func283) Qa (λh' h1 h2=>Akg h' b2 h2 r) OZ (λh' a=>Akf h' a r (EU r))};{exact OT OV (Ab func284) (Ab func285) Qa (λh' h1 h2=>Ake h' r) OZ (λh' a=>Akd h' a r (EU r))};{exact OT OV (Ab func286) (Ab func287) (by rw[GY,e];simp) (λh' h1 h2=>Akc h' r) OZ (λh' a=>Akb h' a r (EU r))}
def gK (r:Cu)(b1 b2:Nat)(a:¬(1≤r.kind∧r.kind≤8)):Co r.kind (OF b1 b2)=none∧¬GY r:=by constructor;{rw[Aah];repeat rw[if_neg J]};{rw[GY];(repeat rw[if_neg J]);omega}
open Classical in
theorem Ajp (h:U)(r:Cu):Aq prog 132 #[Ew r] h (.bool (decide (Gm r))):=by refine AK func132 λ_ _=>?_;by_cases e:1≤r.kind∧r.kind≤8;{(repeat'(first|refine AH ?_|(refine Z (by apply Ld;exact F;exact F;exact LY (GO r) r;kernel_rfl;kernel_rfl) ?_)|(refine Aj ?_;intro b)|(refine Ac ?_;first|(apply Hb (f:=g) (fs:=[]) (cs:=k);exact F;exact F;exact hg;exact hv _ hG d)|(apply Ot (f:=l) (fs:=[]) (cs:=[]);exact F;exact F;exact o;exact hf _ _;exact Ad;rintro v1 s h1 t ⟨rfl,rfl⟩))|(apply Da (n:=1) [0,1,2,3,4,5,7,8,6,9] [(1,0),(2,0),(0,2),(7,7),(3,0),(4,0),(5,0),(6,0),(7,1),(8,1),(9,0),(0,1),(3,0),(4,0),(5,0),(6,0),(8,1),(9,0)];kernel_rfl)|(apply Be;exact Bd;(apply On (ek:=λi:Int=>O i) (ev:=Mx) (key:=r.kind) (m:=OF b1 b2) (r:=some (Ch g k,Ch l [])) LJ;(iterate 5 exact F);exact c);exact AX)|(refine Bn ?_;first|(refine WV ?_;rintro v0 j h0 a ⟨bm,b1,b2,rfl,rfl,hG,d⟩;obtain⟨g,k,l,p,c,hg,o,q,hv,hf⟩:=wO r b1 b2 e;refine⟨a,Ak,?_⟩))|(apply GQ;kernel_rfl;exact F;exact F)|(apply HP;(iterate 4 exact F);(first|(refine WV ?_;rintro v0 j h0 a ⟨bm,b1,b2,rfl,rfl,hG,d⟩;obtain⟨g,k,l,p,c,hg,o,q,hv,hf⟩:=wO r b1 b2 e;refine⟨a,Ak,?_⟩)))|(refine Y ?_ ?_<;>intro hc<;>try omega)|refine AF ?_|(refine AG ?_ ?_<;>intro hc<;>try omega)|fail));(all_goals(first|(apply BS;(iterate 3 exact F))));all_goals(refine Cv ?_;unfold Gm;grind)};{(repeat'(first|refine AH ?_|(refine Aj ?_;intro b)|(apply Da (n:=1) [0,1,2,3,4,5,7,8,6,9] [(1,0),(2,0),(0,2),(7,7),(3,0),(4,0),(5,0),(6,0),(7,1),(8,1),(9,0),(0,1),(3,0),(4,0),(5,0),(6,0),(8,1),(9,0)];kernel_rfl)|(apply Be;exact Bd;(apply On (ek:=λi:Int=>O i) (ev:=Mx) (key:=r.kind) (m:=OF b1 b2) (r:=none) LJ;(iterate 5 exact F);exact c.1);exact AX)|(refine Bn ?_;first|(refine WV ?_;rintro v0 j h0 a ⟨bm,b1,b2,rfl,rfl,hG,d⟩;have c:=gK r b1 b2 e;refine⟨a,Ak,?_⟩))|(apply GQ;kernel_rfl;exact F;exact F)|(apply HP;(iterate 4 exact F);(first|(refine WV ?_;rintro v0 j h0 a ⟨bm,b1,b2,rfl,rfl,hG,d⟩;have c:=gK r b1 b2 e;refine⟨a,Ak,?_⟩)))|(refine Y ?_ ?_<;>intro hc<;>try omega)|fail));(all_goals(first|(apply BS;(iterate 3 exact F))));all_goals(refine Cv ?_;unfold Gm;grind)}
end Go.Hw