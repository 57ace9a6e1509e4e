import Derived.Test.YtlnenhhbalpbpabGreatDoorXA
import Derived.Test.YtlnenhhbalpbpabGreatDoorHD
import Derived.Test.YtlnenhhbalpbpabGreatDoorSA
set_option linter.all false
set_option maxRecDepth 100000
set_option maxHeartbeats 8000000
namespace Go.Hw
open Go
attribute [local irreducible] GO GOl GDp Val Fn Res At Fx Blk By Dk Cl Has Yl Mn Ew Yx Vd Md Pq Ga Um Jl Tl
open Go.Proofs (Tryz.prog)
theorem idxFS_c (h:Ro)(A:Option Addr)(n c:Nat)(l:List (Fsh×Bz))(hx:Cc Jj 15 h A n l)(hn:n≤1000000)(f:FuncId)(fs cs:List Value)(p:Fsh×Bz→Bool)(hh:Has Tryz.prog f)
  (hf:∀ x∈l,Val Tryz.prog f (fs++[Value.agg (Jj x).toArray]++cs).toArray h (.bool (p x))) :
  Val Tryz.prog 161 #[.slice A n c,.func (.func f) fs.toArray cs.toArray] h (.int .i64 (Jy p l 0)):=by
 refine Az (args:=[_,_]) ts_ok Go.Proofs.Tryz.func161 rfl rfl fun w0 X0 => ?_
 have hlen:=hx.len
 repeat' (first|apply Ac|apply Ak|apply Aa|apply Ab|(apply Ad;(iterate 3 exact J)))
 refine Bt (X:=Nat) (fun k=>k≤n∧Jy p (l.drop k) k=Jy p l 0) (fun k=>n-k) (fun k=>[(8,.int .i64 k),(7,.int .i64 n),(0,.slice A n c),(1,.func (.func f) fs.toArray cs.toArray)]) (fun _=>[]) (fun _=>h) 0 ⟨by omega,rfl⟩ QS QT rfl ?_
 rintro k ⟨hk,hI⟩ ih
 by_cases hkn:k<n
 · have a1:=hx.addrD hkn
   have c1:=hx.cellsD sc0 hkn
   have hd:=Zd sc0 hlen hkn
   have hv:=hf _ (mem7 sc0 (show k<l.length by omega))
   generalize l.getD k sc0=x at *
   repeat' (first|apply Ac|apply Au|apply Ap|apply Ak|apply Aa|apply Ab|(apply Bg;(iterate 3 exact J);omega;exact J;exact J)|(apply Ad;(iterate 3 exact J))|(apply Bd;exact J;exact J;(first|(apply Be (j:=k);(iterate 5 exact J);exact a1;(with_reducible exact J);omega)|(apply Ar;exact J;exact Bh rfl c1 rfl));exact QA)|(apply Af;(iterate 3 exact J);(first|(apply Cd (f:=f) (fs:=fs) (cs:=cs);exact J;exact J;exact hh;exact hv;skip)))|(apply Aj;exact J;all_goals (intro hc;try simp only [hcS,reduceCtorEq] at hc;try (exfalso;omega)))|(apply Bb;(iterate 3 exact J)))
   · rw [← hI,hd,Jy,if_pos hc]
   · have h3:=ih (k+1) ⟨by omega,by rw [← hI,hd,Jy,if_neg (by simp [hc])]⟩ (by omega)
     refine Bw QS QT (h3)
 · repeat' (first|apply Ac|apply Aa|apply Ab|(apply Bn;exact J)|(apply Ad;(iterate 3 exact J))|(apply Aj;exact J;all_goals (intro hc;try simp only [hcS,reduceCtorEq] at hc;try (exfalso;omega)))|(apply Bb;(iterate 3 exact J)))
   rw [← hI,show k=l.length by omega,List.drop_length];rfl
def Oa (club:Int) (z:Bz):Bool:=decide (z.sh.g.h=club∨z.sh.g.a=club)
theorem susp1_c (h:Ro)(x:Fsh×Bz)(b1:Nat)(m:Int×Int)(h1:At h ⟨b1,0,none⟩ (Ij m)):Val Tryz.prog 162 #[.agg (Jj x).toArray,.pointer (some ⟨b1,0,none⟩)] h (.bool (Oa m.2 x.2)):=by
 refine Az (args:=[_,_]) ts_ok Go.Proofs.Tryz.func162 rfl rfl fun w0 X0 => ?_
 unfold Oa
 repeat' (first|apply Ac|apply Aa|apply Ab|(apply Aw;exact J;exact J)|(apply Ad;(iterate 3 exact J))|(apply Ai;exact J;exact Av rfl QM rfl;exact J;exact J)|(apply Bd;exact J;exact J;(first|(apply Ar;exact J;first|exact Bh rfl (by assumption) rfl|exact Dc rfl (by assumption) rfl|exact Db rfl (by assumption) rfl|exact Lv_roF3 rfl (by assumption) rfl));exact QA)|(apply Af;(iterate 3 exact J);(first|(apply Ao;exact J;intro b;skip)))|(apply Ba;exact J;exact J;all_goals (intro hc;try simp only [hcS,reduceCtorEq] at hc;try (exfalso;omega)))|(apply Bb;(iterate 3 exact J)))
 all_goals (refine Dg ?_;(try rw [Kt]);grind)
def Mna (s:Mr):List Value:=[.int .i64 s.p,.int .i64 s.club,.int .i64 s.g.s,.int .i64 s.g.c,.int .i64 s.g.h,.int .i64 s.g.a]
def Iza (D:List Bz) (i:Nat) (ms:List (Int×Int)) (m:List (Int×Int)):Prop:=∀ p,(Cv p m).getD 0=if p∈ms.map (·.1) then Um (D.take (i+1)) p else Um (D.take i) p
theorem cnt_zero {D:List Bz}{i:Nat}{m:List (Int×Int)}(h:∀ p,(Cv p m).getD 0=Um (D.take i) p):Iza D i [] m:=fun p=>by rw [h p];simp
theorem cnt_step {D:List Bz}{i:Nat}{ms m:List (Int×Int)}{x:Int×Int}{v:Int}(h:Iza D i ms m)(hv:v=Um (D.take (i+1)) x.1):Iza D i (ms++[x]) (Jo x.1 v m):=fun p=>by
 rw [To,List.map_append]
 have hp:=h p
 by_cases e:x.1=p
 · subst e;rw [if_pos rfl,hv];simp
 · rw [if_neg e,hp]
   simp only [List.map_cons,List.map_nil,List.mem_append,List.mem_singleton,Ne.symm e,or_false]
theorem cnt_end {D:List Bz}{i:Nat}{m:List (Int×Int)}{x:Bz}(et:D.take (i+1)=D.take i++[x])(hok:Gw x.sh)(hm:Qa x.sh (Vd x.sh))(h:Iza D i (Vd x.sh) m)(p:Int):(Cv p m).getD 0=Um (D.take (i+1)) p:=by
 rw [h p]
 split
 · rfl
 · rename_i hp
   rw [et,Wa]
   have h1:p ∉ x.sh.hs:=fun q=>hp (List.mem_map.2 ⟨(p,x.sh.g.h),(hm.2 _).2 (.inl ⟨q,rfl⟩),rfl⟩)
   have h2:p ∉ x.sh.asn:=fun q=>hp (List.mem_map.2 ⟨(p,x.sh.g.a),(hm.2 _).2 (.inr ⟨q,rfl⟩),rfl⟩)
   rw [H5a hok h1 h2]
   simp
theorem cnt_at {D:List Bz}{i:Nat}{ms r m:List (Int×Int)}{x:Int×Int}(hp:(ms++x::r).Pairwise fun a b=>a.1<b.1)(h:Iza D i ms m):(Cv x.1 m).getD 0=Um (D.take i) x.1:=by
 rw [h x.1,if_neg]
 intro hm
 obtain ⟨y,hy,e⟩:=List.mem_map.1 hm
 have:=(List.pairwise_append.1 hp).2.2 y hy x List.mem_cons_self
 omega
theorem idx_next {ds:List (Fsh×Bz)}{club:Int}:(Jy (fun x=>Oa club x.2) ds 0 = -1∧Tl (ds.map (·.2)) club=none)∨∃ j:Nat,j<ds.length∧Jy (fun x=>Oa club x.2) ds 0=(j:Int)∧Tl (ds.map (·.2)) club=some (ds.getD j sc0).2:=by
 have go:∀ (l:List (Fsh×Bz)) (k:Nat),(Jy (fun x=>Oa club x.2) l k = -1∧Tl (l.map (·.2)) club=none)∨∃ j:Nat,j<l.length∧Jy (fun x=>Oa club x.2) l k=((k+j:Nat):Int)∧Tl (l.map (·.2)) club=some (l.getD j sc0).2:=by
  intro l
  induction l with
  | nil=>intro k;exact .inl ⟨rfl,by unfold Tl;rfl⟩
  | cons x r ih =>
    intro k
    unfold Jy Tl
    rw [List.map_cons,List.find?_cons]
    show ((if Oa club x.2=true then (k:Int) else Jy (fun x=>Oa club x.2) r (k+1)) = -1∧_)∨_
    cases hb:Oa club x.2 with
    | true =>
      have hb':decide (x.2.sh.g.h=club∨x.2.sh.g.a=club)=true:=hb
      refine .inr ⟨0,by simp,by simp [hb],?_⟩
      rw [hb'];rfl
    | false =>
      have hb':decide (x.2.sh.g.h=club∨x.2.sh.g.a=club)=false:=hb
      rw [hb']
      rcases ih (k+1) with ⟨e1,e2⟩|⟨j,e1,e2,e3⟩
      · refine .inl ⟨by simpa using e1,?_⟩
        unfold Tl at e2
        exact e2
      · refine .inr ⟨j+1,by simp;omega,?_,?_⟩
        · simp only [Bool.false_eq_true,if_false]
          rw [e2];congr 1;omega
        · unfold Tl at e3
          simpa using e3
 rcases go ds 0 with h|⟨j,h1,h2,h3⟩
 · exact .inl h
 · exact .inr ⟨j,h1,by rw [h2];congr 1;omega,h3⟩
theorem Lla {pre post:List Bz}{x:Bz}{m:Int×Int}(h:¬ Earn (Um pre m.1) (Jl x.sh m.1).1 (Jl x.sh m.1).2):Ga pre post x m=[]:=by unfold Ga;rw [if_neg h]
theorem Dea {pre post:List Bz}{x:Bz}{m:Int×Int}(h:Tl post m.2=none):Ga pre post x m=[]:=by unfold Ga;rw [h];split <;> rfl
theorem Gga {pre post:List Bz}{x:Bz}{m:Int×Int}{z:Bz}(he:Earn (Um pre m.1) (Jl x.sh m.1).1 (Jl x.sh m.1).2)(h:Tl post m.2=some z):Ga pre post x m=[⟨m.1,m.2,z.sh.g⟩]:=by unfold Ga;rw [h,if_pos he]
theorem Lma {D:List Bz}(hm:∀ x∈D,Gw x.sh∧Qa x.sh (Vd x.sh)){i:Nat}(hi:i<D.length):(I9a D i).length≤80:=by
 unfold I9a
 have hx:D.getD i No∈D:=mem7 No hi
 obtain ⟨h1,h2⟩:=hm _ hx
 exact Nat.le_trans (Us _ (Gha _ _ _) _) (Jsa h1 h2)
theorem Dfa {D:List Bz}(hm:∀ x∈D,Gw x.sh∧Qa x.sh (Vd x.sh)):∀ {i:Nat},i≤D.length→(Pq D i).length≤80 * i
 | 0,_=>by unfold Pq;simp
 | i+1,hi=>by
   rw [Zp,List.length_append]
   have:=Dfa hm (i:=i) (by omega)
   have:=Lma hm (i:=i) (by omega)
   omega
theorem suspN_0 (D:List Bz):Pq D 0=[]:=by unfold Pq;rfl
theorem yelC_0 (p:Int):Um [] p=0:=by unfold Um;rfl
theorem isMem_of {x:El}(hok:Gw x):Qa x (Vd x):=by
 obtain ⟨ys,hp,hs⟩:∃ ys,ys.Perm (memU x)∧ys.Pairwise fun a b=>a.1≤b.1 :=
  ⟨(memU x).mergeSort fun a b=>decide (a.1≤b.1),List.mergeSort_perm _ _,(List.pairwise_mergeSort (le:=fun a b:Int×Int=>decide (a.1≤b.1)) (fun a b c h1 h2=>by simp at *;omega) (fun a b=>by simp;omega) _).imp fun {a b} q=>by simpa using q⟩
 exact (Zr hok hp hs).here
theorem Cpa (h:Ro)(hG:Kg h)(A:Option Addr)(n c:Nat)(l:List (Fsh×Fct))(hx:Co h A n l)(hn6:n≤65536)(season comp:Int):Res Tryz.prog 98 #[.slice A n c,.int .i64 season,.int .i64 comp] h (fun u h'=>∃ A' c',u=.slice A' (Md (Yx (fcs l) season comp)).length c'∧Cc Mna 6 h' A' (Md (Yx (fcs l) season comp)).length (Md (Yx (fcs l) season comp))∧(Md (Yx (fcs l) season comp)).length≤10000000):=by
 refine Bq (args:=[_,_,_]) ts_ok Go.Proofs.Tryz.func98 rfl rfl fun w0 X0 => ?_
 have h32:=Gx hx
 have hde:=fun h' (hl:Le h h')=>decided_c h' (hG.le hl) A n c l (hx.le hl) season comp
 generalize fcs l=L at *
 clear hx
 repeat' (first|apply Ac|apply Ak|apply Aa|apply Ab|(apply Ad;(iterate 3 exact J))|(apply Af;(iterate 3 exact J);(first|(apply Ay;exact J;exact has158;exact hde _ QL;rintro w1 h1 hle1 ⟨A3,c3,ds,rfl,hsl,hat,hdec,hdn,hnc⟩;skip)|(apply Et ekN ekN;intro bm;skip))))
 all_goals (try (exfalso;omega))
 rw [← decC_of hdec]
 clear hde
 obtain ⟨D,hD⟩:∃ D,D=ds.map (·.2):=⟨_,rfl⟩
 rw [← hD] at hdec ⊢
 have hDl:D.length=ds.length:=by rw [hD,List.length_map]
 have hok:∀ x∈D,Gw x.sh∧Qa x.sh (Vd x.sh):=fun x hx=>⟨(hdec.ok h32 hx).sheet,isMem_of (hdec.ok h32 hx).sheet⟩
 have hK:=KN
 refine Eh 185 6 ?_
 refine Bt (X:=Nat×List Mr×Option Addr×Nat×List (Int×Int)×Ro) (fun x=>x.1≤ds.length∧Le h1 x.2.2.2.2.2∧x.2.1=Pq D x.1∧∀ p,(Cv p x.2.2.2.2.1).getD 0=Um (D.take x.1) p) (fun x=>ds.length-x.1)
  (fun x=>[(24,.int .i64 x.1),(23,.int .i64 ds.length),(22,.slice A3 ds.length c3),(7,.slice A3 ds.length c3),(8,.map (some bm)),(6,.slice x.2.2.1 x.2.1.length x.2.2.2.1)])
  (fun x=>[By 185 6 (.slice x.2.2.1 x.2.1.length x.2.2.2.1) x.2.1.length (x.2.1.flatMap Mna),Dk ekN ekN bm x.2.2.2.2.1]) (fun x=>x.2.2.2.2.2) (0,[],none,0,[],h1) ⟨by dsimp only;omega,Le.refl _,by rw [suspN_0],fun p=>by rw [List.take_zero,yelC_0];rfl⟩ QS QT rfl ?_
 rintro ⟨i,out,A4,c4,m,hh⟩ ⟨hi,hle,ho,hm⟩ ih
 dsimp only at hi hle ho hm ih ⊢
 have hol:=Dfa hok (i:=i) (by omega)
 rw [← ho] at hol
 by_cases hin:i<ds.length
 · have a1:=hsl.addrD hin
   have c1:=(hsl.cellsD sc0 hin).le hle
   have hsl':=hsl.le hle
   have hax:=(hat _ (mem7 sc0 hin)).le hle
   have hDx:D.getD i No=(ds.getD i sc0).2:=by rw [hD];simp [List.getD,List.getElem?_eq_getElem hin]
   have et:=Fq No (xs:=D) rfl (show i<D.length by omega)
   have hoX:=hok _ (mem7 No (show i<D.length by omega))
   have hsA:Pq D (i+1)=Pq D i++(Vd (D.getD i No).sh).flatMap (Ga (D.take i) (D.drop (i+1)) (D.getD i No)):=Zp D i
   rw [hDx] at et hoX hsA
   have hpost:D.drop (i+1)=(ds.drop (i+1)).map (·.2):=by rw [hD,List.map_drop]
   have hlow:=hsl'.low (lo:=i+1) (c:=c3) (by omega) hnc
   generalize ds.getD i sc0=x at *
   obtain ⟨s,x⟩:=x
   dsimp only at et hoX hsA hax
   have hxs:=hax.1
   have hlc:x.sh.hc.length≤1000∧x.sh.ac.length≤1000:=by
    have h1:=hoX.1.2.2.2.2.2.2.2.1.1
    have h2:=hoX.1.2.2.2.2.2.2.2.2.1.1
    omega
   have hpw:=hoX.2.1
   have hml:=Jsa hoX.1 hoX.2
   repeat' (first|apply Ac|apply Au|apply Ak|apply Aa|apply Ab|(apply Af;(iterate 3 exact J);apply Ag (e:=130);exact J;intro b10)|(apply Ad;(iterate 3 exact J))|(apply Ai;exact J;exact Av rfl QM rfl;exact J;exact J)|(apply Bd;exact J;exact J;(first|(apply Be (j:=i);(iterate 5 exact J);exact a1;(with_reducible exact J);omega)|(apply Ar;exact J;exact Bh rfl c1 rfl));exact QA)|(apply Af;(iterate 3 exact J);(first|(apply Ah;(iterate 3 exact J);exact QR;(iterate 3 exact J);skip)|(apply Bi;exact J;exact has159;exact shownE_c _ s x.sh (hxs.le QL) hlc;exact QT;rintro vs Es2 h2 hle2 ⟨bg,mg,rfl,rfl,hmg⟩;skip)|(apply Ay;exact J;exact has160;exact members_c _ s x.sh (hxs.le QL) hoX.1;rintro vm h3 hle3 ⟨A5,c5,rfl,hms,_⟩;skip)))|(apply Aj;exact J;all_goals (intro hc;try simp only [hcS,reduceCtorEq] at hc;try (exfalso;omega))))
   all_goals (try (exfalso;omega))
   obtain ⟨ms,hmsE⟩:∃ ms,ms=Vd x.sh:=⟨_,rfl⟩
   have hend:=fun q (hq:Iza D i (Vd x.sh) q)=>cnt_end (m:=q) et hoX.1 hoX.2 hq
   rw [← hmsE] at hms hsA hpw hml hend ⊢
   have hlei:Le hh h3:=QL
   have hsl3:=hsl'.le hlei
   have hlow3:=hlow.le hlei
   refine Bt (X:=Nat×List Mr×Option Addr×Nat×List (Int×Int)×Ro) (fun y=>y.1≤ms.length∧Le h3 y.2.2.2.2.2∧y.2.1=Pq D i++(ms.take y.1).flatMap (Ga (D.take i) (D.drop (i+1)) x)∧y.2.1.length≤out.length+y.1∧Iza D i (ms.take y.1) y.2.2.2.2.1) (fun y=>ms.length-y.1)
    (fun y=>[(36,.int .i64 y.1),(35,.int .i64 ms.length),(34,.slice A5 ms.length c5),(11,.map (some bg)),(9,.int .i64 i),(24,.int .i64 i),(23,.int .i64 ds.length),(22,.slice A3 ds.length c3),(7,.slice A3 ds.length c3),(8,.map (some bm)),(6,.slice y.2.2.1 y.2.1.length y.2.2.2.1)])
    (fun y=>[By 185 6 (.slice y.2.2.1 y.2.1.length y.2.2.2.1) y.2.1.length (y.2.1.flatMap Mna),Dk ekN ekN bm y.2.2.2.2.1,Dk ekN evCd bg mg]) (fun y=>y.2.2.2.2.2) (0,out,A4,c4,m,h3) ⟨by dsimp only;omega,Le.refl _,by rw [ho];simp,by dsimp only;omega,by rw [List.take_zero];exact cnt_zero hm⟩ QS QT rfl ?_
   rintro ⟨j,ou,A6,c6,mc,h4⟩ ⟨hj,hle4,ho4,hol4,hcn⟩ ih2
   dsimp only at hj hle4 ho4 hol4 hcn ih2 ⊢
   by_cases hjn:j<ms.length
   · have a2:=hms.addrD hjn
     have c2:=(hms.cellsD m0 hjn).le hle4
     have et2:=Fq m0 (xs:=ms) rfl hjn
     have hsp:=Oz m0 (l:=ms) rfl hjn
     rw [hsp] at hpw
     generalize ms.getD j m0=y at *
     obtain ⟨p,cl⟩:=y
     have hq1:=hmg p
     have hq2:=cnt_at hpw hcn
     have hst:=fun v (hv:v=Um (D.take (i+1)) p)=>cnt_step (x:=(p,cl)) (v:=v) hcn hv
     have hy:=Wa (D.take i) x p
     rw [← et] at hy
     have hb1:=yelC_bd (D.take i) p
     have hb2:=Fia x.sh p
     have hno:=Lla (pre:=D.take i) (post:=D.drop (i+1)) (x:=x) (m:=(p,cl))
     have hnn:=Dea (pre:=D.take i) (post:=D.drop (i+1)) (x:=x) (m:=(p,cl))
     have hye:=fun z=>Gga (pre:=D.take i) (post:=D.drop (i+1)) (x:=x) (m:=(p,cl)) (z:=z)
     have hfm:(ms.take (j+1)).flatMap (Ga (D.take i) (D.drop (i+1)) x)=(ms.take j).flatMap (Ga (D.take i) (D.drop (i+1)) x)++Ga (D.take i) (D.drop (i+1)) x (p,cl):=by rw [et2,List.flatMap_append];simp
     rw [List.length_take] at hb1
     dsimp only at hq2 hst hno hnn hye c2
     rw [hpost] at hno hnn hye hfm
     generalize Jl x.sh p=q at *
     generalize Um (D.take (i+1)) p=y1 at *
     generalize Um (D.take i) p=y0 at *
     obtain ⟨qy,qr⟩:=q
     dsimp only at hq1 hb2 hno hnn hye hy
     have hl2:(Cv p (Jo p (y0+qy) mc)).getD 0=y0+qy:=by rw [To,if_pos rfl];rfl
     have hst1:=hst (y0+qy) hy.symm
     have hcont:=fun ou' A' c' h' (hl:Le h4 h') (he:ou'=ou++Ga (D.take i) ((ds.drop (i+1)).map (·.2)) x (p,cl)) (hl2:ou'.length≤ou.length+1)=>ih2 (j+1,ou',A',c',Jo p (y0+qy) mc,h') ⟨by dsimp only;omega,hle4.trans hl,by dsimp only;rw [he,ho4,hpost,hfm,List.append_assoc],by dsimp only;omega,by dsimp only;rw [et2];exact hst1⟩ (by dsimp only;omega)
     dsimp only at hcont
     have hix:∀ (h':Ro) (b13:Nat),Le h4 h'→At h' ⟨b13,0,none⟩ (Ij (p,cl))→Val Tryz.prog 161 #[.slice (Nn A3 c3 (i+1) 15) (ds.length-(i+1)) (c3-(i+1)),.func (.func 162) #[] #[.pointer (some ⟨b13,0,none⟩)]] h' (.int .i64 (Jy (fun x=>Oa cl x.2) (ds.drop (i+1)) 0)):=fun h' b13 hl hc13 =>
      idxFS_c h' _ _ _ _ (hlow3.le (hle4.trans hl)) (by omega) 162 [] [.pointer (some ⟨b13,0,none⟩)] (fun x=>Oa cl x.2) has162 (fun x _=>susp1_c h' x b13 (p,cl) hc13)
     rcases idx_next (ds:=ds.drop (i+1)) (club:=cl) with ⟨e1,e2⟩|⟨nx,e0,e1,e2⟩
     · rw [e1] at hix
       have hsu:=hnn e2
       have hou:ou=ou++Ga (D.take i) ((ds.drop (i+1)).map (·.2)) x (p,cl):=by rw [hsu,List.append_nil]
       clear hno hye hnn
       cases qr
       all_goals (repeat' (first|apply Ac|apply Au|apply Ap|apply Ak|apply Aa|apply Ab|(apply Bn;exact J)|(apply Af;(iterate 3 exact J);apply Ag (e:=187);exact J;intro b13)|(apply Af;(iterate 3 exact J);apply Ag (e:=244);exact J;intro b14)|(apply Bd;exact J;exact J;(apply Er (ek:=ekN) (ev:=evCd) (z0:=(0,false)) (key:=p) (b:=bg) (m:=mg) hK;(iterate 6 exact J);exact hq1);focus ((repeat' (first|exact trivial|apply And.intro|exact List.Mem.head _|apply List.Mem.tail));done))|(apply Bd;exact J;exact J;(apply Er (ek:=ekN) (ev:=ekN) (z0:=(0:Int)) (key:=p) (b:=bm) (m:=mc) hK;(iterate 6 exact J);exact hq2);focus ((repeat' (first|exact trivial|apply And.intro|exact List.Mem.head _|apply List.Mem.tail));done))|(apply Bd;exact J;exact J;(apply Er (ek:=ekN) (ev:=ekN) (z0:=(0:Int)) (key:=p) (b:=bm) (m:=Jo p (y0+qy) mc) hK;(iterate 6 exact J);exact hl2);focus ((repeat' (first|exact trivial|apply And.intro|exact List.Mem.head _|apply List.Mem.tail));done))|(apply Bd;exact J;exact J;(first|(apply Ioa;(iterate 3 exact J);omega;omega));exact QA)|(apply Aw;exact J;exact J)|(apply Bg;(iterate 3 exact J);omega;exact J;exact J)|(apply Ad;(iterate 3 exact J))|(apply Ai;exact J;exact Av rfl QM rfl;exact J;exact J)|(apply Bd;exact J;exact J;(first|(apply Be (j:=j);(iterate 5 exact J);exact a2;(with_reducible exact J);omega)|(apply Ar;exact J;exact Bh rfl c2 rfl)|(apply Iw (lo:=i+1) (n:=ds.length) (c:=c3);(iterate 5 exact J);omega;omega));exact QA)|(apply Af;(iterate 3 exact J);(first|(apply Ah;(iterate 3 exact J);exact QR;(iterate 3 exact J);skip)|(apply Cy (ek:=ekN) (ev:=ekN) (b:=bm) (m:=mc) (key:=p) (u:=y0+qy) hK;(iterate 6 exact J);exact QR;skip)|(refine Cq (b:=b13) (e:=187) QK ?_;intro h5 hle5 hc13;apply Aq;exact J;exact has161;exact hix _ b13 QL hc13;skip)))|(apply Aj;exact J;all_goals (intro hc;try simp only [hcS,reduceCtorEq] at hc;try (exfalso;omega)))))
       all_goals first
        | (exfalso;omega)
        | (exfalso;simp at hc;done)
        | (have h6:=hcont _ A6 c6 _ hle5 hou (by omega)
           refine Bw QS QT (h6))
        | (have h6:=hcont _ A6 c6 _ (Le.refl _) hou (by omega)
           refine Bw QS QT (h6))
     · rw [e1] at hix
       rw [List.length_drop] at e0
       have hnxt:=hsl3.addrD (show i+1+nx<ds.length by omega)
       have cN:At h4 ((addrD A3).add ((i+1+nx) * ty130.size)) (Jj (ds.getD (i+1+nx) sc0)):=(hsl3.cellsD sc0 (show i+1+nx<ds.length by omega)).le hle4
       have hgz:(ds.drop (i+1)).getD nx sc0=ds.getD (i+1+nx) sc0:=by simp [List.getD]
       rw [hgz] at e2
       generalize ds.getD (i+1+nx) sc0=z at *
       clear hnn hgz
       by_cases hE:Earn y0 qy qr
       · have hsu:=hye _ hE e2
         clear hno hye
         cases qr
         case' false=>have hE2:=hE.resolve_left (by simp)
         all_goals (repeat' (first|apply Ac|apply Au|apply Ap|apply Ak|apply Aa|apply Ab|(apply Af;(iterate 3 exact J);apply Ag (e:=187);exact J;intro b13)|(apply Af;(iterate 3 exact J);apply Ag (e:=244);exact J;intro b14)|(apply Bd;exact J;exact J;(apply Er (ek:=ekN) (ev:=evCd) (z0:=(0,false)) (key:=p) (b:=bg) (m:=mg) hK;(iterate 6 exact J);exact hq1);focus ((repeat' (first|exact trivial|apply And.intro|exact List.Mem.head _|apply List.Mem.tail));done))|(apply Bd;exact J;exact J;(apply Er (ek:=ekN) (ev:=ekN) (z0:=(0:Int)) (key:=p) (b:=bm) (m:=mc) hK;(iterate 6 exact J);exact hq2);focus ((repeat' (first|exact trivial|apply And.intro|exact List.Mem.head _|apply List.Mem.tail));done))|(apply Bd;exact J;exact J;(apply Er (ek:=ekN) (ev:=ekN) (z0:=(0:Int)) (key:=p) (b:=bm) (m:=Jo p (y0+qy) mc) hK;(iterate 6 exact J);exact hl2);focus ((repeat' (first|exact trivial|apply And.intro|exact List.Mem.head _|apply List.Mem.tail));done))|(apply Bd;exact J;exact J;(first|(apply Ioa;(iterate 3 exact J);omega;omega));exact QA)|(apply Aw;exact J;exact J)|(apply Bg;(iterate 3 exact J);omega;exact J;exact J)|(apply Ad;(iterate 3 exact J))|(apply Ai;exact J;exact Av rfl QM rfl;exact J;exact J)|(apply Bd;exact J;exact J;(first|(apply Be (j:=j);(iterate 5 exact J);exact a2;(with_reducible exact J);omega)|(apply Ar;exact J;exact Bh rfl c2 rfl)|(apply Iw (lo:=i+1) (n:=ds.length) (c:=c3);(iterate 5 exact J);omega;omega));exact QA)|(apply Af;(iterate 3 exact J);(first|(apply Ah;(iterate 3 exact J);exact QR;(iterate 3 exact J);skip)|(apply Cy (ek:=ekN) (ev:=ekN) (b:=bm) (m:=mc) (key:=p) (u:=y0+qy) hK;(iterate 6 exact J);exact QR;skip)|(refine Cq (b:=b13) (e:=187) QK ?_;intro h5 hle5 hc13;apply Aq;exact J;exact has161;exact hix _ b13 QL hc13;skip)))|(apply Bf (n:=16) [0,1,2,3,4,5,6,7,8,9,10,11,12,13,14,15,16,17] [(0,0),(1,0),(2,0),(3,0),(4,0),(5,0),(6,0),(7,0),(8,0),(9,0),(10,0),(11,0),(12,0),(13,0),(14,0),(15,1),(16,1),(17,0)];kernel_rfl)|(apply GP_add;exact J;kernel_rfl;(iterate 5 exact J);omega)|(apply Ce;exact J;kernel_rfl;(iterate 3 exact J))|(apply De;exact J;kernel_rfl;exact J;exact J;(first|(apply Be (j:=i+1+nx) (n:=ds.length) (A:=A3);(iterate 5 exact J);exact hnxt;omega;omega)|(apply Ar;exact J;apply Db;exact J;exact cN.le QL;exact J)|(apply Ar;exact J;exact Dc rfl hc13 rfl));exact QA)|(apply Br;exact J;kernel_rfl;(iterate 3 exact J);(first|(apply Bc (enc:=Mna) (n:=1) [⟨p,cl,z.2.sh.g⟩];(iterate 3 exact J);exact List.cons_ne_nil _ _;(iterate 4 exact J);exact fun _=>rfl;exact J;exact J;intro b9 h9 hle9 hs9;refine ⟨hle9,QN,?_⟩)|(apply Bk (enc:=Mna) (xs:=ou);(iterate 7 exact J);exact hs9;exact fun _=>rfl;exact fun x=>Ci rfl;intro v1;exact QR;omega;exact J;intro A9 c9;refine ⟨Le.refl _,QN,?_⟩)))|(apply Bm;kernel_rfl;exact J)|(apply Aj;exact J;all_goals (intro hc;try simp only [hcS,reduceCtorEq] at hc;try (exfalso;omega)))))
         all_goals first
          | (exfalso;omega)
          | (exfalso;simp at hc;done)
          | (have h6:=hcont (ou++[⟨p,cl,z.2.sh.g⟩]) A9 c9 h9 (hle5.trans hle9) (by rw [hsu]) (by simp)
             rw [List.length_append] at h6
             refine Bw QS QT (h6))
       · have hsu:=hno hE
         have hou:ou=ou++Ga (D.take i) ((ds.drop (i+1)).map (·.2)) x (p,cl):=by rw [hsu,List.append_nil]
         clear hno hye
         cases qr
         case' true=>exact absurd (.inl rfl) hE
         have hE2:(y0+qy) / 5=y0 / 5:=Classical.byContradiction fun w=>hE (.inr w)
         repeat' (first|apply Ac|apply Au|apply Ak|apply Aa|apply Ab|(apply Bn;exact J)|(apply Af;(iterate 3 exact J);apply Ag (e:=187);exact J;intro b13)|(apply Af;(iterate 3 exact J);apply Ag (e:=244);exact J;intro b14)|(apply Bd;exact J;exact J;(apply Er (ek:=ekN) (ev:=evCd) (z0:=(0,false)) (key:=p) (b:=bg) (m:=mg) hK;(iterate 6 exact J);exact hq1);focus ((repeat' (first|exact trivial|apply And.intro|exact List.Mem.head _|apply List.Mem.tail));done))|(apply Bd;exact J;exact J;(apply Er (ek:=ekN) (ev:=ekN) (z0:=(0:Int)) (key:=p) (b:=bm) (m:=mc) hK;(iterate 6 exact J);exact hq2);focus ((repeat' (first|exact trivial|apply And.intro|exact List.Mem.head _|apply List.Mem.tail));done))|(apply Bd;exact J;exact J;(apply Er (ek:=ekN) (ev:=ekN) (z0:=(0:Int)) (key:=p) (b:=bm) (m:=Jo p (y0+qy) mc) hK;(iterate 6 exact J);exact hl2);focus ((repeat' (first|exact trivial|apply And.intro|exact List.Mem.head _|apply List.Mem.tail));done))|(apply Bd;exact J;exact J;(first|(apply Ioa;(iterate 3 exact J);omega;omega));exact QA)|(apply Bg;(iterate 3 exact J);omega;exact J;exact J)|(apply Ad;(iterate 3 exact J))|(apply Ai;exact J;exact Av rfl QM rfl;exact J;exact J)|(apply Bd;exact J;exact J;(first|(apply Be (j:=j);(iterate 5 exact J);exact a2;(with_reducible exact J);omega)|(apply Ar;exact J;exact Bh rfl c2 rfl));exact QA)|(apply Af;(iterate 3 exact J);(first|(apply Ah;(iterate 3 exact J);exact QR;(iterate 3 exact J);skip)|(apply Cy (ek:=ekN) (ev:=ekN) (b:=bm) (m:=mc) (key:=p) (u:=y0+qy) hK;(iterate 6 exact J);exact QR;skip)))|(apply Aj;exact J;all_goals (intro hc;try simp only [hcS,reduceCtorEq] at hc;try (exfalso;omega))))
         all_goals first
          | (exfalso;omega)
          | (exfalso;simp at hc;done)
          | (have h6:=hcont _ A6 c6 _ hle5 hou (by omega)
             refine Bw QS QT (h6))
          | (have h6:=hcont _ A6 c6 _ (Le.refl _) hou (by omega)
             refine Bw QS QT (h6))
   · rw [show ms.take j=ms from List.take_of_length_le (by omega)] at ho4 hcn
     rw [← hsA] at ho4
     have hcm:=hend _ hcn
     have h6:=ih (i+1,ou,A6,c6,mc,h4) ⟨by dsimp only;omega,QL,ho4,hcm⟩ (by dsimp only;omega)
     dsimp only at h6
     clear ih ih2
     repeat' (first|apply Ac|apply Ap|apply Aa|apply Ab|(apply Bn;exact J)|(apply Bg;(iterate 3 exact J);omega;exact J;exact J)|(apply Ad;(iterate 3 exact J))|(apply Aj;exact J;all_goals (intro hc;try simp only [hcS,reduceCtorEq] at hc;try (exfalso;omega))))
     all_goals first
      | (exfalso;omega)
      | (refine Bw QS QT (h6))
 · have hil:i=ds.length:=by omega
   have hsc:Md D=out:=by
    rw [ho,hil,← hDl]
    unfold Md;rfl
   rw [hsc]
   clear ih
   refine Ge (enc:=Mna) (e:=185) (sz:=6) (n:=out.length) (xs:=out) (fun _=>rfl) rfl QK ?_
   intro A7 c7 h7 hle7 e7 hnc7 hs7
   cases e7
   repeat' (first|apply Ac|apply Aa|apply Ab|(apply Bn;exact J)|(apply Ad;(iterate 3 exact J))|(apply Aj;exact J;all_goals (intro hc;try simp only [hcS,reduceCtorEq] at hc;try (exfalso;omega))))
   all_goals first
    | (exfalso;omega)
    | (exact Cb rfl rfl rfl ⟨A4,c4,rfl,hs7,by omega⟩)
end Go.Hw
set_option maxHeartbeats 4000000
namespace Go.Hw
open Go
attribute [local irreducible] GO GOl GDp Val Fn Res At Fx Blk By Dk Cl Has Yl Naa
open Go.Proofs (Tryz.prog)
def A3a (player:Int) (f:Fct):Prop:=f.kind=6∧f.mP=player∧Cg f
open Classical in
noncomputable def Dv (player:Int) (l:List (Fsh×Fct)):List (Fsh×Fct):=l.filter fun p=>decide (A3a player p.2)
theorem Mh (pl:Int)(a b:List (Fsh×Fct)):Dv pl (a++b)=Dv pl a++Dv pl b:=by unfold Dv;rw [List.filter_append]
theorem Lza {pl:Int}{p:Fsh×Fct}(h:A3a pl p.2):Dv pl [p]=[p]:=by unfold Dv;simp [h]
theorem movesE_no {pl:Int}{p:Fsh×Fct}(h:¬ A3a pl p.2):Dv pl [p]=[]:=by unfold Dv;simp [h]
open Classical in
theorem Tm {pl:Int}{l:List (Fsh×Fct)}{x:Fsh×Fct}:x∈Dv pl l↔x∈l∧A3a pl x.2:=by
 unfold Dv;rw [List.mem_filter,decide_eq_true_eq]
def Lia (day:Int) (z x:Fsh×Fct):Fsh×Fct:=if x.2.day≤day∧(z.2.day<x.2.day∨(x.2.day=z.2.day∧0<Jv x.2 z.2)) then x else z
def last0:Fct:={ Jp with day:=-1,mTo:=-1 }
def Ll (day:Int) (l:List (Fsh×Fct)):Fsh×Fct:=l.foldl (Lia day) (Nv,last0)
theorem Aia (day:Int)(l:List (Fsh×Fct))(x:Fsh×Fct):Ll day (l++[x])=Lia day (Ll day l) x:=by unfold Ll;rw [List.foldl_append];rfl
theorem lastE_in (day:Int)(l:List (Fsh×Fct)):Ll day l=(Nv,last0)∨Ll day l∈l:=by
 refine Rn (P:=fun l=>Ll day l=(Nv,last0)∨Ll day l∈l) (.inl rfl) (fun l x ih => ?_) l
 rw [Aia]
 unfold Lia
 split
 · exact .inr (by simp)
 · exact ih.imp id fun h=>by simp [h]
theorem Cg.day0 {f:Fct}(h:Cg f):0≤f.day:=h.1.1
theorem Jpa (h:Ro)(A:Option Addr)(n c:Nat)(player:Int):Res Tryz.prog 100 #[.slice A n c,.int .i64 player] h (fun u h'=>∃ bx bp,u=.func (.func 163) #[] #[.pointer (some ⟨bx,0,none⟩),.pointer (some ⟨bp,0,none⟩)]∧At h' ⟨bx,0,none⟩ [.slice A n c]∧At h' ⟨bp,0,none⟩ [.int .i64 player]):=by
 refine Bq (args:=[_,_]) ts_ok Go.Proofs.Tryz.func100 rfl rfl fun w0 X0 => ?_
 repeat' (first|apply Ac|apply Aa|apply Ab|(apply Ad;(iterate 3 exact J))|(apply Af;(iterate 3 exact J);(first|(apply Ao;exact J;intro b;skip))))
 refine Gf QK ?_
 intro h1 hle1 hc1
 refine Gf QK ?_
 intro h2 hle2 hc2
 (first|(apply Cb;(iterate 3 exact J)))
 first
  | exact ⟨_,_,rfl,hc2,hc1.le hle2⟩
  | exact ⟨_,_,rfl,hc1.le hle2,hc2⟩
open Classical in
theorem Joa (h:Ro)(A:Option Addr)(n c:Nat)(l:List (Fsh×Fct))(hx:Co h A n l)(player:Int)(bx bp:Nat)(hb:At h ⟨bx,0,none⟩ [.slice A n c])(hp:At h ⟨bp,0,none⟩ [.int .i64 player]):Zg Tryz.prog 163 [.pointer (some ⟨bx,0,none⟩),.pointer (some ⟨bp,0,none⟩)] FR (Dv player l) h:=by
 intro lid I Ix mI mIx hround Es h1 hle h0
 refine Bo (args:=[_,_,_]) ts_ok Go.Proofs.Tryz.func163 rfl rfl fun w0 X0 => ?_
 have hlen:=hx.row.len
 have hn:=hx.small
 have hb1:=hb.le hle
 have hp1:=hp.le hle
 repeat' (first|apply Ac|apply Ak|apply Aa|apply Ab|(apply Ad;(iterate 3 exact J))|(apply Bd;exact J;exact J;(first|(apply Ar;exact J;exact Bh rfl hb1 rfl));exact QA))
 refine Lh (X:=Nat×List Asn×Ro) (fun x=>x.1≤n∧Le h1 x.2.2∧I (Dv player (l.take x.1)) x.2.1 x.2.2) (fun x=>n-x.1) (fun x=>[(8,.int .i64 x.1),(7,.int .i64 n),(6,.slice A n c),(0,.func (.yield lid) #[] #[]),(2,.pointer (some ⟨bp,0,none⟩))])
  (fun x=>x.2.1) (fun x=>x.2.2) (0,Es,h1) ⟨by omega,Le.refl _,h0⟩ QS rfl rfl ?_
 rintro ⟨k,Es1,hk⟩ ⟨hkn,hlk,hI⟩ ih
 dsimp only at hkn hlk hI ih ⊢
 have hl1:Le h hk:=hle.trans hlk
 have hp2:=hp1.le hlk
 by_cases hkn2:k<n
 · have a1:=hx.row.addrD hkn2
   have c1:=(hx.row.cellsD p0 hkn2).le hl1
   have et:=Fq p0 (xs:=l) rfl (show k<l.length by omega)
   have hsplit:=Oz p0 (l:=l) rfl (show k<l.length by omega)
   have hfa:=hx.fat _ (mem7 p0 (show k<l.length by omega))
   generalize l.getD k p0=p at *
   have hch:=Na hk p.1 p.2 (hfa.1.le hl1) hfa.2
   have hyl:A3a player p.2→Yl Tryz.prog lid [Fc p.1 p.2] Es1 hk fun v Es' h'=>(v=.bool true∧I (Dv player (l.take (k+1))) Es' h')∨(v=.bool false∧Ix (Dv player (l.take (k+1))) Es' h'):=fun hv=>by
    have e1:=Lza hv
    have e2:Dv player (l.take (k+1))=Dv player (l.take k)++[p]:=by rw [et,Mh,e1]
    have e3:Dv player l=Dv player (l.take k)++p::Dv player (l.drop (k+1)):=by
     conv=>lhs;rw [hsplit]
     rw [Mh,show p::l.drop (k+1)=[p]++l.drop (k+1) from rfl,Mh,e1];rfl
    rw [e2]
    exact hround _ _ _ _ _ _ e3 hl1 rfl hI
   by_cases hv:A3a player p.2
   · have hv1:=hv.1
     have hv2:=hv.2.1
     rw [if_pos hv.2.2] at hch
     repeat' (first|apply Ac|apply Au|apply Ap|apply Ak|apply Aa|apply Ab|(apply Bg;(iterate 3 exact J);omega;exact J;exact J)|(apply Ad;(iterate 3 exact J))|(apply Ai;exact J;exact Av rfl QM rfl;exact J;exact J)|(apply Bd;exact J;exact J;(first|(apply Be (j:=k);(iterate 5 exact J);exact a1;(with_reducible exact J);omega)|(apply Ar;exact J;exact Bh rfl c1 rfl)|(apply Ar;exact J;exact Bh rfl hp2 rfl));exact QA)|(apply Af;(iterate 3 exact J);(first|(apply Ah;(iterate 3 exact J);exact QR;(iterate 3 exact J);skip)|(apply Ag;exact J;intro b;skip)|(apply Aq;exact J;exact Pv;exact hch;skip)|(refine Ho (List.perm_append_comm (l₁:=[_])) ?_;apply Iv (Es0:=Es1) (Fs:=[_]);(iterate 3 exact J);exact hyl hv;rintro v E2 h2 hle2 (⟨rfl,hP⟩|⟨rfl,hP⟩);all_goals skip)))|(apply Aj;exact J;all_goals (intro hc;try simp only [hcS,reduceCtorEq] at hc;try (exfalso;omega)))|(apply Ba;exact J;exact J;all_goals (intro hc;try simp only [hcS,reduceCtorEq] at hc;try (exfalso;omega))))
     all_goals first
      | (exfalso;omega)
      | (have h3:=ih (k+1,E2,h2) ⟨by show k+1≤n;omega,hlk.trans hle2,hP⟩ (by show n-(k+1)<n-k;omega)
         refine Iy (List.perm_append_comm (l₁:=E2) (l₂:=[_])) (Fv .here ?_)
         exact Hg QS h3)
      | (refine Lu (rs:=[]) (vs:=[]) (Fs:=E2) rfl rfl trivial (List.sublist_append_left _ _) (.inr ⟨Dv player (l.take (k+1)),Dv player (l.drop (k+1)),?_,hP⟩)
         rw [← Mh,List.take_append_drop])
   have hno:Dv player (l.take (k+1))=Dv player (l.take k):=by
    rw [et,Mh,movesE_no hv,List.append_nil]
   by_cases hk3:p.2.kind=6∧p.2.mP=player
   · rw [if_neg (fun h=>hv ⟨hk3.1,hk3.2,h⟩)] at hch
     repeat' (first|apply Ac|apply Au|apply Ap|apply Ak|apply Aa|apply Ab|(apply Aw;exact J;exact J)|(apply Bg;(iterate 3 exact J);omega;exact J;exact J)|(apply Ad;(iterate 3 exact J))|(apply Ai;exact J;exact Av rfl QM rfl;exact J;exact J)|(apply Bd;exact J;exact J;(first|(apply Be (j:=k);(iterate 5 exact J);exact a1;(with_reducible exact J);omega)|(apply Ar;exact J;exact Bh rfl c1 rfl)|(apply Ar;exact J;exact Bh rfl hp2 rfl));exact QA)|(apply Af;(iterate 3 exact J);(first|(apply Ah;(iterate 3 exact J);exact QR;(iterate 3 exact J);skip)|(apply Ag;exact J;intro b;skip)|(apply Aq;exact J;exact Pv;exact hch;skip)))|(apply Aj;exact J;all_goals (intro hc;try simp only [hcS,reduceCtorEq] at hc;try (exfalso;omega)))|(apply Ba;exact J;exact J;all_goals (intro hc;try simp only [hcS,reduceCtorEq] at hc;try (exfalso;omega))))
     all_goals
      have h3:=ih (k+1,Es1,hk) ⟨by show k+1≤n;omega,hlk,by show I (Dv player (l.take (k+1))) _ _;rw [hno];exact hI⟩ (by show n-(k+1)<n-k;omega)
      refine Fv .here ?_
      exact Hg QS h3
   · generalize (if Cg p.2 then (0:Int) else 70)=chv at hch
     repeat' (first|apply Ac|apply Au|apply Ap|apply Ak|apply Aa|apply Ab|(apply Aw;exact J;exact J)|(apply Bg;(iterate 3 exact J);omega;exact J;exact J)|(apply Ad;(iterate 3 exact J))|(apply Ai;exact J;exact Av rfl QM rfl;exact J;exact J)|(apply Bd;exact J;exact J;(first|(apply Be (j:=k);(iterate 5 exact J);exact a1;(with_reducible exact J);omega)|(apply Ar;exact J;exact Bh rfl c1 rfl)|(apply Ar;exact J;exact Bh rfl hp2 rfl));exact QA)|(apply Af;(iterate 3 exact J);(first|(apply Ah;(iterate 3 exact J);exact QR;(iterate 3 exact J);skip)|(apply Ag;exact J;intro b;skip)))|(apply Aj;exact J;all_goals (intro hc;try simp only [hcS,reduceCtorEq] at hc;try (exfalso;omega)))|(apply Ba;exact J;exact J;all_goals (intro hc;try simp only [hcS,reduceCtorEq] at hc;try (exfalso;omega))))
     all_goals first
      | (exfalso;exact hk3 ⟨by assumption,by assumption⟩)
      | (have h3:=ih (k+1,Es1,hk) ⟨by show k+1≤n;omega,hlk,by show I (Dv player (l.take (k+1))) _ _;rw [hno];exact hI⟩ (by show n-(k+1)<n-k;omega)
         refine Fv .here ?_
         exact Hg QS h3)
 · rw [List.take_of_length_le (by omega)] at hI
   repeat' (first|apply Ac|apply Aa|apply Ab|(apply Bn;exact J)|(apply Ad;(iterate 3 exact J))|(apply Aj;exact J;all_goals (intro hc;try simp only [hcS,reduceCtorEq] at hc;try (exfalso;omega))))
   exact Fe (rs:=[]) (vs:=[]) rfl rfl trivial (.inl hI)
theorem Dua (h:Ro)(hG:Kg h)(A:Option Addr)(n c:Nat)(l:List (Fsh×Fct))(hx:Co h A n l)(player day:Int):Res Tryz.prog 101 #[.slice A n c,.int .i64 player,.int .i64 day] h (fun u _=>u=.tuple #[.int .i64 (if (Ll day (Dv player l)).2.mTo<0 then 0 else (Ll day (Dv player l)).2.mTo),.bool (decide (0≤(Ll day (Dv player l)).2.mTo))]):=by
 refine Bq (args:=[_,_,_]) ts_ok Go.Proofs.Tryz.func101 rfl rfl fun w0 X0 => ?_
 repeat' (first|apply Ac|apply Ak|apply Aa|apply Ab|(apply Af;(iterate 3 exact J);apply Ag (e:=57);exact J;intro bL)|(apply Ad;(iterate 3 exact J))|(apply Af;(iterate 3 exact J);(first|(apply Ah;(iterate 3 exact J);exact QR;(iterate 3 exact J);skip)|(apply Ao;exact J;intro b;skip)|(apply Ay;exact J;exact has100;exact Jpa _ A n c player;rintro vr hr1 hle1 ⟨bx,bp,rfl,hcb,hcp⟩;skip))))
 generalize b=bD
 refine Cs (Es':=[Blk bL 57 (Dx Nv last0),Blk bD 3 [.int .i64 day]]) QT ?_
 refine Gg (R:=FR) (xs:=Dv player l) (gf:=163) (lb:=[.pointer (some ⟨bx,0,none⟩),.pointer (some ⟨bp,0,none⟩)]) rfl rfl has163 (Joa _ A n c l (hx.le hle1) player bx bp hcb hcp) (by rintro x u h2 rfl;rfl) rfl
  (fun pre Es h2=>Es=[Blk bL 57 (Dx (Ll day pre).1 (Ll day pre).2),Blk bD 3 [.int .i64 day]]) (fun _ _ _ _=>False)
  (fun pre Es h2 h3 hl e=>e) (fun _ _ _ _ _ _ h=>h.elim) rfl ?_ ?_ (fun _ _ _ _ _ _ _ _ h=>h.elim)
 · rintro lid r0 w1 X1 pre x post u Es1 h1 hxe rfl rfl hle hst
   have hm:∀ y∈Dv player l,FAt h1 y.1 y.2∧FSm y.2∧Cg y.2:=fun y hy=>by
    rw [Tm] at hy
    have:=hx.fat y hy.1
    exact ⟨this.1.le (hle1.trans hle),this.2,hy.2.2.2⟩
   obtain ⟨q1,q2,q3⟩:=hm x (by rw [hxe];simp)
   have hz:x.2.day=(Ll day pre).2.day→FAt h1 (Ll day pre).1 (Ll day pre).2∧FSm (Ll day pre).2∧Cg (Ll day pre).2:=fun e=>by
    rcases lastE_in day pre with e2|hin
    · have:=q3.day0
      rw [e2] at e
      rw [e] at this
      exact absurd this (by decide)
    · exact hm _ (by rw [hxe];simp [hin])
   rw [Aia]
   generalize Ll day pre=z at *
   obtain ⟨s,f⟩:=x
   obtain ⟨t,e⟩:=z
   unfold Lia
   dsimp only at q1 q2 q3 hz ⊢
   repeat' (first|apply Ac|apply Au|apply Ap|apply Ak|apply Aa|apply Ab|(apply Jf;exact J;exact QK;exact hst)|(apply Aw;exact J;exact J)|(apply Ad;(iterate 3 exact J))|(apply Ai;exact J;exact Av rfl QM rfl;exact J;exact J)|(apply Af;(iterate 3 exact J);(first|(apply Ah;(iterate 3 exact J);exact QR;(iterate 3 exact J);skip)|(apply Ag;exact J;intro b;skip)|(apply Ay;exact J;exact Vh;exact Hx _ (hG.le QL) s t f e (q1.le QL) q2 ((hz (by assumption)).1.le QL) (hz (by assumption)).2.1 q3 (hz (by assumption)).2.2;rintro v2 h2 hle2 rfl;skip)))|(apply Aj;exact J;all_goals (intro hc;try simp only [hcS,reduceCtorEq] at hc;try (exfalso;omega)))|(apply Ba;exact J;exact J;all_goals (intro hc;try simp only [hcS,reduceCtorEq] at hc;try (exfalso;omega))))
   all_goals first
    | (rw [if_pos (show f.day≤day∧(e.day<f.day∨(f.day=e.day∧0<Jv f e)) by omega)]
       refine Cs (Es':=[Ic lid { r0 with state:=.busy },Blk bL 57 (Dx s f),Blk bD 3 [.int .i64 day]]) QT (Nj (r0:=r0) rfl .here ?_)
       rfl)
    | (rw [if_neg (show ¬ (f.day≤day∧(e.day<f.day∨(f.day=e.day∧0<Jv f e))) by omega)]
       refine Cs (Es':=[Ic lid { r0 with state:=.busy },Blk bL 57 (Dx t e),Blk bD 3 [.int .i64 day]]) QT (Nj (r0:=r0) rfl .here ?_)
       rfl)
 · rintro D h1 Es1 hle rfl
   repeat' (first|apply Ac|apply Au|apply Ap|apply Aa|apply Ab|(apply Ad;(iterate 3 exact J))|(apply Ai;exact J;exact Av rfl QM rfl;exact J;exact J)|(apply Aj;exact J;all_goals (intro hc;try simp only [hcS,reduceCtorEq] at hc;try (exfalso;omega))))
   · refine Cxa (Nf rfl QK (Rt_S (rs:=[.tmp 6,.tmp 7]) (vs:=[.int .i64 0,.bool false]) rfl rfl ⟨rfl,rfl,trivial⟩ (List.nil_sublist _) ⟨rfl,?_⟩))
     rw [if_pos hc,decide_eq_false (by omega)]
     rfl
   · refine Cxa (Nf rfl QK (Rt_S (rs:=[.tmp 6,.tmp 7]) (vs:=[.int .i64 (Ll day (Dv player l)).2.mTo,.bool true]) rfl rfl ⟨rfl,rfl,trivial⟩ (List.nil_sublist _) ⟨rfl,?_⟩))
     rw [if_neg (by omega),decide_eq_true hc]
     rfl
end Go.Hw
set_option maxHeartbeats 8000000
namespace Go.Hw
open Go
attribute [local irreducible] GO GOl GDp Val Fn Res At Fx Blk By Dk Cl Has Yl Mn Ew Yx Vd Md Pq Ga Um Jl Tl C3a Vr
open Go.Proofs (Tryz.prog)
theorem L5a {l:List (Fsh×Fct)}(pl day:Int):(Ll day (Dv pl l)).2=C3a (fcs l) pl day:=by
 have e:fcs (Dv pl l)=Afa pl (fcs l):=by
  unfold Dv Afa fcs
  rw [List.filter_map]
  rfl
 unfold C3a Ll
 rw [← e]
 unfold fcs
 have go:∀ (ms:List (Fsh×Fct)) (z:Fsh×Fct),(ms.foldl (Lia day) z).2=(ms.map (·.2)).foldl (Gfa day) z.2:=by
  intro ms
  induction ms with
  | nil=>intro z;rfl
  | cons x r ih =>
    intro z
    rw [List.foldl_cons,ih,List.map_cons,List.foldl_cons]
    congr 1
    unfold Lia Gfa
    split <;> rfl
 exact go (Dv pl l) (Nv,last0)
theorem Ada {l:List (Fsh×Fct)}{pl:Int}:Dv pl l=[]↔¬ ∃ x∈fcs l,K1a pl x:=by
 rw [List.eq_nil_iff_forall_not_mem]
 constructor
 · rintro h ⟨f,hf,q⟩
   unfold fcs at hf
   obtain ⟨p,hp,rfl⟩:=List.mem_map.1 hf
   exact h p (Tm.2 ⟨hp,q⟩)
 · intro h p hp
   have:=Tm.1 hp
   exact h ⟨p.2,List.mem_map.2 ⟨p,this.1,rfl⟩,this.2⟩
def Fta (L:List Fct) (p day club:Int):Prop:=0≤(C3a L p day).mTo∧(C3a L p day).mTo=club
noncomputable def regV (L:List Fct) (p day:Int):Value:=.tuple #[.int .i64 (if (C3a L p day).mTo<0 then 0 else (C3a L p day).mTo),.bool (decide (0≤(C3a L p day).mTo))]
theorem Bia (h:Ro)(hG:Kg h)(A:Option Addr)(n c:Nat)(l:List (Fsh×Fct))(hx:Co h A n l)(player day:Int):Res Tryz.prog 101 #[.slice A n c,.int .i64 player,.int .i64 day] h (fun u _=>u=regV (fcs l) player day):=by
 have:=Dua h hG A n c l hx player day
 rw [L5a] at this
 exact this
open Classical in
theorem off1_c (h:Ro)(hG:Kg h)(A:Option Addr)(n c:Nat)(l:List (Fsh×Fct))(hx:Co h A n l)(m:Int×Int)(b2 b6:Nat)(s:Fsh×Bz)(h2:At h ⟨b2,0,none⟩ [.slice A n c])(h6:At h ⟨b6,0,none⟩ (Jj s)):Res Tryz.prog 99 #[.agg (Ij m).toArray,.pointer (some ⟨b2,0,none⟩),.pointer (some ⟨b6,0,none⟩)] h (fun u _=>u=.bool (!decide ((∃ x∈fcs l,K1a m.1 x)∧¬ Fta (fcs l) m.1 s.2.day m.2))):=by
 refine Bq (args:=[_,_,_]) ts_ok Go.Proofs.Tryz.func99 rfl rfl fun w0 X0 => ?_
 obtain ⟨p,cl⟩:=m
 obtain ⟨sf,sc⟩:=s
 dsimp only
 obtain ⟨vb,hvb⟩:∃ vb:Bool,(vb=true↔Fta (fcs l) p sc.day cl):=⟨decide (Fta (fcs l) p sc.day cl),by simp⟩
 repeat' (first|apply Ac|apply Ak|apply Aa|apply Ab|(apply Af;(iterate 3 exact J);apply Ao (e:=187);exact J;intro b3)|(apply Af;(iterate 3 exact J);apply Ag (e:=4);exact J;intro b4)|(apply Ad;(iterate 3 exact J))|(apply Ai;exact J;exact Av rfl QM rfl;exact J;exact J)|(apply Bd;exact J;exact J;(first|(apply Ar;exact J;exact Bh rfl h2 rfl));exact QA)|(apply Af;(iterate 3 exact J);(first|(apply Ay;exact J;exact has100;exact Jpa _ A n c p;rintro vr hr1 hle1 ⟨bx,bp,rfl,hcb,hcp⟩;skip))))
 refine Cs (Es':=[Blk b4 4 [.bool false],Blk b3 187 (Ij (p,cl))]) QT ?_
 refine Gg (R:=FR) (xs:=Dv p l) (gf:=163) (lb:=[.pointer (some ⟨bx,0,none⟩),.pointer (some ⟨bp,0,none⟩)]) rfl rfl has163 (Joa _ A n c l (hx.le hle1) p bx bp hcb hcp) (by rintro x u h2 rfl;rfl) rfl
  (fun pre Es h2=>pre=[]∧Es=[Blk b4 4 [.bool false],Blk b3 187 (Ij (p,cl))])
  (fun cd pre Es h2=>cd=.ret∧pre≠[]∧Es=[Blk b4 4 [.bool vb]])
  (fun pre Es h2 h3 hl e=>e) (fun _ _ _ _ _ _ h=>h) ⟨rfl,rfl⟩ ?_ ?_ ?_
 · rintro lid r0 w1 X1 pre x post u Es1 h1 hxe rfl ⟨rfl,rfl⟩ hle hst
   have hrg:=fun h' (hl:Le h1 h')=>Bia h' (hG.le (hle1.trans (hle.trans hl))) A n c l (hx.le (hle1.trans (hle.trans hl))) p sc.day
   have h2':=(h2.le hle1).le hle
   have h6':=(h6.le hle1).le hle
   unfold regV at hrg
   have hv:vb=true↔0≤(C3a (fcs l) p sc.day).mTo∧(C3a (fcs l) p sc.day).mTo=cl:=hvb
   clear hvb
   generalize (C3a (fcs l) p sc.day).mTo=t at *
   by_cases ht:0≤t
   · rw [if_neg (show ¬ t<0 by omega),decide_eq_true ht] at hrg
     have e:eqI t cl=vb:=by rw [Bool.eq_iff_iff,Kt,hv];exact ⟨fun q=>⟨ht,q⟩,fun q=>q.2⟩
     subst e
     repeat' (first|apply Ac|apply Au|apply Ak|apply Aa|apply Ab|(apply Jf;exact J;exact QK;exact hst)|(apply Ad;(iterate 3 exact J))|(apply Ai;exact J;exact Av rfl QM rfl;exact J;exact J)|(apply Bd;exact J;exact J;(first|(apply Ar;exact J;exact Bh rfl h2' rfl)|(apply Ar;exact J;exact Dc rfl h6' rfl));exact QA)|(apply Af;(iterate 3 exact J);(first|(apply Ah;(iterate 3 exact J);exact QR;(iterate 3 exact J);skip)|(apply Ay;exact J;exact has101;exact hrg _ QL;rintro v2 h3 hle3 rfl;skip))))
     all_goals first
      | (refine Cs (Es':=[Ic lid { r0 with state:=.busy },Blk b4 4 [.bool (eqI t cl)]]) QT (GO_rRet (r0:=r0) rfl .here ⟨rfl,by simp,rfl⟩))
   · rw [if_pos (show t<0 by omega),decide_eq_false ht] at hrg
     have e:vb=false:=by rw [← Bool.not_eq_true,hv];exact fun q=>ht q.1
     subst e
     repeat' (first|apply Ac|apply Au|apply Ak|apply Aa|apply Ab|(apply Jf;exact J;exact QK;exact hst)|(apply Aw;exact J;exact J)|(apply Ad;(iterate 3 exact J))|(apply Ai;exact J;exact Av rfl QM rfl;exact J;exact J)|(apply Bd;exact J;exact J;(first|(apply Ar;exact J;exact Bh rfl h2' rfl)|(apply Ar;exact J;exact Dc rfl h6' rfl));exact QA)|(apply Af;(iterate 3 exact J);(first|(apply Ah;(iterate 3 exact J);exact QR;(iterate 3 exact J);skip)|(apply Ay;exact J;exact has101;exact hrg _ QL;rintro v2 h3 hle3 rfl;skip))))
     all_goals first
      | (refine Cs (Es':=[Ic lid { r0 with state:=.busy },Blk b4 4 [.bool false]]) QT (GO_rRet (r0:=r0) rfl .here ⟨rfl,by simp,rfl⟩))
 · rintro D h1 Es1 hle ⟨hnil,rfl⟩
   have hno:=Ada.1 hnil
   rw [show (!decide ((∃ x∈fcs l,K1a p x)∧¬ Fta (fcs l) p sc.day cl))=true from by rw [decide_eq_false (fun q=>hno q.1)];rfl]
   repeat' (first|apply Ac|apply Ap|apply Aa|apply Ab|(apply Af;(iterate 3 exact J);(first|(apply Ah;(iterate 3 exact J);exact QR;(iterate 3 exact J);skip))))
   all_goals
    refine Cxa (Nf rfl QK (Rt_S (rs:=[.cell 4 4]) (vs:=[.bool true]) rfl rfl ⟨⟨_,rfl,Av rfl QM rfl⟩,trivial⟩ (List.nil_sublist _) ⟨rfl,rfl⟩))
 · rintro D h1 Es1 cd pre post hxe hle ⟨rfl,hne,rfl⟩
   have hyes:∃ x∈fcs l,K1a p x:=by
    refine Classical.byContradiction fun q => ?_
    rw [Ada.2 q] at hxe
    have:=(List.append_eq_nil_iff.1 hxe.symm).1
    exact hne this
   rw [show (!decide ((∃ x∈fcs l,K1a p x)∧¬ Fta (fcs l) p sc.day cl))=vb from by
    cases vb
    · rw [decide_eq_true ⟨hyes,fun q=>by have:=hvb.2 q;cases this⟩];rfl
    · rw [decide_eq_false (fun w=>w.2 (hvb.1 rfl))];rfl]
   refine Cxa (Nf rfl QK (Rt_S (rs:=[.cell 4 4]) (vs:=[.bool vb]) rfl rfl ⟨⟨_,rfl,Av rfl QM rfl⟩,trivial⟩ (List.nil_sublist _) ⟨rfl,rfl⟩))
theorem off2_c (h:Ro)(hG:Kg h)(A:Option Addr)(n c:Nat)(l:List (Fsh×Fct))(hx:Co h A n l)(m:Int×Int)(b2 b6:Nat)(s:Fsh×Bz)(h2:At h ⟨b2,0,none⟩ [.slice A n c])(h6:At h ⟨b6,0,none⟩ (Jj s)):Res Tryz.prog 102 #[.agg (Ij m).toArray,.pointer (some ⟨b2,0,none⟩),.pointer (some ⟨b6,0,none⟩)] h (fun u _=>u=.bool (Zk (Da (fcs l)) m.1 s.2.day)):=by
 refine Bq (args:=[_,_,_]) ts_ok Go.Proofs.Tryz.func102 rfl rfl fun w0 X0 => ?_
 repeat' (first|apply Ac|apply Aa|apply Ab|(apply Ad;(iterate 3 exact J))|(apply Ai;exact J;exact Av rfl QM rfl;exact J;exact J)|(apply Bd;exact J;exact J;(first|(apply Ar;exact J;exact Bh rfl h2 rfl)|(apply Ar;exact J;exact Dc rfl h6 rfl));exact QA)|(apply Af;(iterate 3 exact J);(first|(apply Ao;exact J;intro b;skip)|(apply Ay;exact J;exact has103;exact Unfit_c _ (hG.le QL) A n c l (hx.le QL) m.1 s.2.day;rintro v2 h3 hle3 rfl;skip))))
 all_goals first
  | ((first|(apply Cb;(iterate 3 exact J)));rfl)
theorem off3_c (h:Ro)(m:Int×Int)(b7 bm:Nat)(mm:List (Int×Bool))(h7:At h ⟨b7,0,none⟩ [.map (some bm)]):Fn Tryz.prog 104 #[.agg (Ij m).toArray,.pointer (some ⟨b7,0,none⟩)] [Dk ekN Value.bool bm mm] h (fun u Es _=>u=.bool ((Cv m.1 mm).getD false)∧Es=[Dk ekN Value.bool bm mm]):=by
 refine Bo (args:=[_,_]) ts_ok Go.Proofs.Tryz.func104 rfl rfl fun w0 X0 => ?_
 have hK:=KN
 repeat' (first|apply Ac|apply Aa|apply Ab|(apply Ad;(iterate 3 exact J))|(apply Ai;exact J;exact Av rfl QM rfl;exact J;exact J)|(apply Bd;exact J;exact J;(first|(apply Ar;exact J;exact Bh rfl h7 rfl)|(apply Er (ek:=ekN) (ev:=Value.bool) (z0:=false) (key:=m.1) (b:=bm) (m:=mm) hK;(iterate 7 exact J)));exact QA)|(apply Af;(iterate 3 exact J);(first|(apply Ao;exact J;intro b;skip))))
 all_goals first
  | (exact Ca rfl rfl rfl (by (repeat (first|exact List.Sublist.refl _|exact List.nil_sublist _|apply List.Sublist.cons_cons|apply List.Sublist.cons));done) ⟨rfl,rfl⟩)
def BanIs (S:List Mr) (g:Bl) (mm:List (Int×Bool)):Prop:=∀ p,(Cv p mm).getD false=true↔∃ s∈S,s.p=p∧s.g=g
def resV2 (b2 b6 b7:Nat):List Value:=[.func (.func 99) #[] #[.pointer (some ⟨b2,0,none⟩),.pointer (some ⟨b6,0,none⟩)],.func (.func 102) #[] #[.pointer (some ⟨b2,0,none⟩),.pointer (some ⟨b6,0,none⟩)],.func (.func 104) #[] #[.pointer (some ⟨b7,0,none⟩)]]
open Classical in
theorem offends_c (h:Ro)(hG:Kg h)(A:Option Addr)(n c:Nat)(l:List (Fsh×Fct))(hx:Co h A n l)(m:Int×Int)(b2 b6 b7 bm:Nat)(s:Fsh×Bz)(h2:At h ⟨b2,0,none⟩ [.slice A n c])(h6:At h ⟨b6,0,none⟩ (Jj s))(mm:List (Int×Bool))(h7:At h ⟨b7,0,none⟩ [.map (some bm)])(S:List Mr)(g:Bl)(hb:BanIs S g mm) :
  Fn Tryz.prog 106 #[.agg (resV2 b2 b6 b7).toArray,.agg (Ij m).toArray] [Dk ekN Value.bool bm mm] h (fun u Es _=>u=.bool (decide (Nga (fcs l) S g s.2.day m.2 m.1))∧Es=[Dk ekN Value.bool bm mm]):=by
 refine Bo (args:=[_,_]) ts_ok Go.Proofs.Tryz.func106 rfl rfl fun w0 X0 => ?_
 have h1:=fun h' (hl:Le h h')=>off1_c h' (hG.le hl) A n c l (hx.le hl) m b2 b6 s (h2.le hl) (h6.le hl)
 have h3:=fun h' (hl:Le h h')=>off2_c h' (hG.le hl) A n c l (hx.le hl) m b2 b6 s (h2.le hl) (h6.le hl)
 have h4:=fun h' (hl:Le h h')=>off3_c h' m b7 bm mm (h7.le hl)
 have hO:Nga (fcs l) S g s.2.day m.2 m.1↔((∃ x∈fcs l,K1a m.1 x)∧¬ Fta (fcs l) m.1 s.2.day m.2)∨Zk (Da (fcs l)) m.1 s.2.day=true∨(Cv m.1 mm).getD false=true:=by
  unfold Nga Fta
  rw [hb m.1]
 by_cases q1:(∃ x∈fcs l,K1a m.1 x)∧¬ Fta (fcs l) m.1 s.2.day m.2
 · rw [decide_eq_true q1] at h1
   rw [decide_eq_true (hO.2 (.inl q1))]
   clear h3 h4
   repeat' (first|apply Ac|apply Aa|apply Ab|(apply Aw;exact J;exact J)|(apply Ad;(iterate 3 exact J))|(apply Ai;exact J;exact Av rfl QM rfl;exact J;exact J)|(apply Af;(iterate 3 exact J);(first|(apply Ao;exact J;intro b;skip)|(apply Gh (f:=99) (fs:=[]) (cs:=[.pointer (some ⟨b2,0,none⟩),.pointer (some ⟨b6,0,none⟩)]);exact J;exact J;exact has99;exact h1 _ QL;rintro v2 h3 hle3 rfl;skip))))
   all_goals first
    | (exact Ca rfl rfl rfl (by (repeat (first|exact List.Sublist.refl _|exact List.nil_sublist _|apply List.Sublist.cons_cons|apply List.Sublist.cons));done) ⟨rfl,rfl⟩)
 · rw [decide_eq_false q1] at h1
   cases q2:Zk (Da (fcs l)) m.1 s.2.day with
   | true =>
     rw [q2] at h3
     rw [decide_eq_true (hO.2 (.inr (.inl q2)))]
     clear h4
     repeat' (first|apply Ac|apply Aa|apply Ab|(apply Aw;exact J;exact J)|(apply Ad;(iterate 3 exact J))|(apply Ai;exact J;exact Av rfl QM rfl;exact J;exact J)|(apply Af;(iterate 3 exact J);(first|(apply Ao;exact J;intro b;skip)|(apply Gh (f:=99) (fs:=[]) (cs:=[.pointer (some ⟨b2,0,none⟩),.pointer (some ⟨b6,0,none⟩)]);exact J;exact J;exact has99;exact h1 _ QL;rintro v2 h5 hle5 rfl;skip)|(apply Gh (f:=102) (fs:=[]) (cs:=[.pointer (some ⟨b2,0,none⟩),.pointer (some ⟨b6,0,none⟩)]);exact J;exact J;exact has102;exact h3 _ QL;rintro v4 h6 hle6 rfl;skip))))
     all_goals first
      | (exact Ca rfl rfl rfl (by (repeat (first|exact List.Sublist.refl _|exact List.nil_sublist _|apply List.Sublist.cons_cons|apply List.Sublist.cons));done) ⟨rfl,rfl⟩)
   | false =>
     rw [q2] at h3
     have e:decide (Nga (fcs l) S g s.2.day m.2 m.1)=(Cv m.1 mm).getD false:=by
      rw [Bool.eq_iff_iff,decide_eq_true_eq,hO,q2]
      exact ⟨fun w=>(w.resolve_left q1).resolve_left (by simp),fun w=>.inr (.inr w)⟩
     rw [e]
     generalize (Cv m.1 mm).getD false=bb at *
     repeat' (first|apply Ac|apply Aa|apply Ab|(apply Ad;(iterate 3 exact J))|(apply Ai;exact J;exact Av rfl QM rfl;exact J;exact J)|(apply Af;(iterate 3 exact J);(first|(apply Ao;exact J;intro b;skip)|(apply Gh (f:=99) (fs:=[]) (cs:=[.pointer (some ⟨b2,0,none⟩),.pointer (some ⟨b6,0,none⟩)]);exact J;exact J;exact has99;exact h1 _ QL;rintro v2 h5 hle5 rfl;skip)|(apply Gh (f:=102) (fs:=[]) (cs:=[.pointer (some ⟨b2,0,none⟩),.pointer (some ⟨b6,0,none⟩)]);exact J;exact J;exact has102;exact h3 _ QL;rintro v4 h6 hle6 rfl;skip)|(apply Fp (f:=104) (fs:=[]) (cs:=[.pointer (some ⟨b7,0,none⟩)]);exact J;exact J;exact has104;exact h4 _ QL;exact QT;rintro v5 Es5 h8 hle8 ⟨rfl,rfl⟩;skip))))
     all_goals first
      | (exact Ca rfl rfl rfl (by (repeat (first|exact List.Sublist.refl _|exact List.nil_sublist _|apply List.Sublist.cons_cons|apply List.Sublist.cons));done) ⟨rfl,rfl⟩)
def OffOut (h:Ro) (u:Value) (o:List Int×List Int):Prop:=∃ A1 c1 A2 c2,u=.tuple #[.slice A1 o.1.length c1,.slice A2 o.2.length c2]∧Cc Ex 1 h A1 o.1.length o.1∧Cc Ex 1 h A2 o.2.length o.2
open Classical in
theorem off4_c (h:Ro)(hG:Kg h)(A:Option Addr)(n c:Nat)(l:List (Fsh×Fct))(hx:Co h A n l)(B:Option Addr)(nb d:Nat)(sq:List Int)(hsq:Cc Ex 1 h B nb sq)(hnb:nb≤1000000)(cl:Int)(b2 b6 b7 b10 bm:Nat)(s:Fsh×Bz)(h2:At h ⟨b2,0,none⟩ [.slice A n c])(h6:At h ⟨b6,0,none⟩ (Jj s))(mm:List (Int×Bool))(h7:At h ⟨b7,0,none⟩ [.map (some bm)])(h10:At h ⟨b10,0,none⟩ (resV2 b2 b6 b7))(S:List Mr)(g:Bl)(hb:BanIs S g mm) :
  Fn Tryz.prog 105 #[.slice B nb d,.int .i64 cl,.pointer (some ⟨b10,0,none⟩)] [Dk ekN Value.bool bm mm] h (fun u Es h'=>∃ A' c',u=.slice A' (Vr (fcs l) S g s.2.day cl sq).length c'∧Cc Ex 1 h' A' (Vr (fcs l) S g s.2.day cl sq).length (Vr (fcs l) S g s.2.day cl sq)∧Es=[Dk ekN Value.bool bm mm]):=by
 refine Bo (args:=[_,_,_]) ts_ok Go.Proofs.Tryz.func105 rfl rfl fun w0 X0 => ?_
 have hof:=fun h' (hl:Le h h') p=>offends_c h' (hG.le hl) A n c l (hx.le hl) (p,cl) b2 b6 b7 bm s (h2.le hl) (h6.le hl) mm (h7.le hl) S g hb
 have hlen:=hsq.len
 have hsn:=offS_snoc (fcs l) S g s.2.day cl
 have hsl:=Bma (fcs l) S g s.2.day cl
 have hO0:Vr (fcs l) S g s.2.day cl []=[]:=by unfold Vr;rfl
 dsimp only at hof
 obtain ⟨qb,hqb⟩:∃ qb:Int→Bool,∀ p,qb p=decide (Nga (fcs l) S g s.2.day cl p):=⟨_,fun _=>rfl⟩
 have hof:∀ h' (hl:Le h h') p,Fn Tryz.prog 106 #[.agg (resV2 b2 b6 b7).toArray,.agg (Ij (p,cl)).toArray] [Dk ekN Value.bool bm mm] h' (fun u Es _=>u=.bool (qb p)∧Es=[Dk ekN Value.bool bm mm]):=fun h' hl p=>by rw [hqb p];exact hof h' hl p
 have hsn:∀ sq p,Vr (fcs l) S g s.2.day cl (sq++[p])=if qb p=true then Vr (fcs l) S g s.2.day cl sq++[p] else Vr (fcs l) S g s.2.day cl sq:=fun sq p=>by
  rw [hsn sq p,hqb p]
  by_cases q:Nga (fcs l) S g s.2.day cl p
  · rw [if_pos q,decide_eq_true q,if_pos rfl]
  · rw [if_neg q,decide_eq_false q,if_neg (by simp)]
 clear hqb
 generalize Vr (fcs l) S g s.2.day cl=O at *
 clear hx h2 h6 h7 hb
 repeat' (first|apply Ac|apply Ak|apply Aa|apply Ab|(apply Ad;(iterate 3 exact J)))
 refine Eh 3 1 ?_
 refine Bt (X:=Nat×List Int×Option Addr×Nat×Ro) (fun x=>x.1≤nb∧Le h x.2.2.2.2∧x.2.1=O (sq.take x.1)) (fun x=>nb-x.1)
  (fun x=>[(10,.int .i64 x.1),(9,.int .i64 nb),(8,.slice B nb d),(5,.slice x.2.2.1 x.2.1.length x.2.2.2.1),(1,.int .i64 cl),(2,Pt b10)])
  (fun x=>[By 3 1 (.slice x.2.2.1 x.2.1.length x.2.2.2.1) x.2.1.length (x.2.1.flatMap Ex),Dk ekN Value.bool bm mm]) (fun x=>x.2.2.2.2) (0,[],none,0,h) ⟨by dsimp only;omega,Le.refl _,hO0.symm⟩ QS QT rfl ?_
 rintro ⟨k,out,A4,c4,hh⟩ ⟨hk,hle,ho⟩ ih
 dsimp only at hk hle ho ih ⊢
 have hol:out.length≤k:=by
  rw [ho]
  refine Nat.le_trans (hsl _) ?_
  rw [List.length_take];omega
 by_cases hkn:k<nb
 · have a1:=hsq.addrD hkn
   have c1:At hh ((addrD B).add (k * ty3.size)) (Ex (sq.getD k 0)):=(hsq.cellsD 0 hkn).le hle
   have et:=Fq 0 (xs:=sq) hlen hkn
   have c10:=h10.le hle
   generalize sq.getD k 0=p at *
   have e0:=hsn (sq.take k) p
   rw [← et,← ho] at e0
   have hof:=fun h' (hl:Le hh h')=>hof h' (hle.trans hl) p
   cases hq:qb p with
   | true =>
     rw [hq] at e0 hof
     rw [if_pos rfl] at e0
     clear hsn hsl
     repeat' (first|apply Ac|apply Au|apply Ap|apply Ak|apply Aa|apply Ab|(apply Bg;(iterate 3 exact J);omega;exact J;exact J)|(apply Ad;(iterate 3 exact J))|(apply Bd;exact J;exact J;(first|(apply Be (j:=k);(iterate 5 exact J);exact a1;(with_reducible exact J);omega)|(apply Ar;exact J;apply Bh;exact J;(with_reducible exact c1);exact J)|(apply Ar;exact J;apply Bh;exact J;(with_reducible exact c10);exact J));exact QA)|(apply Af;(iterate 3 exact J);(first|(apply Bi;exact J;exact has106;exact hof _ QL;exact QT;rintro v5 Es5 h8 hle8 ⟨rfl,rfl⟩;skip)|(apply Bc (enc:=Ex) (n:=1) [p];(iterate 3 exact J);exact List.cons_ne_nil _ _;(iterate 4 exact J);exact fun _=>rfl;exact J;exact J;intro b5 h9 hle9 hs5;skip)|(apply Bk (enc:=Ex) (xs:=out);(iterate 7 exact J);exact hs5;exact fun _=>rfl;exact fun x=>Ci rfl;intro v1;exact QR;omega;exact J;intro A5 c5;skip)))|(apply Aj;exact J;all_goals (intro hc;try simp only [hcS,reduceCtorEq] at hc;try (exfalso;omega))))
     all_goals first
      | (exfalso;omega)
      | (exfalso;simp at hc;done)
      | (have h3:=ih (k+1,out++[p],A5,c5,h9) ⟨by dsimp only;omega,hle.trans (hle8.trans hle9),by dsimp only;rw [e0]⟩ (by dsimp only;omega)
         dsimp only at h3
         rw [List.length_append] at h3
         refine Bw QS QT (h3))
   | false =>
     rw [hq] at e0 hof
     rw [if_neg (by simp)] at e0
     clear hsn hsl
     repeat' (first|apply Ac|apply Au|apply Ap|apply Ak|apply Aa|apply Ab|(apply Bg;(iterate 3 exact J);omega;exact J;exact J)|(apply Ad;(iterate 3 exact J))|(apply Bd;exact J;exact J;(first|(apply Be (j:=k);(iterate 5 exact J);exact a1;(with_reducible exact J);omega)|(apply Ar;exact J;apply Bh;exact J;(with_reducible exact c1);exact J)|(apply Ar;exact J;apply Bh;exact J;(with_reducible exact c10);exact J));exact QA)|(apply Af;(iterate 3 exact J);(first|(apply Bi;exact J;exact has106;exact hof _ QL;exact QT;rintro v5 Es5 h8 hle8 ⟨rfl,rfl⟩;skip)))|(apply Aj;exact J;all_goals (intro hc;try simp only [hcS,reduceCtorEq] at hc;try (exfalso;omega))))
     all_goals first
      | (exfalso;omega)
      | (exfalso;simp at hc;done)
      | (have h3:=ih (k+1,out,A4,c4,h8) ⟨by dsimp only;omega,hle.trans hle8,by dsimp only;rw [e0]⟩ (by dsimp only;omega)
         dsimp only at h3
         refine Bw QS QT (h3))
 · rw [List.take_of_length_le (by omega)] at ho
   clear ih hof hsn hsl
   rw [← ho]
   refine Ge (enc:=Ex) (e:=3) (sz:=1) (n:=out.length) (xs:=out) (fun _=>rfl) rfl QK ?_
   intro A7 c7 h8 hle8 e7 hnc7 hs7
   cases e7
   repeat' (first|apply Ac|apply Aa|apply Ab|(apply Bn;exact J)|(apply Ad;(iterate 3 exact J))|(apply Aj;exact J;all_goals (intro hc;try simp only [hcS,reduceCtorEq] at hc;try (exfalso;omega))))
   all_goals first
    | (exfalso;omega)
    | (exact Ca rfl rfl rfl (by (repeat (first|exact List.Sublist.refl _|exact List.nil_sublist _|apply List.Sublist.cons_cons|apply List.Sublist.cons));done) ⟨A4,c4,rfl,hs7,rfl⟩)
def banM (g:Bl) (S:List Mr):List (Int×Bool):=S.foldl (fun m s=>if s.g=g then Jo s.p true m else m) []
theorem Fla (g:Bl)(S:List Mr)(s:Mr):banM g (S++[s])=if s.g=g then Jo s.p true (banM g S) else banM g S:=by unfold banM;rw [List.foldl_append];rfl
theorem banM_is (g:Bl)(S:List Mr):BanIs S g (banM g S):=by
 refine Dka (P:=fun S=>BanIs S g (banM g S)) (fun p => ?_) (fun S s ih p => ?_) S
 · constructor
   · intro h;cases h
   · rintro ⟨s,hs,_⟩;cases hs
 · rw [Fla]
   have:=ih p
   by_cases hg:s.g=g
   · rw [if_pos hg,To]
     by_cases hp:s.p=p
     · rw [if_pos hp]
       exact ⟨fun _=>⟨s,by simp,hp,hg⟩,fun _=>rfl⟩
     · rw [if_neg hp,this]
       constructor
       · rintro ⟨t,h1,h2⟩;exact ⟨t,by simp [h1],h2⟩
       · rintro ⟨t,h1,h2⟩
         rw [List.mem_append,List.mem_singleton] at h1
         rcases h1 with h1|rfl
         · exact ⟨t,h1,h2⟩
         · exact absurd h2.1 hp
   · rw [if_neg hg,this]
     constructor
     · rintro ⟨t,h1,h2⟩;exact ⟨t,by simp [h1],h2⟩
     · rintro ⟨t,h1,h2⟩
       rw [List.mem_append,List.mem_singleton] at h1
       rcases h1 with h1|rfl
       · exact ⟨t,h1,h2⟩
       · exact absurd h2.2 hg
theorem offL_no {L:List Fct}{g:Bl}(h:(Cm L g).kind≠2):Aaa L g=([],[]):=by unfold Aaa;rw [if_neg h]
theorem offL_yes {L:List Fct}{g:Bl}{x:Bz}(hx:Cm L g=x)(h:x.kind=2):Aaa L g=(Vr L (Md (Yx L g.s g.c)) g x.day g.h x.sh.hs,Vr L (Md (Yx L g.s g.c)) g x.day g.a x.sh.asn):=by unfold Aaa;rw [hx,if_pos h]
def su0:Mr:=⟨0,0,Hja⟩
theorem Ila (h:Ro)(hG:Kg h)(A:Option Addr)(n c:Nat)(l:List (Fsh×Fct))(hx:Co h A n l)(hn6:n≤65536)(g:Bl):Res Tryz.prog 62 #[.slice A n c,Fr g] h (fun u h'=>OffOut h' u (Aaa (fcs l) g)):=by
 refine Bq (args:=[_,_]) ts_ok Go.Proofs.Tryz.func62 rfl rfl fun w0 X0 => ?_
 have hsc:=fun h' (hl:Le h h')=>Bda h' (hG.le hl) A n c l (hx.le hl) g
 have hsu:=fun h' (hl:Le h h')=>Cpa h' (hG.le hl) A n c l (hx.le hl) hn6 g.s g.c
 have hno:=offL_no (L:=fcs l) (g:=g)
 have hyes:=fun x=>offL_yes (L:=fcs l) (g:=g) (x:=x)
 have hsh:=Fk (Gx hx) (g:=g)
 rw [show Ara l=fcs l from rfl] at hsc
 generalize hsx:Cm (fcs l) g=x at *
 generalize Md (Yx (fcs l) g.s g.c)=S at *
 by_cases hk2:x.kind=2
 case' neg =>
  rw [hno hk2]
  clear hsu hno hyes
  repeat' (first|apply Ac|apply Aa|apply Ab|(apply Ad;(iterate 3 exact J))|(apply Ai;exact J;exact Av rfl QM rfl;exact J;exact J)|(apply Af;(iterate 3 exact J);(first|(apply Ah;(iterate 3 exact J);exact QR;(iterate 3 exact J);skip)|(apply Ao;exact J;intro b;skip)|(apply Ag;exact J;intro b;skip)|(apply Ay;exact J;exact Hca;exact hsc _ QL;rintro w2 h2 hle2 ⟨s,rfl,hs1,hs2⟩;skip)))|(apply Aj;exact J;all_goals (intro hc;try simp only [hcS,reduceCtorEq] at hc;try (exfalso;omega))))
  all_goals first
   | (exfalso;omega)
   | (exact Df rfl rfl rfl rfl ⟨none,0,none,0,rfl,Cc.nil,Cc.nil⟩)
 have hyes:=hyes x rfl hk2
 have hsz:x.sh.hs.length≤1000000∧x.sh.asn.length≤1000000:=by
  obtain ⟨f,_,ok,kf,e,_⟩:=hsh hk2
  have:=ok.2.2.1
  unfold Fb at this
  rw [if_neg (by omega),if_neg (by omega),if_pos kf,e] at this
  have h1:=this.2.2.2.2.2.1.1
  have h2:=this.2.2.2.2.2.2.1.1
  omega
 rw [hyes]
 clear hno hyes hsh
 repeat' (first|apply Ac|apply Au|apply Ak|apply Aa|apply Ab|(apply Af;(iterate 3 exact J);apply Ao (e:=22);exact J;intro b2)|(apply Af;(iterate 3 exact J);apply Ao (e:=38);exact J;intro b3)|(apply Af;(iterate 3 exact J);apply Ag (e:=130);exact J;intro b6)|(apply Af;(iterate 3 exact J);apply Ag (e:=181);exact J;intro b7)|(apply Ad;(iterate 3 exact J))|(apply Ai;exact J;exact Av rfl QM rfl;exact J;exact J)|(apply Af;(iterate 3 exact J);(first|(apply Ah;(iterate 3 exact J);exact QR;(iterate 3 exact J);skip)|(apply Ay;exact J;exact Hca;exact hsc _ QL;rintro w2 h3 hle3 ⟨s,rfl,hs1,hs2⟩;skip)|(apply Et ekN Value.bool;intro bm;skip)|(apply Ay;exact J;exact has98;exact hsu _ QL;rintro w4 h4 hle4 ⟨A5,c5,rfl,hsS,hSn⟩;skip)))|(apply Aj;exact J;all_goals (intro hc;try simp only [hcS,reduceCtorEq] at hc;try (exfalso;omega))))
 all_goals (try (exfalso;omega))
 have hK:=KN
 refine Bt (X:=Nat) (fun k=>k≤S.length) (fun k=>S.length-k)
  (fun k=>[(26,.int .i64 k),(25,.int .i64 S.length),(24,.slice A5 S.length c5),(7,Pt b7),(6,Pt b6),(3,Pt b3),(2,Pt b2)])
  (fun k=>[Dk ekN Value.bool bm (banM g (S.take k)),Blk b7 181 [.map (some bm)],Blk b6 130 (Jj (s,x)),Blk b3 38 (Km g),Blk b2 22 [.slice A n c]]) (fun _=>h4) 0 (by omega) QS QT rfl ?_
 rintro k hk ih
 by_cases hkn:k<S.length
 · have a1:=hsS.addrD hkn
   have c1:=hsS.cellsD su0 hkn
   have et:=Fq su0 (xs:=S) rfl hkn
   generalize S.getD k su0=z at *
   have hsn:=Fla g (S.take k) z
   rw [← et] at hsn
   have h9:=ih (k+1) (by omega) (by omega)
   rw [hsn] at h9
   generalize banM g (S.take k)=mm at *
   have hge:=Tp z.g g
   clear ih hsn et hsc hsu
   by_cases hzg:z.g=g
   · rw [if_pos hzg] at h9
     rw [decide_eq_true hzg] at hge
     repeat' (first|apply Ac|apply Au|apply Ap|apply Ak|apply Aa|apply Ab|(apply Bg;(iterate 3 exact J);omega;exact J;exact J)|(apply Ad;(iterate 3 exact J))|(apply Ai;exact J;exact Av rfl QM rfl;exact J;exact J)|(apply Bd;exact J;exact J;(first|(apply Be (j:=k);(iterate 5 exact J);exact a1;(with_reducible exact J);omega)|(apply Ar;exact J;exact Bh rfl c1 rfl)|(apply Ys;exact J;exact J;exact hge;kernel_rfl;kernel_rfl));exact QA)|(apply Af;(iterate 3 exact J);(first|(apply Ah;(iterate 3 exact J);exact QR;(iterate 3 exact J);skip)|(apply Ag;exact J;intro b;skip)|(apply Cy (ek:=ekN) (ev:=Value.bool) (b:=bm) (m:=mm) (key:=z.p) (u:=true) hK;(iterate 6 exact J);exact QR;skip)))|(apply Aj;exact J;all_goals (intro hc;try simp only [hcS,reduceCtorEq] at hc;try (exfalso;omega))))
     all_goals first
      | (exfalso;omega)
      | (exfalso;simp at hc;done)
      | (refine Bw QS QT (h9))
   · rw [if_neg hzg] at h9
     rw [decide_eq_false hzg] at hge
     repeat' (first|apply Ac|apply Au|apply Ap|apply Ak|apply Aa|apply Ab|(apply Bg;(iterate 3 exact J);omega;exact J;exact J)|(apply Ad;(iterate 3 exact J))|(apply Ai;exact J;exact Av rfl QM rfl;exact J;exact J)|(apply Bd;exact J;exact J;(first|(apply Be (j:=k);(iterate 5 exact J);exact a1;(with_reducible exact J);omega)|(apply Ar;exact J;exact Bh rfl c1 rfl)|(apply Ys;exact J;exact J;exact hge;kernel_rfl;kernel_rfl));exact QA)|(apply Af;(iterate 3 exact J);(first|(apply Ah;(iterate 3 exact J);exact QR;(iterate 3 exact J);skip)|(apply Ag;exact J;intro b;skip)))|(apply Aj;exact J;all_goals (intro hc;try simp only [hcS,reduceCtorEq] at hc;try (exfalso;omega))))
     all_goals first
      | (exfalso;omega)
      | (exfalso;simp at hc;done)
      | (refine Bw QS QT (h9))
 · rw [List.take_of_length_le (by omega)]
   clear ih hsc hsu
   have hban:=banM_is g S
   have hle0:Le h h4:=QL
   have hhs:=(hs1.hs.le hle4)
   have has':=(hs1.asn.le hle4)
   have hn1:=hs1.hs.len
   have hn2:=hs1.asn.len
   generalize banM g S=mm at *
   refine Gf (b:=b2) (e:=22) QK ?_
   intro q1 hq1 d2
   refine Gf (b:=b6) (e:=130) QK ?_
   intro q2 hq2 d6
   refine Gf (b:=b7) (e:=181) QK ?_
   intro q3 hq3 d7
   refine Gf (b:=b3) (e:=38) QK ?_
   intro q4 hq4 d3
   have hle9:Le h q4:=hle0.trans (hq1.trans (hq2.trans (hq3.trans hq4)))
   have d2:=d2.le (hq2.trans (hq3.trans hq4))
   have d6:=d6.le (hq3.trans hq4)
   have d7:=d7.le hq4
   have hhs:=hhs.le (hq1.trans (hq2.trans (hq3.trans hq4)))
   have has':=has'.le (hq1.trans (hq2.trans (hq3.trans hq4)))
   have hside1:=fun h' (hl:Le q4 h') b10 (h10:At h' ⟨b10,0,none⟩ (resV2 b2 b6 b7))=>off4_c h' (hG.le (hle9.trans hl)) A n c l (hx.le (hle9.trans hl)) s.hs.A s.hs.n s.hs.c x.sh.hs (hhs.le hl) (by omega) g.h b2 b6 b7 b10 bm (s,x) (d2.le hl) (d6.le hl) mm (d7.le hl) h10 S g hban
   have hside2:=fun h' (hl:Le q4 h') b10 (h10:At h' ⟨b10,0,none⟩ (resV2 b2 b6 b7))=>off4_c h' (hG.le (hle9.trans hl)) A n c l (hx.le (hle9.trans hl)) s.asn.A s.asn.n s.asn.c x.sh.asn (has'.le hl) (by omega) g.a b2 b6 b7 b10 bm (s,x) (d2.le hl) (d6.le hl) mm (d7.le hl) h10 S g hban
   dsimp only at hside1 hside2
   generalize Vr (fcs l) S g x.day g.h x.sh.hs=o1 at *
   generalize Vr (fcs l) S g x.day g.a x.sh.asn=o2 at *
   clear hx hhs has' hban
   repeat' (first|apply Ac|apply Aa|apply Ab|(apply Bn;exact J)|(apply Af;(iterate 3 exact J);apply Ag (e:=194);exact J;intro b10)|(apply Ad;(iterate 3 exact J))|(apply Af;(iterate 3 exact J);(first|(apply Ah;(iterate 3 exact J);exact QR;(iterate 3 exact J);skip)))|(apply Bf (n:=13) [0,1,2,3,4,5,6,7,8,9,10,11,12,13,14,15] [(0,0),(1,0),(2,0),(3,0),(4,0),(5,0),(7,0),(8,0),(9,0),(10,0),(11,0),(12,0),(6,1),(13,1),(14,0),(15,0)];kernel_rfl)|(apply Ce;exact J;kernel_rfl;(iterate 3 exact J))|(apply De;exact J;kernel_rfl;exact J;exact J;(first|(apply Ar;exact J;exact Dc rfl (d3.le QL) rfl)|(apply Ar;exact J;exact Db rfl (d6.le QL) rfl));exact QA)|(apply Br;exact J;kernel_rfl;(iterate 3 exact J);(first|(refine Cq (b:=b10) (e:=194) QK ?_;intro h5 hle5 d10;apply Fp (f:=105) (fs:=[]) (cs:=[.pointer (some ⟨b10,0,none⟩)]);exact J;exact J;exact has105;exact hside1 _ QL b10 d10;exact QT;rintro v5 Es5 h8 hle8 ⟨A8,c8,rfl,hs8,rfl⟩;refine ⟨hle5.trans hle8,QN,?_⟩)|(apply Fp (f:=105) (fs:=[]) (cs:=[.pointer (some ⟨b10,0,none⟩)]);exact J;exact J;exact has105;exact hside2 _ QL b10 (d10.le QL);exact QT;rintro v6 Es6 h9 hle9' ⟨A9,c9,rfl,hs9,rfl⟩;refine ⟨hle9',QN,?_⟩)))|(apply Bm;kernel_rfl;exact J)|(apply Aj;exact J;all_goals (intro hc;try simp only [hcS,reduceCtorEq] at hc;try (exfalso;omega))))
   all_goals first
    | (exfalso;omega)
    | (exact Df rfl rfl rfl rfl ⟨A8,c8,A9,c9,rfl,hs8.le QL,hs9⟩)
end Go.Hw
