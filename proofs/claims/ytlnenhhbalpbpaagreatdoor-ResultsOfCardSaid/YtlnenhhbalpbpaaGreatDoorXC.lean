import Derived.Test.YtlnenhhbalpbpaaGreatDoorXA
import Derived.Test.YtlnenhhbalpbpaaGreatDoorHD
import Derived.Test.YtlnenhhbalpbpaaGreatDoorSA
set_option linter.all false
set_option maxRecDepth 100000
set_option maxHeartbeats 8000000
namespace Go.Hw
open Go
attribute [local irreducible] GO GOl GDp Val Fn Res Ab Du Blk Bd Cd Bf Has Yl Ik Bn Lt Kk Ew Hj Cn Oh Ff Hv
open Go.Proofs.Tryz (prog)
theorem idxFS_c (h:Ro)(A:Option Addr)(n c:Nat)(l:List (Fsh×Az))(hx:Ar Ey 15 h A n l)(hn:n≤1000000)(f:FuncId)(fs cs:List Value)(p:Fsh×Az→Bool)(hh:Has prog f)
  (hf:∀ x∈l,Val prog f (fs++[Value.agg (Ey x).toArray]++cs).toArray h (.bool (p x))) :
  Val prog 89 #[.slice A n c,.func (.func f) fs.toArray cs.toArray] h (.int .i64 (Mf p l 0)):=by
 refine QXV Proofs.Tryz.func89 fun w0 X0=>?_
 have hlen:=hx.len
 repeat' (first|refine QF ?_|fail)
 refine Ai (X:=Nat) (fun k=>k≤n∧Mf p (l.drop k) k=Mf p l 0) (fun k=>n-k) (fun k=>[(8,.int .i64 k),(7,.int .i64 n),(0,.slice A n c),(1,.func (.func f) fs.toArray cs.toArray)]) (fun _=>[]) (fun _=>h) 0 ⟨by omega,rfl⟩ QS QT rfl ?_
 rintro k ⟨hk,hI⟩ ih
 by_cases hkn:k<n
 · have a1:=hx.addrD hkn
   have c1:=hx.cellsD sc0 hkn
   have hd:=Bta sc0 hlen hkn
   have hv:=hf _ (mem7 sc0 (show k<l.length by omega))
   generalize l.getD k sc0=x at *
   repeat' (first|refine QF ?_|(apply Af;exact J;exact J;(first|exact QAc|exact QAf);exact QA)|(refine QG ?_;first|(refine QB7 ?_))|(refine QH ?_ ?_<;>intro hc<;>try omega)|(apply Ac;(iterate 3 exact J)))
   · rw [← hI,hd,Mf,if_pos hc]
   · have h3:=ih (k+1) ⟨by omega,by rw [← hI,hd,Mf,if_neg (by simp [hc])]⟩ QAd
     refine Aj QS QT (h3)
 · repeat' (first|refine QF ?_|(refine QH ?_ ?_<;>intro hc<;>try omega)|(apply Ac;(iterate 3 exact J)))
   rw [← hI,show k=l.length by omega,List.drop_length];rfl
def Mt (club:Int) (z:Az):Bool:=decide (z.sh.g.h=club∨z.sh.g.a=club)
theorem susp1_c (h:Ro)(x:Fsh×Az)(b1:Nat)(m:Int×Int)(h1:Ab h ⟨b1,0,none⟩ (He m)):Val prog 90 #[.agg (Ey x).toArray,.pointer (some ⟨b1,0,none⟩)] h (.bool (Mt m.2 x.2)):=by
 refine QXV Proofs.Tryz.func90 fun w0 X0=>?_
 unfold Mt
 repeat' (first|refine QF ?_|(apply Af;exact J;exact J;(first|exact QAb);exact QA)|(refine QB ?_;intro b)|refine QJ ?_|(refine QI ?_ ?_<;>intro hc<;>try omega)|(apply Ac;(iterate 3 exact J)))
 all_goals (refine Bg ?_;(try rw [Ib]);grind)
def Uh (s:Jt):List Value:=[.int .i64 s.p,.int .i64 s.club,.int .i64 s.g.s,.int .i64 s.g.c,.int .i64 s.g.h,.int .i64 s.g.a]
def Hza (D:List Az) (i:Nat) (ms:List (Int×Int)) (m:List (Int×Int)):Prop:=∀ p,(Cf p m).getD 0=if p∈ms.map (·.1) then Oh (D.take (i+1)) p else Oh (D.take i) p
theorem cnt_zero {D:List Az}{i:Nat}{m:List (Int×Int)}(h:∀ p,(Cf p m).getD 0=Oh (D.take i) p):Hza D i [] m:=fun p=>by rw [h p];simp
theorem cnt_step {D:List Az}{i:Nat}{ms m:List (Int×Int)}{x:Int×Int}{v:Int}(h:Hza D i ms m)(hv:v=Oh (D.take (i+1)) x.1):Hza D i (ms++[x]) (Im x.1 v m):=fun p=>by
 rw [Si,List.map_append]
 have hp:=h p
 by_cases e:x.1=p
 · subst e;rw [if_pos rfl,hv];simp
 · rw [if_neg e,hp]
   simp only [List.map_cons,List.map_nil,List.mem_append,List.mem_singleton,Ne.symm e,or_false]
theorem cnt_end {D:List Az}{i:Nat}{m:List (Int×Int)}{x:Az}(et:D.take (i+1)=D.take i++[x])(hok:Dv x.sh)(hm:Mi x.sh (Kk x.sh))(h:Hza D i (Kk x.sh) m)(p:Int):(Cf p m).getD 0=Oh (D.take (i+1)) p:=by
 rw [h p]
 split
 · rfl
 · rename_i hp
   rw [et,Pz]
   have h1:p ∉ x.sh.hs:=fun q=>hp (List.mem_map.2 ⟨(p,x.sh.g.h),(hm.2 _).2 (.inl ⟨q,rfl⟩),rfl⟩)
   have h2:p ∉ x.sh.as:=fun q=>hp (List.mem_map.2 ⟨(p,x.sh.g.a),(hm.2 _).2 (.inr ⟨q,rfl⟩),rfl⟩)
   rw [Haa hok h1 h2]
   simp
theorem cnt_at {D:List Az}{i:Nat}{ms r m:List (Int×Int)}{x:Int×Int}(hp:(ms++x::r).Pairwise fun a b=>a.1<b.1)(h:Hza D i ms m):(Cf x.1 m).getD 0=Oh (D.take i) x.1:=by
 rw [h x.1,if_neg]
 intro hm
 obtain ⟨y,hy,e⟩:=List.mem_map.1 hm
 have:=(List.pairwise_append.1 hp).2.2 y hy x List.mem_cons_self
 omega
theorem idx_next {ds:List (Fsh×Az)}{club:Int}:(Mf (fun x=>Mt club x.2) ds 0 = -1∧Hv (ds.map (·.2)) club=none)∨∃ j:Nat,j<ds.length∧Mf (fun x=>Mt club x.2) ds 0=(j:Int)∧Hv (ds.map (·.2)) club=some (ds.getD j sc0).2:=by
 have go:∀ (l:List (Fsh×Az)) (k:Nat),(Mf (fun x=>Mt club x.2) l k = -1∧Hv (l.map (·.2)) club=none)∨∃ j:Nat,j<l.length∧Mf (fun x=>Mt club x.2) l k=((k+j:Nat):Int)∧Hv (l.map (·.2)) club=some (l.getD j sc0).2:=by
  intro l
  induction l with
  | nil=>intro k;exact .inl ⟨rfl,by unfold Hv;rfl⟩
  | cons x r ih =>
    intro k
    unfold Mf Hv
    rw [List.map_cons,List.find?_cons]
    show ((if Mt club x.2=true then (k:Int) else Mf (fun x=>Mt club x.2) r (k+1)) = -1∧_)∨_
    cases hb:Mt club x.2 with
    | true =>
      have hb':decide (x.2.sh.g.h=club∨x.2.sh.g.a=club)=true:=hb
      refine .inr ⟨0,by simp,by simp [hb],?_⟩
      rw [hb'];rfl
    | false =>
      have hb':decide (x.2.sh.g.h=club∨x.2.sh.g.a=club)=false:=hb
      rw [hb']
      rcases ih (k+1) with ⟨e1,e2⟩|⟨j,e1,e2,e3⟩
      · refine .inl ⟨by simpa using e1,?_⟩
        unfold Hv at e2
        exact e2
      · refine .inr ⟨j+1,by simp;omega,?_,?_⟩
        · simp only [Bool.false_eq_true,if_false]
          rw [e2];congr 1;omega
        · unfold Hv at e3
          simpa using e3
 rcases go ds 0 with h|⟨j,h1,h2,h3⟩
 · exact .inl h
 · exact .inr ⟨j,h1,by rw [h2];congr 1;omega,h3⟩
theorem Yj {pre post:List Az}{x:Az}{m:Int×Int}(h:¬ Earn (Oh pre m.1) (Ff x.sh m.1).1 (Ff x.sh m.1).2):Cn pre post x m=[]:=by unfold Cn;rw [if_neg h]
theorem Ti {pre post:List Az}{x:Az}{m:Int×Int}(h:Hv post m.2=none):Cn pre post x m=[]:=by unfold Cn;rw [h];split <;> rfl
theorem Ve {pre post:List Az}{x:Az}{m:Int×Int}{z:Az}(he:Earn (Oh pre m.1) (Ff x.sh m.1).1 (Ff x.sh m.1).2)(h:Hv post m.2=some z):Cn pre post x m=[⟨m.1,m.2,z.sh.g⟩]:=by unfold Cn;rw [h,if_pos he]
theorem Kla {D:List Az}(hm:∀ x∈D,Dv x.sh∧Mi x.sh (Kk x.sh)){i:Nat}(hi:i<D.length):(Yk D i).length≤80:=by
 unfold Yk
 have hx:D.getD i Ee∈D:=mem7 Ee hi
 obtain ⟨h1,h2⟩:=hm _ hx
 exact Nat.le_trans (My _ (Fza _ _ _) _) (A7a h1 h2)
theorem Vg {D:List Az}(hm:∀ x∈D,Dv x.sh∧Mi x.sh (Kk x.sh)):∀ {i:Nat},i≤D.length→(Hj D i).length≤80 * i
 | 0,_=>by unfold Hj;simp
 | i+1,hi=>by
   rw [Nm,List.length_append]
   have:=Vg hm (i:=i) QAd
   have:=Kla hm (i:=i) QAd
   omega
theorem suspN_0 (D:List Az):Hj D 0=[]:=by unfold Hj;rfl
theorem yelC_0 (p:Int):Oh [] p=0:=by unfold Oh;rfl
theorem I3a {x:Ce}(hok:Dv x):Mi x (Kk x):=by
 obtain ⟨ys,hp,hs⟩:∃ ys,ys.Perm (memU x)∧ys.Pairwise fun a b=>a.1≤b.1 :=
  ⟨(memU x).mergeSort fun a b=>decide (a.1≤b.1),List.mergeSort_perm _ _,(List.pairwise_mergeSort (le:=fun a b:Int×Int=>decide (a.1≤b.1)) (fun a b c h1 h2=>by simp at *;omega) (fun a b=>by simp;omega) _).imp fun {a b} q=>by simpa using q⟩
 exact (Ym hok hp hs).here
theorem B6a (h:Ro)(hG:Iv h)(A:Option Addr)(n c:Nat)(l:List (Fsh×Fct))(hx:Au h A n l)(hn6:n≤65536)(season comp:Int):Res prog 44 #[.slice A n c,.int .i64 season,.int .i64 comp] h (fun u h'=>∃ A' c',u=.slice A' (Ew (Lt (fcs l) season comp)).length c'∧Ar Uh 6 h' A' (Ew (Lt (fcs l) season comp)).length (Ew (Lt (fcs l) season comp))∧(Ew (Lt (fcs l) season comp)).length≤10000000):=by
 refine QXR Proofs.Tryz.func44 fun w0 X0=>?_
 have h32:=Fa hx
 have hde:=fun h' (hl:Le h h')=>decided_c h' (hG.le hl) A n c l (hx.le hl) season comp
 generalize fcs l=L at *
 clear hx
 repeat' (first|refine QF ?_|(refine QG ?_;first|(apply Ag;exact J;exact has86;exact hde _ QAa;rintro w1 h1 hle1 ⟨A3,c3,ds,rfl,hsl,hat,hdec,hdn,hnc⟩)|(apply Eu ekN ekN;intro bm))|fail)
 all_goals (try (exfalso;omega))
 rw [← G3a hdec]
 clear hde
 obtain ⟨D,hD⟩:∃ D,D=ds.map (·.2):=⟨_,rfl⟩
 rw [← hD] at hdec ⊢
 have hDl:D.length=ds.length:=by rw [hD,List.length_map]
 have hok:∀ x∈D,Dv x.sh∧Mi x.sh (Kk x.sh):=fun x hx=>⟨(hdec.ok h32 hx).sheet,I3a (hdec.ok h32 hx).sheet⟩
 have hK:=KN
 refine Fg 103 6 ?_
 refine Ai (X:=Nat×List Jt×Option Addr×Nat×List (Int×Int)×Ro) (fun x=>x.1≤ds.length∧Le h1 x.2.2.2.2.2∧x.2.1=Hj D x.1∧∀ p,(Cf p x.2.2.2.2.1).getD 0=Oh (D.take x.1) p) (fun x=>ds.length-x.1)
  (fun x=>[(24,.int .i64 x.1),(23,.int .i64 ds.length),(22,.slice A3 ds.length c3),(7,.slice A3 ds.length c3),(8,.map (some bm)),(6,.slice x.2.2.1 x.2.1.length x.2.2.2.1)])
  (fun x=>[Bd 103 6 (.slice x.2.2.1 x.2.1.length x.2.2.2.1) x.2.1.length (x.2.1.flatMap Uh),Cd ekN ekN bm x.2.2.2.2.1]) (fun x=>x.2.2.2.2.2) (0,[],none,0,[],h1) ⟨by dsimp only;omega,Le.refl _,by rw [suspN_0],fun p=>by rw [List.take_zero,yelC_0];rfl⟩ QS QT rfl ?_
 rintro ⟨i,out,A4,c4,m,hh⟩ ⟨hi,hle,ho,hm⟩ ih
 dsimp only at hi hle ho hm ih ⊢
 have hol:=Vg hok (i:=i) QAd
 rw [← ho] at hol
 by_cases hin:i<ds.length
 · have a1:=hsl.addrD hin
   have c1:=(hsl.cellsD sc0 hin).le hle
   have hsl':=hsl.le hle
   have hax:=(hat _ (mem7 sc0 hin)).le hle
   have hDx:D.getD i Ee=(ds.getD i sc0).2:=by rw [hD];simp [List.getD,List.getElem?_eq_getElem hin]
   have et:=Cb Ee (xs:=D) rfl (show i<D.length by omega)
   have hoX:=hok _ (mem7 Ee (show i<D.length by omega))
   have hsA:Hj D (i+1)=Hj D i++(Kk (D.getD i Ee).sh).flatMap (Cn (D.take i) (D.drop (i+1)) (D.getD i Ee)):=Nm D i
   rw [hDx] at et hoX hsA
   have hpost:D.drop (i+1)=(ds.drop (i+1)).map (·.2):=by rw [hD,List.map_drop]
   have hlow:=hsl'.low (lo:=i+1) (c:=c3) QAd hnc
   generalize ds.getD i sc0=x at *
   obtain ⟨s,x⟩:=x
   dsimp only at et hoX hsA hax
   have hxs:=hax.1
   have hlc:x.sh.hc.length≤1000∧x.sh.ac.length≤1000:=by
    have h1:=hoX.1.2.2.2.2.2.2.2.1.1
    have h2:=hoX.1.2.2.2.2.2.2.2.2.1.1
    omega
   have hpw:=hoX.2.1
   have hml:=A7a hoX.1 hoX.2
   repeat' (first|refine QC ?_|(apply Bo;(iterate 3 exact J);apply At (e:=62);exact J;intro b10)|refine QDs ?_|(apply Af;exact J;exact J;(first|exact QAg|exact QAf);exact QA)|(refine QG ?_;first|(apply Be;exact J;exact has87;exact shownE_c _ s x.sh (hxs.le QAa) hlc;exact QT;rintro vs Es2 h2 hle2 ⟨bg,mg,rfl,rfl,hmg⟩)|(apply Ag;exact J;exact has88;exact members_c _ s x.sh (hxs.le QAa) hoX.1;rintro vm h3 hle3 ⟨A5,c5,rfl,hms,_⟩))|(refine QH ?_ ?_<;>intro hc<;>try omega)|fail)
   all_goals (try (exfalso;omega))
   obtain ⟨ms,hmsE⟩:∃ ms,ms=Kk x.sh:=⟨_,rfl⟩
   have hend:=fun q (hq:Hza D i (Kk x.sh) q)=>cnt_end (m:=q) et hoX.1 hoX.2 hq
   rw [← hmsE] at hms hsA hpw hml hend ⊢
   have hlei:Le hh h3:=QAa
   have hsl3:=hsl'.le hlei
   have hlow3:=hlow.le hlei
   refine Ai (X:=Nat×List Jt×Option Addr×Nat×List (Int×Int)×Ro) (fun y=>y.1≤ms.length∧Le h3 y.2.2.2.2.2∧y.2.1=Hj D i++(ms.take y.1).flatMap (Cn (D.take i) (D.drop (i+1)) x)∧y.2.1.length≤out.length+y.1∧Hza D i (ms.take y.1) y.2.2.2.2.1) (fun y=>ms.length-y.1)
    (fun y=>[(36,.int .i64 y.1),(35,.int .i64 ms.length),(34,.slice A5 ms.length c5),(11,.map (some bg)),(9,.int .i64 i),(24,.int .i64 i),(23,.int .i64 ds.length),(22,.slice A3 ds.length c3),(7,.slice A3 ds.length c3),(8,.map (some bm)),(6,.slice y.2.2.1 y.2.1.length y.2.2.2.1)])
    (fun y=>[Bd 103 6 (.slice y.2.2.1 y.2.1.length y.2.2.2.1) y.2.1.length (y.2.1.flatMap Uh),Cd ekN ekN bm y.2.2.2.2.1,Cd ekN evCd bg mg]) (fun y=>y.2.2.2.2.2) (0,out,A4,c4,m,h3) ⟨by dsimp only;omega,Le.refl _,by rw [ho];simp,by dsimp only;omega,by rw [List.take_zero];exact cnt_zero hm⟩ QS QT rfl ?_
   rintro ⟨j,ou,A6,c6,mc,h4⟩ ⟨hj,hle4,ho4,hol4,hcn⟩ ih2
   dsimp only at hj hle4 ho4 hol4 hcn ih2 ⊢
   by_cases hjn:j<ms.length
   · have a2:=hms.addrD hjn
     have c2:=(hms.cellsD m0 hjn).le hle4
     have et2:=Cb m0 (xs:=ms) rfl hjn
     have hsp:=Nl m0 (l:=ms) rfl hjn
     rw [hsp] at hpw
     generalize ms.getD j m0=y at *
     obtain ⟨p,cl⟩:=y
     have hq1:=hmg p
     have hq2:=cnt_at hpw hcn
     have hst:=fun v (hv:v=Oh (D.take (i+1)) p)=>cnt_step (x:=(p,cl)) (v:=v) hcn hv
     have hy:=Pz (D.take i) x p
     rw [← et] at hy
     have hb1:=Fqa (D.take i) p
     have hb2:=Rf x.sh p
     have hno:=Yj (pre:=D.take i) (post:=D.drop (i+1)) (x:=x) (m:=(p,cl))
     have hnn:=Ti (pre:=D.take i) (post:=D.drop (i+1)) (x:=x) (m:=(p,cl))
     have hye:=fun z=>Ve (pre:=D.take i) (post:=D.drop (i+1)) (x:=x) (m:=(p,cl)) (z:=z)
     have hfm:(ms.take (j+1)).flatMap (Cn (D.take i) (D.drop (i+1)) x)=(ms.take j).flatMap (Cn (D.take i) (D.drop (i+1)) x)++Cn (D.take i) (D.drop (i+1)) x (p,cl):=by rw [et2,List.flatMap_append];simp
     rw [List.length_take] at hb1
     dsimp only at hq2 hst hno hnn hye c2
     rw [hpost] at hno hnn hye hfm
     generalize Ff x.sh p=q at *
     generalize Oh (D.take (i+1)) p=y1 at *
     generalize Oh (D.take i) p=y0 at *
     obtain ⟨qy,qr⟩:=q
     dsimp only at hq1 hb2 hno hnn hye hy
     have hl2:(Cf p (Im p (y0+qy) mc)).getD 0=y0+qy:=by rw [Si,if_pos rfl];rfl
     have hst1:=hst (y0+qy) hy.symm
     have hcont:=fun ou' A' c' h' (hl:Le h4 h') (he:ou'=ou++Cn (D.take i) ((ds.drop (i+1)).map (·.2)) x (p,cl)) (hl2:ou'.length≤ou.length+1)=>ih2 (j+1,ou',A',c',Im p (y0+qy) mc,h') ⟨by dsimp only;omega,hle4.trans hl,by dsimp only;rw [he,ho4,hpost,hfm,List.append_assoc],by dsimp only;omega,by dsimp only;rw [et2];exact hst1⟩ QAh
     dsimp only at hcont
     have hix:∀ (h':Ro) (b13:Nat),Le h4 h'→Ab h' ⟨b13,0,none⟩ (He (p,cl))→Val prog 89 #[.slice (Tj A3 c3 (i+1) 15) (ds.length-(i+1)) (c3-(i+1)),.func (.func 90) #[] #[.pointer (some ⟨b13,0,none⟩)]] h' (.int .i64 (Mf (fun x=>Mt cl x.2) (ds.drop (i+1)) 0)):=fun h' b13 hl hc13 =>
      idxFS_c h' _ _ _ _ (hlow3.le (hle4.trans hl)) QAd 90 [] [.pointer (some ⟨b13,0,none⟩)] (fun x=>Mt cl x.2) has90 (fun x _=>susp1_c h' x b13 (p,cl) hc13)
     rcases idx_next (ds:=ds.drop (i+1)) (club:=cl) with ⟨e1,e2⟩|⟨nx,e0,e1,e2⟩
     · rw [e1] at hix
       have hsu:=hnn e2
       have hou:ou=ou++Cn (D.take i) ((ds.drop (i+1)).map (·.2)) x (p,cl):=by rw [hsu,List.append_nil]
       clear hno hye hnn
       cases qr
       all_goals (repeat' (first|refine QC ?_|(apply Bo;(iterate 3 exact J);apply At (e:=105);exact J;intro b13)|(apply Bo;(iterate 3 exact J);apply At (e:=152);exact J;intro b14)|(apply Af;exact J;exact J;(apply Gh (ek:=ekN) (ev:=evCd) (z0:=(0,false)) (key:=p) (b:=bg) (m:=mg) hK;(iterate 6 exact J);exact hq1);focus ((repeat' (first|exact trivial|apply And.intro|exact List.Mem.head _|apply List.Mem.tail));done))|(apply Af;exact J;exact J;(apply Gh (ek:=ekN) (ev:=ekN) (z0:=(0:Int)) (key:=p) (b:=bm) (m:=mc) hK;(iterate 6 exact J);exact hq2);focus ((repeat' (first|exact trivial|apply And.intro|exact List.Mem.head _|apply List.Mem.tail));done))|(apply Af;exact J;exact J;(apply Gh (ek:=ekN) (ev:=ekN) (z0:=(0:Int)) (key:=p) (b:=bm) (m:=Im p (y0+qy) mc) hK;(iterate 6 exact J);exact hl2);focus ((repeat' (first|exact trivial|apply And.intro|exact List.Mem.head _|apply List.Mem.tail));done))|(apply Af;exact J;exact J;(first|exact QDa);exact QA)|refine QDs ?_|(apply Af;exact J;exact J;(first|exact QAt|exact QA2|(apply Ho (lo:=i+1) (n:=ds.length) (c:=c3);(iterate 5 exact J);omega;omega));exact QA)|(refine QG ?_;first|(refine QCw ?_)|(refine Bv (b:=b13) (e:=105) QK ?_;intro h5 hle5 hc13;apply Aa;exact J;exact has89;exact hix _ b13 QAa hc13))|(refine QH ?_ ?_<;>intro hc<;>try omega)|fail))
       all_goals first
        | (exfalso;omega)
        | (exfalso;simp at hc;done)
        | (have h6:=hcont _ A6 c6 _ hle5 hou QAd
           refine Aj QS QT (h6))
        | (have h6:=hcont _ A6 c6 _ (Le.refl _) hou QAd
           refine Aj QS QT (h6))
     · rw [e1] at hix
       rw [List.length_drop] at e0
       have hnxt:=hsl3.addrD (show i+1+nx<ds.length by omega)
       have cN:Ab h4 ((addrD A3).add ((i+1+nx) * ty62.size)) (Ey (ds.getD (i+1+nx) sc0)):=(hsl3.cellsD sc0 (show i+1+nx<ds.length by omega)).le hle4
       have hgz:(ds.drop (i+1)).getD nx sc0=ds.getD (i+1+nx) sc0:=by simp [List.getD]
       rw [hgz] at e2
       generalize ds.getD (i+1+nx) sc0=z at *
       clear hnn hgz
       by_cases hE:Earn y0 qy qr
       · have hsu:=hye _ hE e2
         clear hno hye
         cases qr
         case' false=>have hE2:=hE.resolve_left QAn
         all_goals (repeat' (first|refine QC ?_|(apply Bo;(iterate 3 exact J);apply At (e:=105);exact J;intro b13)|(apply Bo;(iterate 3 exact J);apply At (e:=152);exact J;intro b14)|(apply Af;exact J;exact J;(apply Gh (ek:=ekN) (ev:=evCd) (z0:=(0,false)) (key:=p) (b:=bg) (m:=mg) hK;(iterate 6 exact J);exact hq1);focus ((repeat' (first|exact trivial|apply And.intro|exact List.Mem.head _|apply List.Mem.tail));done))|(apply Af;exact J;exact J;(apply Gh (ek:=ekN) (ev:=ekN) (z0:=(0:Int)) (key:=p) (b:=bm) (m:=mc) hK;(iterate 6 exact J);exact hq2);focus ((repeat' (first|exact trivial|apply And.intro|exact List.Mem.head _|apply List.Mem.tail));done))|(apply Af;exact J;exact J;(apply Gh (ek:=ekN) (ev:=ekN) (z0:=(0:Int)) (key:=p) (b:=bm) (m:=Im p (y0+qy) mc) hK;(iterate 6 exact J);exact hl2);focus ((repeat' (first|exact trivial|apply And.intro|exact List.Mem.head _|apply List.Mem.tail));done))|(apply Af;exact J;exact J;(first|exact QDa);exact QA)|refine QDs ?_|(apply Af;exact J;exact J;(first|exact QAt|exact QA2|(apply Ho (lo:=i+1) (n:=ds.length) (c:=c3);(iterate 5 exact J);omega;omega));exact QA)|(refine QG ?_;first|(refine QCw ?_)|(refine Bv (b:=b13) (e:=105) QK ?_;intro h5 hle5 hc13;apply Aa;exact J;exact has89;exact hix _ b13 QAa hc13))|(apply Ad (n:=16) [0,1,2,3,4,5,6,7,8,9,10,11,12,13,14,15,16,17] [(0,0),(1,0),(2,0),(3,0),(4,0),(5,0),(6,0),(7,0),(8,0),(9,0),(10,0),(11,0),(12,0),(13,0),(14,0),(15,1),(16,1),(17,0)];kernel_rfl)|(apply Bk;exact J;kernel_rfl;exact J;exact J;(first|(apply Cg (j:=i+1+nx) (n:=ds.length) (A:=A3);(iterate 5 exact J);exact hnxt;omega;omega)|(apply Aw;exact J;apply Xj;exact J;exact cN.le QAa;exact J)|(apply Aw;exact J;exact Jp rfl hc13 rfl));exact QA)|(apply Ao;exact J;kernel_rfl;(iterate 3 exact J);(first|(refine QDu ?_;intro b9 h9 hle9 hs9;refine ⟨hle9,QN,?_⟩)|(refine QEe ?_;intro A9 c9;refine ⟨Le.refl _,QN,?_⟩)))|(refine QH ?_ ?_<;>intro hc<;>try omega)|fail))
         all_goals first
          | (exfalso;omega)
          | (exfalso;simp at hc;done)
          | (have h6:=hcont (ou++[⟨p,cl,z.2.sh.g⟩]) A9 c9 h9 (hle5.trans hle9) (by rw [hsu]) QAn
             rw [List.length_append] at h6
             refine Aj QS QT (h6))
       · have hsu:=hno hE
         have hou:ou=ou++Cn (D.take i) ((ds.drop (i+1)).map (·.2)) x (p,cl):=by rw [hsu,List.append_nil]
         clear hno hye
         cases qr
         case' true=>exact absurd (.inl rfl) hE
         have hE2:(y0+qy) / 5=y0 / 5:=Classical.byContradiction fun w=>hE (.inr w)
         repeat' (first|refine QC ?_|(apply Bo;(iterate 3 exact J);apply At (e:=105);exact J;intro b13)|(apply Bo;(iterate 3 exact J);apply At (e:=152);exact J;intro b14)|(apply Af;exact J;exact J;(apply Gh (ek:=ekN) (ev:=evCd) (z0:=(0,false)) (key:=p) (b:=bg) (m:=mg) hK;(iterate 6 exact J);exact hq1);focus ((repeat' (first|exact trivial|apply And.intro|exact List.Mem.head _|apply List.Mem.tail));done))|(apply Af;exact J;exact J;(apply Gh (ek:=ekN) (ev:=ekN) (z0:=(0:Int)) (key:=p) (b:=bm) (m:=mc) hK;(iterate 6 exact J);exact hq2);focus ((repeat' (first|exact trivial|apply And.intro|exact List.Mem.head _|apply List.Mem.tail));done))|(apply Af;exact J;exact J;(apply Gh (ek:=ekN) (ev:=ekN) (z0:=(0:Int)) (key:=p) (b:=bm) (m:=Im p (y0+qy) mc) hK;(iterate 6 exact J);exact hl2);focus ((repeat' (first|exact trivial|apply And.intro|exact List.Mem.head _|apply List.Mem.tail));done))|(apply Af;exact J;exact J;(first|exact QDa);exact QA)|refine QDs ?_|(apply Af;exact J;exact J;(first|exact QAt|exact QA2);exact QA)|(refine QG ?_;first|(refine QCw ?_))|(refine QH ?_ ?_<;>intro hc<;>try omega)|fail)
         all_goals first
          | (exfalso;omega)
          | (exfalso;simp at hc;done)
          | (have h6:=hcont _ A6 c6 _ hle5 hou QAd
             refine Aj QS QT (h6))
          | (have h6:=hcont _ A6 c6 _ (Le.refl _) hou QAd
             refine Aj QS QT (h6))
   · rw [show ms.take j=ms from List.take_of_length_le QAd] at ho4 hcn
     rw [← hsA] at ho4
     have hcm:=hend _ hcn
     have h6:=ih (i+1,ou,A6,c6,mc,h4) ⟨by dsimp only;omega,QAa,ho4,hcm⟩ QAh
     dsimp only at h6
     clear ih ih2
     repeat' (first|refine QF ?_|(refine QH ?_ ?_<;>intro hc<;>try omega)|fail)
     all_goals first
      | (exfalso;omega)
      | (refine Aj QS QT (h6))
 · have hil:i=ds.length:=by omega
   have hsc:Ew D=out:=by
    rw [ho,hil,← hDl]
    unfold Ew;rfl
   rw [hsc]
   clear ih
   refine El (enc:=Uh) (e:=103) (sz:=6) (n:=out.length) (xs:=out) (fun _=>rfl) rfl QK ?_
   intro A7 c7 h7 hle7 e7 hnc7 hs7
   cases e7
   repeat' (first|refine QF ?_|(refine QH ?_ ?_<;>intro hc<;>try omega)|fail)
   all_goals first
    | (exfalso;omega)
    | (exact Ay rfl rfl rfl ⟨A4,c4,rfl,hs7,by omega⟩)
end Go.Hw
set_option maxHeartbeats 4000000
namespace Go.Hw
open Go
attribute [local irreducible] GO GOl GDp Val Fn Res Ab Du Blk Bd Cd Bf Has Yl Cra
open Go.Proofs.Tryz (prog)
def Aka (player:Int) (f:Fct):Prop:=f.kind=6∧f.mP=player∧Bm f
open Classical in
noncomputable def Dc (player:Int) (l:List (Fsh×Fct)):List (Fsh×Fct):=l.filter fun p=>decide (Aka player p.2)
theorem Kt (pl:Int)(a b:List (Fsh×Fct)):Dc pl (a++b)=Dc pl a++Dc pl b:=by unfold Dc;rw [List.filter_append]
theorem K5a {pl:Int}{p:Fsh×Fct}(h:Aka pl p.2):Dc pl [p]=[p]:=by unfold Dc;simp [h]
theorem movesE_no {pl:Int}{p:Fsh×Fct}(h:¬ Aka pl p.2):Dc pl [p]=[]:=by unfold Dc;simp [h]
open Classical in
theorem Sh {pl:Int}{l:List (Fsh×Fct)}{x:Fsh×Fct}:x∈Dc pl l↔x∈l∧Aka pl x.2:=by
 unfold Dc;rw [List.mem_filter,decide_eq_true_eq]
def Kia (day:Int) (z x:Fsh×Fct):Fsh×Fct:=if x.2.day≤day∧(z.2.day<x.2.day∨(x.2.day=z.2.day∧0<Gp x.2 z.2)) then x else z
def last0:Fct:={ Ef with day:=-1,mTo:=-1 }
def Kf (day:Int) (l:List (Fsh×Fct)):Fsh×Fct:=l.foldl (Kia day) (Ga,last0)
theorem Zb (day:Int)(l:List (Fsh×Fct))(x:Fsh×Fct):Kf day (l++[x])=Kia day (Kf day l) x:=by unfold Kf;rw [List.foldl_append];rfl
theorem lastE_in (day:Int)(l:List (Fsh×Fct)):Kf day l=(Ga,last0)∨Kf day l∈l:=by
 refine Nq (P:=fun l=>Kf day l=(Ga,last0)∨Kf day l∈l) (.inl rfl) (fun l x ih => ?_) l
 rw [Zb]
 unfold Kia
 split
 · exact .inr QAn
 · exact ih.imp id fun h=>by simp [h]
theorem Bm.day0 {f:Fct}(h:Bm f):0≤f.day:=h.1.1
theorem Iva (h:Ro)(A:Option Addr)(n c:Nat)(player:Int):Res prog 46 #[.slice A n c,.int .i64 player] h (fun u h'=>∃ bx bp,u=.func (.func 91) #[] #[.pointer (some ⟨bx,0,none⟩),.pointer (some ⟨bp,0,none⟩)]∧Ab h' ⟨bx,0,none⟩ [.slice A n c]∧Ab h' ⟨bp,0,none⟩ [.int .i64 player]):=by
 refine QXR Proofs.Tryz.func46 fun w0 X0=>?_
 repeat' (first|refine QF ?_|(refine QB ?_;intro b)|fail)
 refine Ip QK ?_
 intro h1 hle1 hc1
 refine Ip QK ?_
 intro h2 hle2 hc2
 (first|(apply Ay;(iterate 3 exact J)))
 first
  | exact ⟨_,_,rfl,hc2,hc1.le hle2⟩
  | exact ⟨_,_,rfl,hc1.le hle2,hc2⟩
open Classical in
theorem Iua (h:Ro)(A:Option Addr)(n c:Nat)(l:List (Fsh×Fct))(hx:Au h A n l)(player:Int)(bx bp:Nat)(hb:Ab h ⟨bx,0,none⟩ [.slice A n c])(hp:Ab h ⟨bp,0,none⟩ [.int .i64 player]):Hja prog 91 [.pointer (some ⟨bx,0,none⟩),.pointer (some ⟨bp,0,none⟩)] FR (Dc player l) h:=by
 intro lid I Ix mI mIx hround Es h1 hle h0
 refine QXF Proofs.Tryz.func91 fun w0 X0=>?_
 have hlen:=hx.row.len
 have hn:=hx.small
 have hb1:=hb.le hle
 have hp1:=hp.le hle
 repeat' (first|refine QF ?_|(apply Af;exact J;exact J;(first|(apply Aw;exact J;exact Cy rfl hb1 rfl));exact QA)|fail)
 refine Rr (X:=Nat×List Asn×Ro) (fun x=>x.1≤n∧Le h1 x.2.2∧I (Dc player (l.take x.1)) x.2.1 x.2.2) (fun x=>n-x.1) (fun x=>[(8,.int .i64 x.1),(7,.int .i64 n),(6,.slice A n c),(0,.func (.yield lid) #[] #[]),(2,.pointer (some ⟨bp,0,none⟩))])
  (fun x=>x.2.1) (fun x=>x.2.2) (0,Es,h1) ⟨by omega,Le.refl _,h0⟩ QS rfl rfl ?_
 rintro ⟨k,Es1,hk⟩ ⟨hkn,hlk,hI⟩ ih
 dsimp only at hkn hlk hI ih ⊢
 have hl1:Le h hk:=hle.trans hlk
 have hp2:=hp1.le hlk
 by_cases hkn2:k<n
 · have a1:=hx.row.addrD hkn2
   have c1:=(hx.row.cellsD p0 hkn2).le hl1
   have et:=Cb p0 (xs:=l) rfl (show k<l.length by omega)
   have hsplit:=Nl p0 (l:=l) rfl (show k<l.length by omega)
   have hfa:=hx.fat _ (mem7 p0 (show k<l.length by omega))
   generalize l.getD k p0=p at *
   have hch:=Ob hk p.1 p.2 (hfa.1.le hl1) hfa.2
   have hyl:Aka player p.2→Yl prog lid [Br p.1 p.2] Es1 hk fun v Es' h'=>(v=.bool true∧I (Dc player (l.take (k+1))) Es' h')∨(v=.bool false∧Ix (Dc player (l.take (k+1))) Es' h'):=fun hv=>by
    have e1:=K5a hv
    have e2:Dc player (l.take (k+1))=Dc player (l.take k)++[p]:=by rw [et,Kt,e1]
    have e3:Dc player l=Dc player (l.take k)++p::Dc player (l.drop (k+1)):=by
     conv=>lhs;rw [hsplit]
     rw [Kt,show p::l.drop (k+1)=[p]++l.drop (k+1) from rfl,Kt,e1];rfl
    rw [e2]
    exact hround _ _ _ _ _ _ e3 hl1 rfl hI
   by_cases hv:Aka player p.2
   · have hv1:=hv.1
     have hv2:=hv.2.1
     rw [if_pos hv.2.2] at hch
     repeat' (first|refine QFs ?_|(apply Af;exact J;exact J;(first|exact QAc|exact QAf|(apply Aw;exact J;exact Cy rfl hp2 rfl));exact QA)|(refine QB ?_;intro b)|(refine QG ?_;first|(refine QDo ?_)|(refine Nd (List.perm_append_comm (l₁:=[_])) ?_;apply Sx (Es0:=Es1) (Fs:=[_]);(iterate 3 exact J);exact hyl hv;rintro v E2 h2 hle2 (⟨rfl,hP⟩|⟨rfl,hP⟩);all_goals skip))|(refine QH ?_ ?_<;>intro hc<;>try omega)|refine QJ ?_|(refine QI ?_ ?_<;>intro hc<;>try omega)|fail)
     all_goals first
      | (exfalso;omega)
      | (have h3:=ih (k+1,E2,h2) ⟨by show k+1≤n;omega,hlk.trans hle2,hP⟩ QCc
         refine Pv (List.perm_append_comm (l₁:=E2) (l₂:=[_])) (Pw .here ?_)
         exact Nk QS h3)
      | (refine Pu (rs:=[]) (vs:=[]) (Fs:=E2) rfl rfl trivial (List.sublist_append_left _ _) (.inr ⟨Dc player (l.take (k+1)),Dc player (l.drop (k+1)),?_,hP⟩)
         rw [← Kt,List.take_append_drop])
   have hno:Dc player (l.take (k+1))=Dc player (l.take k):=by
    rw [et,Kt,movesE_no hv,List.append_nil]
   by_cases hk3:p.2.kind=6∧p.2.mP=player
   · rw [if_neg (fun h=>hv ⟨hk3.1,hk3.2,h⟩)] at hch
     repeat' (first|refine QFs ?_|(apply Af;exact J;exact J;(first|exact QAc|exact QAf|(apply Aw;exact J;exact Cy rfl hp2 rfl));exact QA)|(refine QB ?_;intro b)|(refine QG ?_;first|(refine QDo ?_))|(refine QH ?_ ?_<;>intro hc<;>try omega)|refine QJ ?_|(refine QI ?_ ?_<;>intro hc<;>try omega)|fail)
     all_goals
      have h3:=ih (k+1,Es1,hk) ⟨by show k+1≤n;omega,hlk,by show I (Dc player (l.take (k+1))) _ _;rw [hno];exact hI⟩ QCc
      refine Pw .here ?_
      exact Nk QS h3
   · generalize (if Bm p.2 then (0:Int) else 70)=chv at hch
     repeat' (first|refine QFs ?_|(apply Af;exact J;exact J;(first|exact QAc|exact QAf|(apply Aw;exact J;exact Cy rfl hp2 rfl));exact QA)|(refine QB ?_;intro b)|(refine QH ?_ ?_<;>intro hc<;>try omega)|refine QJ ?_|(refine QI ?_ ?_<;>intro hc<;>try omega)|fail)
     all_goals first
      | (exfalso;exact hk3 ⟨by assumption,by assumption⟩)
      | (have h3:=ih (k+1,Es1,hk) ⟨by show k+1≤n;omega,hlk,by show I (Dc player (l.take (k+1))) _ _;rw [hno];exact hI⟩ QCc
         refine Pw .here ?_
         exact Nk QS h3)
 · rw [List.take_of_length_le QAd] at hI
   repeat' (first|refine QF ?_|(refine QH ?_ ?_<;>intro hc<;>try omega)|fail)
   exact Fh (rs:=[]) (vs:=[]) rfl rfl trivial (.inl hI)
theorem Dca (h:Ro)(hG:Iv h)(A:Option Addr)(n c:Nat)(l:List (Fsh×Fct))(hx:Au h A n l)(player day:Int):Res prog 47 #[.slice A n c,.int .i64 player,.int .i64 day] h (fun u _=>u=.tuple #[.int .i64 (if (Kf day (Dc player l)).2.mTo<0 then 0 else (Kf day (Dc player l)).2.mTo),.bool (decide (0≤(Kf day (Dc player l)).2.mTo))]):=by
 refine QXR Proofs.Tryz.func47 fun w0 X0=>?_
 repeat' (first|refine QC ?_|(apply Bo;(iterate 3 exact J);apply At (e:=57);exact J;intro bL)|refine QDs ?_|(refine QB ?_;intro b)|(refine QG ?_;first|(apply Ag;exact J;exact has46;exact Iva _ A n c player;rintro vr hr1 hle1 ⟨bx,bp,rfl,hcb,hcp⟩))|fail)
 generalize b=bD
 refine Ck (Es':=[Blk bL 57 (Df Ga last0),Blk bD 3 [.int .i64 day]]) QT ?_
 refine Iw (R:=FR) (xs:=Dc player l) (gf:=91) (lb:=[.pointer (some ⟨bx,0,none⟩),.pointer (some ⟨bp,0,none⟩)]) rfl rfl has91 (Iua _ A n c l (hx.le hle1) player bx bp hcb hcp) (by rintro x u h2 rfl;rfl) rfl
  (fun pre Es h2=>Es=[Blk bL 57 (Df (Kf day pre).1 (Kf day pre).2),Blk bD 3 [.int .i64 day]]) (fun _ _ _ _=>False)
  (fun pre Es h2 h3 hl e=>e) (fun _ _ _ _ _ _ h=>h.elim) rfl ?_ ?_ (fun _ _ _ _ _ _ _ _ h=>h.elim)
 · rintro lid r0 w1 X1 pre x post u Es1 h1 hxe rfl rfl hle hst
   have hm:∀ y∈Dc player l,FAt h1 y.1 y.2∧FSm y.2∧Bm y.2:=fun y hy=>by
    rw [Sh] at hy
    have:=hx.fat y hy.1
    exact ⟨this.1.le (hle1.trans hle),this.2,hy.2.2.2⟩
   obtain ⟨q1,q2,q3⟩:=hm x (by rw [hxe];simp)
   have hz:x.2.day=(Kf day pre).2.day→FAt h1 (Kf day pre).1 (Kf day pre).2∧FSm (Kf day pre).2∧Bm (Kf day pre).2:=fun e=>by
    rcases lastE_in day pre with e2|hin
    · have:=q3.day0
      rw [e2] at e
      rw [e] at this
      exact absurd this QAs
    · exact hm _ (by rw [hxe];simp [hin])
   rw [Zb]
   generalize Kf day pre=z at *
   obtain ⟨s,f⟩:=x
   obtain ⟨t,e⟩:=z
   unfold Kia
   dsimp only at q1 q2 q3 hz ⊢
   repeat' (first|refine QC ?_|(apply Rv;exact J;exact QK;exact hst)|refine QDs ?_|(refine QB ?_;intro b)|(refine QG ?_;first|(apply Ag;exact J;exact Lga;exact La _ (hG.le QAa) s t f e (q1.le QAa) q2 ((hz QAe).1.le QAa) (hz QAe).2.1 q3 (hz QAe).2.2;rintro v2 h2 hle2 rfl))|(refine QH ?_ ?_<;>intro hc<;>try omega)|refine QJ ?_|(refine QI ?_ ?_<;>intro hc<;>try omega)|fail)
   all_goals first
    | (rw [if_pos (show f.day≤day∧(e.day<f.day∨(f.day=e.day∧0<Gp f e)) by omega)]
       refine Ck (Es':=[Ii lid { r0 with state:=.busy },Blk bL 57 (Df s f),Blk bD 3 [.int .i64 day]]) QT (Cja (r0:=r0) rfl .here ?_)
       rfl)
    | (rw [if_neg (show ¬ (f.day≤day∧(e.day<f.day∨(f.day=e.day∧0<Gp f e))) by omega)]
       refine Ck (Es':=[Ii lid { r0 with state:=.busy },Blk bL 57 (Df t e),Blk bD 3 [.int .i64 day]]) QT (Cja (r0:=r0) rfl .here ?_)
       rfl)
 · rintro D h1 Es1 hle rfl
   repeat' (first|refine QF ?_|(refine QH ?_ ?_<;>intro hc<;>try omega)|fail)
   · refine Mca (Sv rfl QK (Rt_S (rs:=[.tmp 6,.tmp 7]) (vs:=[.int .i64 0,.bool false]) rfl rfl ⟨rfl,rfl,trivial⟩ (List.nil_sublist _) ⟨rfl,?_⟩))
     rw [if_pos hc,decide_eq_false QAd]
     rfl
   · refine Mca (Sv rfl QK (Rt_S (rs:=[.tmp 6,.tmp 7]) (vs:=[.int .i64 (Kf day (Dc player l)).2.mTo,.bool true]) rfl rfl ⟨rfl,rfl,trivial⟩ (List.nil_sublist _) ⟨rfl,?_⟩))
     rw [if_neg QAd,decide_eq_true hc]
     rfl
end Go.Hw
set_option maxHeartbeats 8000000
namespace Go.Hw
open Go
attribute [local irreducible] GO GOl GDp Val Fn Res Ab Du Blk Bd Cd Bf Has Yl Ik Bn Lt Kk Ew Hj Cn Oh Ff Hv Ue Md
open Go.Proofs.Tryz (prog)
theorem Laa {l:List (Fsh×Fct)}(pl day:Int):(Kf day (Dc pl l)).2=Ue (fcs l) pl day:=by
 have e:fcs (Dc pl l)=Za pl (fcs l):=by
  unfold Dc Za fcs
  rw [List.filter_map]
  rfl
 unfold Ue Kf
 rw [← e]
 unfold fcs
 have go:∀ (ms:List (Fsh×Fct)) (z:Fsh×Fct),(ms.foldl (Kia day) z).2=(ms.map (·.2)).foldl (Fya day) z.2:=by
  intro ms
  induction ms with
  | nil=>intro z;rfl
  | cons x r ih =>
    intro z
    rw [List.foldl_cons,ih,List.map_cons,List.foldl_cons]
    congr 1
    unfold Kia Fya
    split <;> rfl
 exact go (Dc pl l) (Ga,last0)
theorem Yy {l:List (Fsh×Fct)}{pl:Int}:Dc pl l=[]↔¬ ∃ x∈fcs l,Fja pl x:=by
 rw [List.eq_nil_iff_forall_not_mem]
 constructor
 · rintro h ⟨f,hf,q⟩
   unfold fcs at hf
   obtain ⟨p,hp,rfl⟩:=List.mem_map.1 hf
   exact h p (Sh.2 ⟨hp,q⟩)
 · intro h p hp
   have:=Sh.1 hp
   exact h ⟨p.2,List.mem_map.2 ⟨p,this.1,rfl⟩,this.2⟩
def E6a (L:List Fct) (p day club:Int):Prop:=0≤(Ue L p day).mTo∧(Ue L p day).mTo=club
noncomputable def regV (L:List Fct) (p day:Int):Value:=.tuple #[.int .i64 (if (Ue L p day).mTo<0 then 0 else (Ue L p day).mTo),.bool (decide (0≤(Ue L p day).mTo))]
theorem A1a (h:Ro)(hG:Iv h)(A:Option Addr)(n c:Nat)(l:List (Fsh×Fct))(hx:Au h A n l)(player day:Int):Res prog 47 #[.slice A n c,.int .i64 player,.int .i64 day] h (fun u _=>u=regV (fcs l) player day):=by
 have:=Dca h hG A n c l hx player day
 rw [Laa] at this
 exact this
open Classical in
theorem off1_c (h:Ro)(hG:Iv h)(A:Option Addr)(n c:Nat)(l:List (Fsh×Fct))(hx:Au h A n l)(m:Int×Int)(b2 b6:Nat)(s:Fsh×Az)(h2:Ab h ⟨b2,0,none⟩ [.slice A n c])(h6:Ab h ⟨b6,0,none⟩ (Ey s)):Res prog 45 #[.agg (He m).toArray,.pointer (some ⟨b2,0,none⟩),.pointer (some ⟨b6,0,none⟩)] h (fun u _=>u=.bool (!decide ((∃ x∈fcs l,Fja m.1 x)∧¬ E6a (fcs l) m.1 s.2.day m.2))):=by
 refine QXR Proofs.Tryz.func45 fun w0 X0=>?_
 obtain ⟨p,cl⟩:=m
 obtain ⟨sf,sc⟩:=s
 dsimp only
 obtain ⟨vb,hvb⟩:∃ vb:Bool,(vb=true↔E6a (fcs l) p sc.day cl):=⟨decide (E6a (fcs l) p sc.day cl),by simp⟩
 repeat' (first|refine QC ?_|(apply Bo;(iterate 3 exact J);apply Dj (e:=105);exact J;intro b3)|(apply Bo;(iterate 3 exact J);apply At (e:=4);exact J;intro b4)|refine QD ?_|(apply Af;exact J;exact J;(first|(apply Aw;exact J;exact Cy rfl h2 rfl));exact QA)|(refine QG ?_;first|(apply Ag;exact J;exact has46;exact Iva _ A n c p;rintro vr hr1 hle1 ⟨bx,bp,rfl,hcb,hcp⟩))|fail)
 refine Ck (Es':=[Blk b4 4 [.bool false],Blk b3 105 (He (p,cl))]) QT ?_
 refine Iw (R:=FR) (xs:=Dc p l) (gf:=91) (lb:=[.pointer (some ⟨bx,0,none⟩),.pointer (some ⟨bp,0,none⟩)]) rfl rfl has91 (Iua _ A n c l (hx.le hle1) p bx bp hcb hcp) (by rintro x u h2 rfl;rfl) rfl
  (fun pre Es h2=>pre=[]∧Es=[Blk b4 4 [.bool false],Blk b3 105 (He (p,cl))])
  (fun cd pre Es h2=>cd=.ret∧pre≠[]∧Es=[Blk b4 4 [.bool vb]])
  (fun pre Es h2 h3 hl e=>e) (fun _ _ _ _ _ _ h=>h) ⟨rfl,rfl⟩ ?_ ?_ ?_
 · rintro lid r0 w1 X1 pre x post u Es1 h1 hxe rfl ⟨rfl,rfl⟩ hle hst
   have hrg:=fun h' (hl:Le h1 h')=>A1a h' (hG.le (hle1.trans (hle.trans hl))) A n c l (hx.le (hle1.trans (hle.trans hl))) p sc.day
   have h2':=(h2.le hle1).le hle
   have h6':=(h6.le hle1).le hle
   unfold regV at hrg
   have hv:vb=true↔0≤(Ue (fcs l) p sc.day).mTo∧(Ue (fcs l) p sc.day).mTo=cl:=hvb
   clear hvb
   generalize (Ue (fcs l) p sc.day).mTo=t at *
   by_cases ht:0≤t
   · rw [if_neg (show ¬ t<0 by omega),decide_eq_true ht] at hrg
     have e:eqI t cl=vb:=by rw [Bool.eq_iff_iff,Ib,hv];exact ⟨fun q=>⟨ht,q⟩,fun q=>q.2⟩
     subst e
     repeat' (first|refine QC ?_|(apply Rv;exact J;exact QK;exact hst)|refine QDs ?_|(apply Af;exact J;exact J;(first|(apply Aw;exact J;exact Cy rfl h2' rfl)|(apply Aw;exact J;exact Jp rfl h6' rfl));exact QA)|(refine QG ?_;first|(refine QEv ?_;rintro v2 h3 hle3 rfl))|fail)
     all_goals first
      | (refine Ck (Es':=[Ii lid { r0 with state:=.busy },Blk b4 4 [.bool (eqI t cl)]]) QT (GO_rRet (r0:=r0) rfl .here ⟨rfl,by simp,rfl⟩))
   · rw [if_pos (show t<0 by omega),decide_eq_false ht] at hrg
     have e:vb=false:=by rw [← Bool.not_eq_true,hv];exact fun q=>ht q.1
     subst e
     repeat' (first|refine QC ?_|(apply Rv;exact J;exact QK;exact hst)|refine QDs ?_|(apply Af;exact J;exact J;(first|(apply Aw;exact J;exact Cy rfl h2' rfl)|(apply Aw;exact J;exact Jp rfl h6' rfl));exact QA)|(refine QG ?_;first|(refine QEv ?_;rintro v2 h3 hle3 rfl))|fail)
     all_goals first
      | (refine Ck (Es':=[Ii lid { r0 with state:=.busy },Blk b4 4 [.bool false]]) QT (GO_rRet (r0:=r0) rfl .here ⟨rfl,by simp,rfl⟩))
 · rintro D h1 Es1 hle ⟨hnil,rfl⟩
   have hno:=Yy.1 hnil
   rw [show (!decide ((∃ x∈fcs l,Fja p x)∧¬ E6a (fcs l) p sc.day cl))=true from by rw [decide_eq_false (fun q=>hno q.1)];rfl]
   repeat' (first|refine QFs ?_|fail)
   all_goals
    refine Mca (Sv rfl QK (Rt_S (rs:=[.cell 4 4]) (vs:=[.bool true]) rfl rfl ⟨⟨_,rfl,Lf rfl QM rfl⟩,trivial⟩ (List.nil_sublist _) ⟨rfl,rfl⟩))
 · rintro D h1 Es1 cd pre post hxe hle ⟨rfl,hne,rfl⟩
   have hyes:∃ x∈fcs l,Fja p x:=by
    refine Classical.byContradiction fun q => ?_
    rw [Yy.2 q] at hxe
    have:=(List.append_eq_nil_iff.1 hxe.symm).1
    exact hne this
   rw [show (!decide ((∃ x∈fcs l,Fja p x)∧¬ E6a (fcs l) p sc.day cl))=vb from by
    cases vb
    · rw [decide_eq_true ⟨hyes,fun q=>by have:=hvb.2 q;cases this⟩];rfl
    · rw [decide_eq_false (fun w=>w.2 (hvb.1 rfl))];rfl]
   refine Mca (Sv rfl QK (Rt_S (rs:=[.cell 4 4]) (vs:=[.bool vb]) rfl rfl ⟨⟨_,rfl,Lf rfl QM rfl⟩,trivial⟩ (List.nil_sublist _) ⟨rfl,rfl⟩))
theorem off2_c (h:Ro)(hG:Iv h)(A:Option Addr)(n c:Nat)(l:List (Fsh×Fct))(hx:Au h A n l)(m:Int×Int)(b2 b6:Nat)(s:Fsh×Az)(h2:Ab h ⟨b2,0,none⟩ [.slice A n c])(h6:Ab h ⟨b6,0,none⟩ (Ey s)):Res prog 48 #[.agg (He m).toArray,.pointer (some ⟨b2,0,none⟩),.pointer (some ⟨b6,0,none⟩)] h (fun u _=>u=.bool (Iq (Ba (fcs l)) m.1 s.2.day)):=by
 refine QXR Proofs.Tryz.func48 fun w0 X0=>?_
 repeat' (first|refine QF ?_|(apply Af;exact J;exact J;(first|(apply Aw;exact J;exact Cy rfl h2 rfl)|(apply Aw;exact J;exact Jp rfl h6 rfl));exact QA)|(refine QB ?_;intro b)|(refine QG ?_;first|(apply Ag;exact J;exact has49;exact Unfit_c _ (hG.le QAa) A n c l (hx.le QAa) m.1 s.2.day;rintro v2 h3 hle3 rfl))|fail)
 all_goals first
  | ((first|(apply Ay;(iterate 3 exact J)));rfl)
theorem off3_c (h:Ro)(m:Int×Int)(b7 bm:Nat)(mm:List (Int×Bool))(h7:Ab h ⟨b7,0,none⟩ [.map (some bm)]):Fn prog 50 #[.agg (He m).toArray,.pointer (some ⟨b7,0,none⟩)] [Cd ekN Value.bool bm mm] h (fun u Es _=>u=.bool ((Cf m.1 mm).getD false)∧Es=[Cd ekN Value.bool bm mm]):=by
 refine QXF Proofs.Tryz.func50 fun w0 X0=>?_
 have hK:=KN
 repeat' (first|refine QF ?_|(apply Af;exact J;exact J;(first|(apply Aw;exact J;exact Cy rfl h7 rfl)|(apply Gh (ek:=ekN) (ev:=Value.bool) (z0:=false) (key:=m.1) (b:=bm) (m:=mm) hK;(iterate 7 exact J)));exact QA)|(refine QB ?_;intro b)|fail)
 all_goals first
  | (exact Bi rfl rfl rfl QAk ⟨rfl,rfl⟩)
def BanIs (S:List Jt) (g:Ak) (mm:List (Int×Bool)):Prop:=∀ p,(Cf p mm).getD false=true↔∃ s∈S,s.p=p∧s.g=g
def resV2 (b2 b6 b7:Nat):List Value:=[.func (.func 45) #[] #[.pointer (some ⟨b2,0,none⟩),.pointer (some ⟨b6,0,none⟩)],.func (.func 48) #[] #[.pointer (some ⟨b2,0,none⟩),.pointer (some ⟨b6,0,none⟩)],.func (.func 50) #[] #[.pointer (some ⟨b7,0,none⟩)]]
open Classical in
theorem offends_c (h:Ro)(hG:Iv h)(A:Option Addr)(n c:Nat)(l:List (Fsh×Fct))(hx:Au h A n l)(m:Int×Int)(b2 b6 b7 bm:Nat)(s:Fsh×Az)(h2:Ab h ⟨b2,0,none⟩ [.slice A n c])(h6:Ab h ⟨b6,0,none⟩ (Ey s))(mm:List (Int×Bool))(h7:Ab h ⟨b7,0,none⟩ [.map (some bm)])(S:List Jt)(g:Ak)(hb:BanIs S g mm) :
  Fn prog 52 #[.agg (resV2 b2 b6 b7).toArray,.agg (He m).toArray] [Cd ekN Value.bool bm mm] h (fun u Es _=>u=.bool (decide (Fia (fcs l) S g s.2.day m.2 m.1))∧Es=[Cd ekN Value.bool bm mm]):=by
 refine QXF Proofs.Tryz.func52 fun w0 X0=>?_
 have h1:=fun h' (hl:Le h h')=>off1_c h' (hG.le hl) A n c l (hx.le hl) m b2 b6 s (h2.le hl) (h6.le hl)
 have h3:=fun h' (hl:Le h h')=>off2_c h' (hG.le hl) A n c l (hx.le hl) m b2 b6 s (h2.le hl) (h6.le hl)
 have h4:=fun h' (hl:Le h h')=>off3_c h' m b7 bm mm (h7.le hl)
 have hO:Fia (fcs l) S g s.2.day m.2 m.1↔((∃ x∈fcs l,Fja m.1 x)∧¬ E6a (fcs l) m.1 s.2.day m.2)∨Iq (Ba (fcs l)) m.1 s.2.day=true∨(Cf m.1 mm).getD false=true:=by
  unfold Fia E6a
  rw [hb m.1]
 by_cases q1:(∃ x∈fcs l,Fja m.1 x)∧¬ E6a (fcs l) m.1 s.2.day m.2
 · rw [decide_eq_true q1] at h1
   rw [decide_eq_true (hO.2 (.inl q1))]
   clear h3 h4
   repeat' (first|refine QF ?_|(refine QB ?_;intro b)|(refine QG ?_;first|(refine QA5 ?_;rintro v2 h3 hle3 rfl))|fail)
   all_goals first
    | (exact Bi rfl rfl rfl QAk ⟨rfl,rfl⟩)
 · rw [decide_eq_false q1] at h1
   cases q2:Iq (Ba (fcs l)) m.1 s.2.day with
   | true =>
     rw [q2] at h3
     rw [decide_eq_true (hO.2 (.inr (.inl q2)))]
     clear h4
     repeat' (first|refine QF ?_|(refine QB ?_;intro b)|(refine QG ?_;first|(refine QA5 ?_;rintro v2 h5 hle5 rfl)|(refine QCm ?_;rintro v4 h6 hle6 rfl))|fail)
     all_goals first
      | (exact Bi rfl rfl rfl QAk ⟨rfl,rfl⟩)
   | false =>
     rw [q2] at h3
     have e:decide (Fia (fcs l) S g s.2.day m.2 m.1)=(Cf m.1 mm).getD false:=by
      rw [Bool.eq_iff_iff,decide_eq_true_eq,hO,q2]
      exact ⟨fun w=>(w.resolve_left q1).resolve_left QAn,fun w=>.inr (.inr w)⟩
     rw [e]
     generalize (Cf m.1 mm).getD false=bb at *
     repeat' (first|refine QF ?_|(refine QB ?_;intro b)|(refine QG ?_;first|(refine QA5 ?_;rintro v2 h5 hle5 rfl)|(refine QCm ?_;rintro v4 h6 hle6 rfl)|(apply Fo (f:=50) (fs:=[]) (cs:=[.pointer (some ⟨b7,0,none⟩)]);exact J;exact J;exact has50;exact h4 _ QAa;exact QT;rintro v5 Es5 h8 hle8 ⟨rfl,rfl⟩))|fail)
     all_goals first
      | (exact Bi rfl rfl rfl QAk ⟨rfl,rfl⟩)
def J4a (h:Ro) (u:Value) (o:List Int×List Int):Prop:=∃ A1 c1 A2 c2,u=.tuple #[.slice A1 o.1.length c1,.slice A2 o.2.length c2]∧Ar Cu 1 h A1 o.1.length o.1∧Ar Cu 1 h A2 o.2.length o.2
open Classical in
theorem off4_c (h:Ro)(hG:Iv h)(A:Option Addr)(n c:Nat)(l:List (Fsh×Fct))(hx:Au h A n l)(B:Option Addr)(nb d:Nat)(sq:List Int)(hsq:Ar Cu 1 h B nb sq)(hnb:nb≤1000000)(cl:Int)(b2 b6 b7 b10 bm:Nat)(s:Fsh×Az)(h2:Ab h ⟨b2,0,none⟩ [.slice A n c])(h6:Ab h ⟨b6,0,none⟩ (Ey s))(mm:List (Int×Bool))(h7:Ab h ⟨b7,0,none⟩ [.map (some bm)])(h10:Ab h ⟨b10,0,none⟩ (resV2 b2 b6 b7))(S:List Jt)(g:Ak)(hb:BanIs S g mm) :
  Fn prog 51 #[.slice B nb d,.int .i64 cl,.pointer (some ⟨b10,0,none⟩)] [Cd ekN Value.bool bm mm] h (fun u Es h'=>∃ A' c',u=.slice A' (Md (fcs l) S g s.2.day cl sq).length c'∧Ar Cu 1 h' A' (Md (fcs l) S g s.2.day cl sq).length (Md (fcs l) S g s.2.day cl sq)∧Es=[Cd ekN Value.bool bm mm]):=by
 refine QXF Proofs.Tryz.func51 fun w0 X0=>?_
 have hof:=fun h' (hl:Le h h') p=>offends_c h' (hG.le hl) A n c l (hx.le hl) (p,cl) b2 b6 b7 bm s (h2.le hl) (h6.le hl) mm (h7.le hl) S g hb
 have hlen:=hsq.len
 have hsn:=Vx (fcs l) S g s.2.day cl
 have hsl:=Qm (fcs l) S g s.2.day cl
 have hO0:Md (fcs l) S g s.2.day cl []=[]:=by unfold Md;rfl
 dsimp only at hof
 obtain ⟨qb,hqb⟩:∃ qb:Int→Bool,∀ p,qb p=decide (Fia (fcs l) S g s.2.day cl p):=⟨_,fun _=>rfl⟩
 have hof:∀ h' (hl:Le h h') p,Fn prog 52 #[.agg (resV2 b2 b6 b7).toArray,.agg (He (p,cl)).toArray] [Cd ekN Value.bool bm mm] h' (fun u Es _=>u=.bool (qb p)∧Es=[Cd ekN Value.bool bm mm]):=fun h' hl p=>by rw [hqb p];exact hof h' hl p
 have hsn:∀ sq p,Md (fcs l) S g s.2.day cl (sq++[p])=if qb p=true then Md (fcs l) S g s.2.day cl sq++[p] else Md (fcs l) S g s.2.day cl sq:=fun sq p=>by
  rw [hsn sq p,hqb p]
  by_cases q:Fia (fcs l) S g s.2.day cl p
  · rw [if_pos q,decide_eq_true q,if_pos rfl]
  · rw [if_neg q,decide_eq_false q,if_neg QAn]
 clear hqb
 generalize Md (fcs l) S g s.2.day cl=O at *
 clear hx h2 h6 h7 hb
 repeat' (first|refine QF ?_|fail)
 refine Fg 3 1 ?_
 refine Ai (X:=Nat×List Int×Option Addr×Nat×Ro) (fun x=>x.1≤nb∧Le h x.2.2.2.2∧x.2.1=O (sq.take x.1)) (fun x=>nb-x.1)
  (fun x=>[(10,.int .i64 x.1),(9,.int .i64 nb),(8,.slice B nb d),(5,.slice x.2.2.1 x.2.1.length x.2.2.2.1),(1,.int .i64 cl),(2,Kr b10)])
  (fun x=>[Bd 3 1 (.slice x.2.2.1 x.2.1.length x.2.2.2.1) x.2.1.length (x.2.1.flatMap Cu),Cd ekN Value.bool bm mm]) (fun x=>x.2.2.2.2) (0,[],none,0,h) ⟨by dsimp only;omega,Le.refl _,hO0.symm⟩ QS QT rfl ?_
 rintro ⟨k,out,A4,c4,hh⟩ ⟨hk,hle,ho⟩ ih
 dsimp only at hk hle ho ih ⊢
 have hol:out.length≤k:=by
  rw [ho]
  refine Nat.le_trans (hsl _) ?_
  rw [List.length_take];omega
 by_cases hkn:k<nb
 · have a1:=hsq.addrD hkn
   have c1:Ab hh ((addrD B).add (k * ty3.size)) (Cu (sq.getD k 0)):=(hsq.cellsD 0 hkn).le hle
   have et:=Cb 0 (xs:=sq) hlen hkn
   have c10:=h10.le hle
   generalize sq.getD k 0=p at *
   have e0:=hsn (sq.take k) p
   rw [← et,← ho] at e0
   have hof:=fun h' (hl:Le hh h')=>hof h' (hle.trans hl) p
   cases hq:qb p with
   | true =>
     rw [hq] at e0 hof
     rw [if_pos rfl] at e0
     clear hsn hsl
     repeat' (first|refine QF ?_|(apply Af;exact J;exact J;(first|exact QAc|exact QCh|(apply Aw;exact J;apply Cy;exact J;(with_reducible exact c10);exact J));exact QA)|(refine QG ?_;first|(refine QEg ?_;rintro v5 Es5 h8 hle8 ⟨rfl,rfl⟩)|(refine QAq ?_;intro b5 h9 hle9 hs5)|(refine QEf ?_;intro A5 c5))|(refine QH ?_ ?_<;>intro hc<;>try omega)|fail)
     all_goals first
      | (exfalso;omega)
      | (exfalso;simp at hc;done)
      | (have h3:=ih (k+1,out++[p],A5,c5,h9) ⟨by dsimp only;omega,hle.trans (hle8.trans hle9),by dsimp only;rw [e0]⟩ QAh
         dsimp only at h3
         rw [List.length_append] at h3
         refine Aj QS QT (h3))
   | false =>
     rw [hq] at e0 hof
     rw [if_neg QAn] at e0
     clear hsn hsl
     repeat' (first|refine QF ?_|(apply Af;exact J;exact J;(first|exact QAc|exact QCh|(apply Aw;exact J;apply Cy;exact J;(with_reducible exact c10);exact J));exact QA)|(refine QG ?_;first|(refine QEg ?_;rintro v5 Es5 h8 hle8 ⟨rfl,rfl⟩))|(refine QH ?_ ?_<;>intro hc<;>try omega)|fail)
     all_goals first
      | (exfalso;omega)
      | (exfalso;simp at hc;done)
      | (have h3:=ih (k+1,out,A4,c4,h8) ⟨by dsimp only;omega,hle.trans hle8,by dsimp only;rw [e0]⟩ QAh
         dsimp only at h3
         refine Aj QS QT (h3))
 · rw [List.take_of_length_le QAd] at ho
   clear ih hof hsn hsl
   rw [← ho]
   refine El (enc:=Cu) (e:=3) (sz:=1) (n:=out.length) (xs:=out) (fun _=>rfl) rfl QK ?_
   intro A7 c7 h8 hle8 e7 hnc7 hs7
   cases e7
   repeat' (first|refine QF ?_|(refine QH ?_ ?_<;>intro hc<;>try omega)|fail)
   all_goals first
    | (exfalso;omega)
    | (exact Bi rfl rfl rfl QAk ⟨A4,c4,rfl,hs7,rfl⟩)
def banM (g:Ak) (S:List Jt):List (Int×Bool):=S.foldl (fun m s=>if s.g=g then Im s.p true m else m) []
theorem E0a (g:Ak)(S:List Jt)(s:Jt):banM g (S++[s])=if s.g=g then Im s.p true (banM g S) else banM g S:=by unfold banM;rw [List.foldl_append];rfl
theorem banM_is (g:Ak)(S:List Jt):BanIs S g (banM g S):=by
 refine Kqa (P:=fun S=>BanIs S g (banM g S)) (fun p => ?_) (fun S s ih p => ?_) S
 · constructor
   · intro h;cases h
   · rintro ⟨s,hs,_⟩;cases hs
 · rw [E0a]
   have:=ih p
   by_cases hg:s.g=g
   · rw [if_pos hg,Si]
     by_cases hp:s.p=p
     · rw [if_pos hp]
       exact ⟨fun _=>⟨s,by simp,hp,hg⟩,fun _=>rfl⟩
     · rw [if_neg hp,this]
       constructor
       · rintro ⟨t,h1,h2⟩;exact ⟨t,by simp [h1],h2⟩
       · rintro ⟨t,h1,h2⟩
         rw [List.mem_append,List.mem_singleton] at h1
         rcases h1 with h1|rfl
         · exact ⟨t,h1,h2⟩
         · exact absurd h2.1 hp
   · rw [if_neg hg,this]
     constructor
     · rintro ⟨t,h1,h2⟩;exact ⟨t,by simp [h1],h2⟩
     · rintro ⟨t,h1,h2⟩
       rw [List.mem_append,List.mem_singleton] at h1
       rcases h1 with h1|rfl
       · exact ⟨t,h1,h2⟩
       · exact absurd h2.2 hg
theorem offL_no {L:List Fct}{g:Ak}(h:(Bj L g).kind≠2):Up L g=([],[]):=by unfold Up;rw [if_neg h]
theorem Ira {L:List Fct}{g:Ak}{x:Az}(hx:Bj L g=x)(h:x.kind=2):Up L g=(Md L (Ew (Lt L g.s g.c)) g x.day g.h x.sh.hs,Md L (Ew (Lt L g.s g.c)) g x.day g.a x.sh.as):=by unfold Up;rw [hx,if_pos h]
def su0:Jt:=⟨0,0,Ol⟩
theorem Hna (h:Ro)(hG:Iv h)(A:Option Addr)(n c:Nat)(l:List (Fsh×Fct))(hx:Au h A n l)(hn6:n≤65536)(g:Ak):Res prog 17 #[.slice A n c,De g] h (fun u h'=>J4a h' u (Up (fcs l) g)):=by
 refine QXR Proofs.Tryz.func17 fun w0 X0=>?_
 have hsc:=fun h' (hl:Le h h')=>Ava h' (hG.le hl) A n c l (hx.le hl) g
 have hsu:=fun h' (hl:Le h h')=>B6a h' (hG.le hl) A n c l (hx.le hl) hn6 g.s g.c
 have hno:=offL_no (L:=fcs l) (g:=g)
 have hyes:=fun x=>Ira (L:=fcs l) (g:=g) (x:=x)
 have hsh:=Cl (Fa hx) (g:=g)
 rw [show Oa l=fcs l from rfl] at hsc
 generalize hsx:Bj (fcs l) g=x at *
 generalize Ew (Lt (fcs l) g.s g.c)=S at *
 by_cases hk2:x.kind=2
 case' neg =>
  rw [hno hk2]
  clear hsu hno hyes
  repeat' (first|refine QFs ?_|(refine QB ?_;intro b)|(refine QG ?_;first|(refine QAv ?_;rintro w2 h2 hle2 ⟨s,rfl,hs1,hs2⟩))|(refine QH ?_ ?_<;>intro hc<;>try omega)|fail)
  all_goals first
   | (exfalso;omega)
   | (exact Cs rfl rfl rfl rfl ⟨none,0,none,0,rfl,Ar.nil,Ar.nil⟩)
 have hyes:=hyes x rfl hk2
 have hsz:x.sh.hs.length≤1000000∧x.sh.as.length≤1000000:=by
  obtain ⟨f,_,ok,kf,e,_⟩:=hsh hk2
  have:=ok.2.2.1
  unfold Cw at this
  rw [if_neg QAd,if_neg QAd,if_pos kf,e] at this
  have h1:=this.2.2.2.2.2.1.1
  have h2:=this.2.2.2.2.2.2.1.1
  omega
 rw [hyes]
 clear hno hyes hsh
 repeat' (first|refine QC ?_|(apply Bo;(iterate 3 exact J);apply Dj (e:=22);exact J;intro b2)|(apply Bo;(iterate 3 exact J);apply Dj (e:=24);exact J;intro b3)|(apply Bo;(iterate 3 exact J);apply At (e:=62);exact J;intro b6)|(apply Bo;(iterate 3 exact J);apply At (e:=99);exact J;intro b7)|refine QDs ?_|(refine QG ?_;first|(refine QAv ?_;rintro w2 h3 hle3 ⟨s,rfl,hs1,hs2⟩)|(apply Eu ekN Value.bool;intro bm)|(apply Ag;exact J;exact has44;exact hsu _ QAa;rintro w4 h4 hle4 ⟨A5,c5,rfl,hsS,hSn⟩))|(refine QH ?_ ?_<;>intro hc<;>try omega)|fail)
 all_goals (try (exfalso;omega))
 have hK:=KN
 refine Ai (X:=Nat) (fun k=>k≤S.length) (fun k=>S.length-k)
  (fun k=>[(26,.int .i64 k),(25,.int .i64 S.length),(24,.slice A5 S.length c5),(7,Kr b7),(6,Kr b6),(3,Kr b3),(2,Kr b2)])
  (fun k=>[Cd ekN Value.bool bm (banM g (S.take k)),Blk b7 99 [.map (some bm)],Blk b6 62 (Ey (s,x)),Blk b3 24 (Cx g),Blk b2 22 [.slice A n c]]) (fun _=>h4) 0 QAd QS QT rfl ?_
 rintro k hk ih
 by_cases hkn:k<S.length
 · have a1:=hsS.addrD hkn
   have c1:=hsS.cellsD su0 hkn
   have et:=Cb su0 (xs:=S) rfl hkn
   generalize S.getD k su0=z at *
   have hsn:=E0a g (S.take k) z
   rw [← et] at hsn
   have h9:=ih (k+1) QAd QAd
   rw [hsn] at h9
   generalize banM g (S.take k)=mm at *
   have hge:=Lr z.g g
   clear ih hsn et hsc hsu
   by_cases hzg:z.g=g
   · rw [if_pos hzg] at h9
     rw [decide_eq_true hzg] at hge
     repeat' (first|refine QFs ?_|(apply Af;exact J;exact J;(first|exact QAc|exact QAf|exact QA1);exact QA)|(refine QB ?_;intro b)|(refine QG ?_;first|(apply Dp (ek:=ekN) (ev:=Value.bool) (b:=bm) (m:=mm) (key:=z.p) (u:=true) hK;(iterate 6 exact J);exact QR))|(refine QH ?_ ?_<;>intro hc<;>try omega)|fail)
     all_goals first
      | (exfalso;omega)
      | (exfalso;simp at hc;done)
      | (refine Aj QS QT (h9))
   · rw [if_neg hzg] at h9
     rw [decide_eq_false hzg] at hge
     repeat' (first|refine QFs ?_|(apply Af;exact J;exact J;(first|exact QAc|exact QAf|exact QA1);exact QA)|(refine QB ?_;intro b)|(refine QH ?_ ?_<;>intro hc<;>try omega)|fail)
     all_goals first
      | (exfalso;omega)
      | (exfalso;simp at hc;done)
      | (refine Aj QS QT (h9))
 · rw [List.take_of_length_le QAd]
   clear ih hsc hsu
   have hban:=banM_is g S
   have hle0:Le h h4:=QAa
   have hhs:=(hs1.hs.le hle4)
   have has':=(hs1.as.le hle4)
   have hn1:=hs1.hs.len
   have hn2:=hs1.as.len
   generalize banM g S=mm at *
   refine Ip (b:=b2) (e:=22) QK ?_
   intro q1 hq1 d2
   refine Ip (b:=b6) (e:=62) QK ?_
   intro q2 hq2 d6
   refine Ip (b:=b7) (e:=99) QK ?_
   intro q3 hq3 d7
   refine Ip (b:=b3) (e:=24) QK ?_
   intro q4 hq4 d3
   have hle9:Le h q4:=hle0.trans (hq1.trans (hq2.trans (hq3.trans hq4)))
   have d2:=d2.le (hq2.trans (hq3.trans hq4))
   have d6:=d6.le (hq3.trans hq4)
   have d7:=d7.le hq4
   have hhs:=hhs.le (hq1.trans (hq2.trans (hq3.trans hq4)))
   have has':=has'.le (hq1.trans (hq2.trans (hq3.trans hq4)))
   have hside1:=fun h' (hl:Le q4 h') b10 (h10:Ab h' ⟨b10,0,none⟩ (resV2 b2 b6 b7))=>off4_c h' (hG.le (hle9.trans hl)) A n c l (hx.le (hle9.trans hl)) s.hs.A s.hs.n s.hs.c x.sh.hs (hhs.le hl) QAd g.h b2 b6 b7 b10 bm (s,x) (d2.le hl) (d6.le hl) mm (d7.le hl) h10 S g hban
   have hside2:=fun h' (hl:Le q4 h') b10 (h10:Ab h' ⟨b10,0,none⟩ (resV2 b2 b6 b7))=>off4_c h' (hG.le (hle9.trans hl)) A n c l (hx.le (hle9.trans hl)) s.as.A s.as.n s.as.c x.sh.as (has'.le hl) QAd g.a b2 b6 b7 b10 bm (s,x) (d2.le hl) (d6.le hl) mm (d7.le hl) h10 S g hban
   dsimp only at hside1 hside2
   generalize Md (fcs l) S g x.day g.h x.sh.hs=o1 at *
   generalize Md (fcs l) S g x.day g.a x.sh.as=o2 at *
   clear hx hhs has' hban
   repeat' (first|refine QC ?_|(apply Bo;(iterate 3 exact J);apply At (e:=112);exact J;intro b10)|refine QDs ?_|(apply Ad (n:=13) [0,1,2,3,4,5,6,7,8,9,10,11,12,13,14,15] [(0,0),(1,0),(2,0),(3,0),(4,0),(5,0),(7,0),(8,0),(9,0),(10,0),(11,0),(12,0),(6,1),(13,1),(14,0),(15,0)];kernel_rfl)|(apply Bk;exact J;kernel_rfl;exact J;exact J;(first|(apply Aw;exact J;exact Jp rfl (d3.le QAa) rfl)|(apply Aw;exact J;exact Xj rfl (d6.le QAa) rfl));exact QA)|(apply Ao;exact J;kernel_rfl;(iterate 3 exact J);(first|(refine Bv (b:=b10) (e:=112) QK ?_;intro h5 hle5 d10;apply Fo (f:=51) (fs:=[]) (cs:=[.pointer (some ⟨b10,0,none⟩)]);exact J;exact J;exact has51;exact hside1 _ QAa b10 d10;exact QT;rintro v5 Es5 h8 hle8 ⟨A8,c8,rfl,hs8,rfl⟩;refine ⟨hle5.trans hle8,QN,?_⟩)|(apply Fo (f:=51) (fs:=[]) (cs:=[.pointer (some ⟨b10,0,none⟩)]);exact J;exact J;exact has51;exact hside2 _ QAa b10 (d10.le QAa);exact QT;rintro v6 Es6 h9 hle9' ⟨A9,c9,rfl,hs9,rfl⟩;refine ⟨hle9',QN,?_⟩)))|(refine QH ?_ ?_<;>intro hc<;>try omega)|fail)
   all_goals first
    | (exfalso;omega)
    | (exact Cs rfl rfl rfl rfl ⟨A8,c8,A9,c9,rfl,hs8.le QAa,hs9⟩)
end Go.Hw
