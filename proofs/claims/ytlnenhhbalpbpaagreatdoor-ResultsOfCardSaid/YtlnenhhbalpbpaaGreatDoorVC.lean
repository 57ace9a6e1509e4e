import Derived.Test.YtlnenhhbalpbpaaGreatDoorVB
import Derived.Test.YtlnenhhbalpbpaaGreatDoorFC
set_option linter.all false
set_option maxRecDepth 100000
set_option maxHeartbeats 8000000
namespace Go.Hw
open Go
attribute [local irreducible] GO GOl GDp Val Fn Res Ab Du Blk Bd Cd Bf Has Yl Ik Bn
open Go.Proofs.Tryz (prog)
theorem lastR_of {rs:List (Fsh×Fct)}{C:List Fct}{n:Int}(e:fcs rs=C.filter fun f=>decide (Bp n f)):Uf rs=Di C n:=by
 have h1:Uf rs=(fcs rs).foldl (fun m f=>max m f.ru.inst) 0:=by unfold Uf fcs;rw [List.foldl_map]
 rw [h1,e,List.foldl_filter]
 unfold Di
 congr 1
 funext m f
 by_cases h:Bp n f <;> simp [h]
theorem standR_of {rs:List (Fsh×Fct)}{C:List Fct}{n:Int}(e:fcs rs=C.filter fun f=>decide (Bp n f))(i:Int):(Oq rs i).map (·.2)=Fc C n i:=by
 have h1:(Oq rs i).map (·.2)=(fcs rs).find? fun f=>decide (f.ru.inst=i):=by unfold Oq fcs;rw [List.find?_map];rfl
 rw [h1,e,List.find?_filter]
 unfold Fc
 congr 1
 funext f
 simp
theorem Hd.has {h:Ro}{C:List Fct}{bs:List Bt}(a:Hd h C bs){x:Bt}(hx:x∈bs):∃ f∈C,Bp x.num f:=(Ja C x.num).1 (a.nums ▸ List.mem_map_of_mem hx)
theorem Hd.last {h:Ro}{C:List Fct}{bs:List Bt}(a:Hd h C bs){x:Bt}(hx:x∈bs):∃ j:Nat,Uf x.rs=(j:Int)∧Di C x.num=(j:Int)∧1≤j∧j<4:=by
 have e:=lastR_of (a.rs x hx)
 obtain ⟨h0,f,hf⟩:=No a.ok (a.has hx)
 obtain ⟨h1,h2,h3⟩:=Fx hf
 have:=Bqa (a.ok f h1) h2.1
 exact ⟨(Di C x.num).toNat,by omega,by omega,by omega,by omega⟩
theorem Hd.held {h:Ro}{C:List Fct}{bs:List Bt}(a:Hd h C bs){x:Bt}(hx:x∈bs){j:Nat}(hj:Di C x.num=(j:Int))(h1:1≤j)(h4:j<4):x.s.getD j false=decide (Io C x.num):=by
 rw [Bool.eq_iff_iff,decide_eq_true_eq,a.sus x hx j h4]
 unfold Ri Io
 rw [hj]
 exact ⟨fun h=>⟨by omega,h⟩,fun h=>h.2⟩
theorem Hd.stand {h:Ro}{C:List Fct}{bs:List Bt}(a:Hd h C bs){x:Bt}(hx:x∈bs)(i:Int):(Oq x.rs i).map (·.2)=Fc C x.num i:=standR_of (a.rs x hx) i
theorem Kna {rs:List (Fsh×Fct)}{i:Int}{p:Fsh×Fct}(h:Oq rs i=some p):p∈rs:=List.mem_of_find?_eq_some h
def Mb (C:List Fct) (ns:List Int):List Fct:=ns.filterMap fun n=>if Io C n then none else Fc C n (Di C n)
open Classical in
theorem Zk (C:List Fct):Mb C (Cp C)=Bn C:=by
 unfold Mb Bn
 congr 1
 funext n
 by_cases h:Io C n
 · rw [if_pos h,if_pos h]
 · rw [if_neg h,if_neg h]
theorem Wq (C:List Fct)(ns:List Int)(n:Int):Mb C (ns++[n])=Mb C ns++(if Io C n then none else Fc C n (Di C n)).toList:=by
 unfold Mb
 rw [List.filterMap_append,List.filterMap_cons,List.filterMap_nil]
 cases h:(if Io C n then none else Fc C n (Di C n)) <;> rfl
theorem Zj (C:List Fct)(ns:List Int):(Mb C ns).length≤ns.length:=List.length_filterMap_le _ _
theorem Eaa (h:Ro)(hG:Iv h)(A:Option Addr)(n c:Nat)(l:List (Fsh×Fct))(hx:Au h A n l):Fn prog 38 #[.slice A n c] [] h (fun u Es h'=>∃ A' c' l',u=.slice A' l'.length c'∧Es=[Bd 57 82 (.slice A' l'.length c') l'.length (l'.flatMap Aq)]∧(∀ p∈l',FGd h' p)∧fcs l'=Bn (Ba (fcs l))∧l'.length≤1000000):=by
 refine QXF Proofs.Tryz.func38 fun w0 X0=>?_
 obtain ⟨C,hC⟩:∃ C,C=Ba (fcs l):=⟨_,rfl⟩
 have hfi:=fun h' (hl:Le h h')=>files_c h' (hG.le hl) A n c l (hx.le hl)
 rw [← hC] at hfi ⊢
 repeat' (first|refine QF ?_|(refine QG ?_;first|(apply Ag;exact J;exact has77;exact hfi _ QAa;rintro w1 h1 hle1 ⟨A3,c3,bs,rfl,hsl,hfs⟩))|fail)
 have hsm:=hfs.small
 refine Fg 57 82 ?_
 refine Ai (X:=Nat×List (Fsh×Fct)×Option Addr×Nat×Ro) (fun x=>x.1≤bs.length∧Le h1 x.2.2.2.2∧(∀ p∈x.2.1,FGd h1 p)∧fcs x.2.1=Mb C ((bs.take x.1).map (·.num))) (fun x=>bs.length-x.1)
  (fun x=>[(12,.int .i64 x.1),(11,.int .i64 bs.length),(10,.slice A3 bs.length c3),(2,.slice x.2.2.1 x.2.1.length x.2.2.2.1)])
  (fun x=>[Bd 57 82 (.slice x.2.2.1 x.2.1.length x.2.2.2.1) x.2.1.length (x.2.1.flatMap Aq)]) (fun x=>x.2.2.2.2) (0,[],none,0,h1) ⟨by dsimp only;omega,Le.refl _,by simp,rfl⟩ QS QT rfl ?_
 rintro ⟨k,out,A4,c4,hh⟩ ⟨hk,hle,hgd,ho⟩ ih
 dsimp only at hk hle hgd ho ih ⊢
 have hol:out.length≤k:=by
  have q:=congrArg List.length ho
  have q2:=Zj C ((bs.take k).map (·.num))
  rw [List.length_map] at q
  rw [List.length_map,List.length_take] at q2
  omega
 by_cases hkn:k<bs.length
 · have a1:=hsl.addrD hkn
   have c1:=(hsl.cellsD default hkn).le hle
   have et:=Cb default (xs:=bs) rfl hkn
   have hmem:bs.getD k default∈bs:=Qv default hkn
   generalize bs.getD k default=x at *
   obtain ⟨j,hj1,hj2,hj3,hj4⟩:=hfs.last hmem
   have hxa:=(hfs.at_ x hmem).le hle
   have hhe:=heldF_c hh x hxa hj1 hj4
   rw [hfs.held hmem hj2 hj3 hj4] at hhe
   have hla:=lastF_c hh x hxa
   rw [hj1] at hla
   have hst:=F1a hh x hxa (j:Int)
   have hsr:=hfs.stand hmem (j:Int)
   have e0:Mb C ((bs.take (k+1)).map (·.num))=fcs out++(if Io C x.num then none else Fc C x.num (j:Int)).toList:=by rw [et,List.map_append,ho];show Mb C (_++[x.num])=_;rw [Wq,hj2]
   by_cases hH:Io C x.num
   · rw [decide_eq_true hH] at hhe
     rw [if_pos hH] at e0
     repeat' (first|refine QF ?_|(apply Af;exact J;exact J;(first|exact QAc|exact QAf);exact QA)|(refine QG ?_;first|(apply Cr (f:=78) (fs:=[Kh x]) (cs:=[]);exact J;exact J;exact has78;exact hhe))|(refine QH ?_ ?_<;>intro hc<;>try omega)|fail)
     all_goals first
      | (exfalso;omega)
      | (have h3:=ih (k+1,out,A4,c4,hh) ⟨by dsimp only;omega,hle,hgd,by dsimp only;rw [e0];simp⟩ QAh
         dsimp only at h3
         refine Aj QS QT (h3))
   · rw [decide_eq_false hH] at hhe
     rw [if_neg hH] at e0
     obtain ⟨_,f9,hf9⟩:=No hfs.ok (hfs.has hmem)
     rw [hj2] at hf9
     rw [hf9] at e0 hsr
     obtain ⟨p,hp,hpf⟩:=Option.map_eq_some_iff.1 hsr
     rw [hp] at hst
     have hpg:FGd h1 p:=((hfs.at_ x hmem)).good p (Kna hp)
     have hst2:Val prog 79 #[Kh x,.int .i64 j] hh (.tuple #[Br p.1 p.2,.bool true]):=hst
     repeat' (first|refine QFs ?_|(apply Af;exact J;exact J;(first|exact QAc|exact QAf);exact QA)|(refine QB ?_;intro b)|(refine QG ?_;first|(apply Cr (f:=78) (fs:=[Kh x]) (cs:=[]);exact J;exact J;exact has78;exact hhe)|(apply Aa;exact J;exact has80;exact hla)|(apply Cr (f:=79) (fs:=[Kh x]) (cs:=[]);exact J;exact J;exact has79;exact hst2)|(refine QBu ?_;intro b5 h5 hle5 hs5)|(refine QEt ?_;intro A5 c5))|(refine QH ?_ ?_<;>intro hc<;>try omega)|fail)
     all_goals first
      | (exfalso;omega)
      | (have h3:=ih (k+1,out++[p],A5,c5,h5) ⟨by dsimp only;omega,hle.trans hle5,fun q hq=>by
          rcases List.mem_append.1 hq with w|w
          · exact hgd q w
          · rw [List.mem_singleton] at w;subst w;exact hpg,by dsimp only;rw [e0];show fcs (out++[p])=_;simp [fcs,hpf]⟩ QAh
         dsimp only at h3
         rw [List.length_append] at h3
         refine Aj QS QT (h3))
 · rw [List.take_of_length_le QAd,hfs.nums,Zk] at ho
   clear ih
   repeat' (first|refine QF ?_|(refine QH ?_ ?_<;>intro hc<;>try omega)|fail)
   all_goals first
    | (exfalso;omega)
    | (exact Bi rfl rfl rfl (.cons_cons _ (List.nil_sublist _)) ⟨A4,c4,out,rfl,rfl,fun p hp=>(hgd p hp).le hle,ho,by omega⟩)
theorem InForce_c (h:Ro)(hG:Iv h)(A:Option Addr)(n c:Nat)(l:List (Fsh×Fct))(hx:Au h A n l):Res prog 93 #[.slice A n c] h (fun u h'=>∃ A' c' rl,u=.slice A' rl.length c'∧Ar Iy 17 h' A' rl.length rl∧rl=(Bn (Ba (fcs l))).map (·.ru)∧rl.length≤1000000):=by
 refine QXR Proofs.Tryz.func93 fun w0 X0=>?_
 obtain ⟨L,hL⟩:∃ L,L=Bn (Ba (fcs l)):=⟨_,rfl⟩
 have hfi:=fun h' (hl:Le h h')=>Eaa h' (hG.le hl) A n c l (hx.le hl)
 rw [← hL] at hfi ⊢
 repeat' (first|refine QF ?_|(refine QG ?_;first|(apply Be;exact J;exact has38;exact hfi _ QAa;exact QT;rintro w1 Ec h1 hle1 ⟨A3,c3,l3,rfl,rfl,hg3,hf3,hn3⟩))|fail)
 have hle1:Le h h1:=QAa
 refine El (enc:=Aq) (e:=57) (sz:=82) (n:=l3.length) (xs:=l3) Bc rfl QK ?_
 intro A8 c8 h9 hle9 e9 hnc9 hs9
 cases e9
 refine Fg 39 17 ?_
 refine Ai (X:=Nat×List Fk×Option Addr×Nat×Ro) (fun x=>x.1≤l3.length∧Le h9 x.2.2.2.2∧x.2.1=(fcs (l3.take x.1)).map (·.ru)) (fun x=>l3.length-x.1)
  (fun x=>[(8,.int .i64 x.1),(7,.int .i64 l3.length),(6,.slice A3 l3.length c3),(2,.slice x.2.2.1 x.2.1.length x.2.2.2.1)])
  (fun x=>[Bd 39 17 (.slice x.2.2.1 x.2.1.length x.2.2.2.1) x.2.1.length (x.2.1.flatMap Iy)]) (fun x=>x.2.2.2.2) (0,[],none,0,h9) ⟨by dsimp only;omega,Le.refl _,rfl⟩ QS QT rfl ?_
 rintro ⟨k,out,A4,c4,hh⟩ ⟨hk,hle,ho⟩ ih
 dsimp only at hk hle ho ih ⊢
 have hol:out.length≤k:=by
  rw [ho,List.length_map,List.length_map,List.length_take];omega
 by_cases hkn:k<l3.length
 · have a1:=hs9.addrD hkn
   have c1:=(hs9.cellsD p0 hkn).le hle
   have et:=Cb p0 (xs:=l3) rfl hkn
   generalize l3.getD k p0=p at *
   repeat' (first|refine QFs ?_|(apply Af;exact J;exact J;(first|exact QAc|exact QAf);exact QA)|(refine QB ?_;intro b)|(refine QG ?_;first|(refine QD7 ?_;intro b5 h5 hle5 hs5)|(refine QEd ?_;intro A5 c5))|(refine QH ?_ ?_<;>intro hc<;>try omega)|fail)
   all_goals first
    | (exfalso;omega)
    | (have h3:=ih (k+1,out++[p.2.ru],A5,c5,h5) ⟨by dsimp only;omega,hle.trans hle5,by dsimp only;rw [ho,et];simp [fcs]⟩ QAh
       dsimp only at h3
       rw [List.length_append] at h3
       refine Aj QS QT (h3))
 · rw [List.take_of_length_le QAd,hf3] at ho
   clear ih
   refine El (enc:=Iy) (e:=39) (sz:=17) (n:=out.length) (xs:=out) (fun _=>rfl) rfl QK ?_
   intro A7 c7 h7 hle7 e7 hnc7 hs7
   cases e7
   repeat' (first|refine QF ?_|(refine QH ?_ ?_<;>intro hc<;>try omega)|fail)
   all_goals first
    | (exfalso;omega)
    | (exact Ay rfl rfl rfl ⟨A4,c4,out,rfl,hs7,ho,by omega⟩)
end Go.Hw
