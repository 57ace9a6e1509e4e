import Derived.Test.YtlnenhhbalpbpabGreatDoorVB
import Derived.Test.YtlnenhhbalpbpabGreatDoorFC
set_option linter.all false
set_option maxRecDepth 100000
set_option maxHeartbeats 8000000
namespace Go.Hw
open Go
attribute [local irreducible] GO GOl GDp Val Fn Res At Fx Blk By Dk Cl Has Yl Mn Ew
open Go.Proofs (Tryz.prog)
theorem lastR_of {rs:List (Fsh×Fct)}{C:List Fct}{n:Int}(e:fcs rs=C.filter fun f=>decide (Cr n f)):Vg rs=Ff C n:=by
 have h1:Vg rs=(fcs rs).foldl (fun m f=>max m f.ru.inst) 0:=by unfold Vg fcs;rw [List.foldl_map]
 rw [h1,e,List.foldl_filter]
 unfold Ff
 congr 1
 funext m f
 by_cases h:Cr n f <;> simp [h]
theorem standR_of {rs:List (Fsh×Fct)}{C:List Fct}{n:Int}(e:fcs rs=C.filter fun f=>decide (Cr n f))(i:Int):(Qc rs i).map (·.2)=Gn C n i:=by
 have h1:(Qc rs i).map (·.2)=(fcs rs).find? fun f=>decide (f.ru.inst=i):=by unfold Qc fcs;rw [List.find?_map];rfl
 rw [h1,e,List.find?_filter]
 unfold Gn
 congr 1
 funext f
 simp
theorem Ii.has {h:Ro}{C:List Fct}{bs:List Cf}(a:Ii h C bs){x:Cf}(hx:x∈bs):∃ f∈C,Cr x.num f:=(Ml C x.num).1 (a.nums ▸ List.mem_map_of_mem hx)
theorem Ii.last {h:Ro}{C:List Fct}{bs:List Cf}(a:Ii h C bs){x:Cf}(hx:x∈bs):∃ j:Nat,Vg x.rs=(j:Int)∧Ff C x.num=(j:Int)∧1≤j∧j<4:=by
 have e:=lastR_of (a.rs x hx)
 obtain ⟨h0,f,hf⟩:=Zq a.ok (a.has hx)
 obtain ⟨h1,h2,h3⟩:=Mt hf
 have:=B4a (a.ok f h1) h2.1
 exact ⟨(Ff C x.num).toNat,by omega,by omega,by omega,by omega⟩
theorem Ii.held {h:Ro}{C:List Fct}{bs:List Cf}(a:Ii h C bs){x:Cf}(hx:x∈bs){j:Nat}(hj:Ff C x.num=(j:Int))(h1:1≤j)(h4:j<4):x.s.getD j false=decide (Mq C x.num):=by
 rw [Bool.eq_iff_iff,decide_eq_true_eq,a.sus x hx j h4]
 unfold Ss Mq
 rw [hj]
 exact ⟨fun h=>⟨by omega,h⟩,fun h=>h.2⟩
theorem Ii.stand {h:Ro}{C:List Fct}{bs:List Cf}(a:Ii h C bs){x:Cf}(hx:x∈bs)(i:Int):(Qc x.rs i).map (·.2)=Gn C x.num i:=standR_of (a.rs x hx) i
theorem Lna {rs:List (Fsh×Fct)}{i:Int}{p:Fsh×Fct}(h:Qc rs i=some p):p∈rs:=List.mem_of_find?_eq_some h
def Se (C:List Fct) (ns:List Int):List Fct:=ns.filterMap fun n=>if Mq C n then none else Gn C n (Ff C n)
open Classical in
theorem Mfa (C:List Fct):Se C (Gq C)=Ew C:=by
 unfold Se Ew
 congr 1
 funext n
 by_cases h:Mq C n
 · rw [if_pos h,if_pos h]
 · rw [if_neg h,if_neg h]
theorem Hka (C:List Fct)(ns:List Int)(n:Int):Se C (ns++[n])=Se C ns++(if Mq C n then none else Gn C n (Ff C n)).toList:=by
 unfold Se
 rw [List.filterMap_append,List.filterMap_cons,List.filterMap_nil]
 cases h:(if Mq C n then none else Gn C n (Ff C n)) <;> rfl
theorem Mea (C:List Fct)(ns:List Int):(Se C ns).length≤ns.length:=List.length_filterMap_le _ _
theorem Eta (h:Ro)(hG:Kg h)(A:Option Addr)(n c:Nat)(l:List (Fsh×Fct))(hx:Co h A n l):Fn Tryz.prog 54 #[.slice A n c] [] h (fun u Es h'=>∃ A' c' l',u=.slice A' l'.length c'∧Es=[By 57 82 (.slice A' l'.length c') l'.length (l'.flatMap Bx)]∧(∀ p∈l',FGd h' p)∧fcs l'=Ew (Da (fcs l))∧l'.length≤1000000):=by
 refine Bo (args:=[_]) ts_ok Go.Proofs.Tryz.func54 rfl rfl fun w0 X0 => ?_
 obtain ⟨C,hC⟩:∃ C,C=Da (fcs l):=⟨_,rfl⟩
 have hfi:=fun h' (hl:Le h h')=>files_c h' (hG.le hl) A n c l (hx.le hl)
 rw [← hC] at hfi ⊢
 repeat' (first|apply Ac|apply Ak|apply Aa|apply Ab|(apply Ad;(iterate 3 exact J))|(apply Af;(iterate 3 exact J);(first|(apply Ay;exact J;exact has92;exact hfi _ QL;rintro w1 h1 hle1 ⟨A3,c3,bs,rfl,hsl,hfs⟩;skip))))
 have hsm:=hfs.small
 refine Eh 57 82 ?_
 refine Bt (X:=Nat×List (Fsh×Fct)×Option Addr×Nat×Ro) (fun x=>x.1≤bs.length∧Le h1 x.2.2.2.2∧(∀ p∈x.2.1,FGd h1 p)∧fcs x.2.1=Se C ((bs.take x.1).map (·.num))) (fun x=>bs.length-x.1)
  (fun x=>[(12,.int .i64 x.1),(11,.int .i64 bs.length),(10,.slice A3 bs.length c3),(2,.slice x.2.2.1 x.2.1.length x.2.2.2.1)])
  (fun x=>[By 57 82 (.slice x.2.2.1 x.2.1.length x.2.2.2.1) x.2.1.length (x.2.1.flatMap Bx)]) (fun x=>x.2.2.2.2) (0,[],none,0,h1) ⟨by dsimp only;omega,Le.refl _,by simp,rfl⟩ QS QT rfl ?_
 rintro ⟨k,out,A4,c4,hh⟩ ⟨hk,hle,hgd,ho⟩ ih
 dsimp only at hk hle hgd ho ih ⊢
 have hol:out.length≤k:=by
  have q:=congrArg List.length ho
  have q2:=Mea C ((bs.take k).map (·.num))
  rw [List.length_map] at q
  rw [List.length_map,List.length_take] at q2
  omega
 by_cases hkn:k<bs.length
 · have a1:=hsl.addrD hkn
   have c1:=(hsl.cellsD default hkn).le hle
   have et:=Fq default (xs:=bs) rfl hkn
   have hmem:bs.getD k default∈bs:=B0a default hkn
   generalize bs.getD k default=x at *
   obtain ⟨j,hj1,hj2,hj3,hj4⟩:=hfs.last hmem
   have hxa:=(hfs.at_ x hmem).le hle
   have hhe:=heldF_c hh x hxa hj1 hj4
   rw [hfs.held hmem hj2 hj3 hj4] at hhe
   have hla:=lastF_c hh x hxa
   rw [hj1] at hla
   have hst:=Gja hh x hxa (j:Int)
   have hsr:=hfs.stand hmem (j:Int)
   have e0:Se C ((bs.take (k+1)).map (·.num))=fcs out++(if Mq C x.num then none else Gn C x.num (j:Int)).toList:=by rw [et,List.map_append,ho];show Se C (_++[x.num])=_;rw [Hka,hj2]
   by_cases hH:Mq C x.num
   · rw [decide_eq_true hH] at hhe
     rw [if_pos hH] at e0
     repeat' (first|apply Ac|apply Au|apply Ak|apply Aa|apply Ab|(apply Bn;exact J)|(apply Bg;(iterate 3 exact J);omega;exact J;exact J)|(apply Ad;(iterate 3 exact J))|(apply Bd;exact J;exact J;(first|(apply Be (j:=k);(iterate 5 exact J);exact a1;(with_reducible exact J);omega)|(apply Ar;exact J;exact Bh rfl c1 rfl));exact QA)|(apply Af;(iterate 3 exact J);(first|(apply Cd (f:=93) (fs:=[Lp x]) (cs:=[]);exact J;exact J;exact has93;exact hhe;skip)))|(apply Aj;exact J;all_goals (intro hc;try simp only [hcS,reduceCtorEq] at hc;try (exfalso;omega))))
     all_goals first
      | (exfalso;omega)
      | (have h3:=ih (k+1,out,A4,c4,hh) ⟨by dsimp only;omega,hle,hgd,by dsimp only;rw [e0];simp⟩ (by dsimp only;omega)
         dsimp only at h3
         refine Bw QS QT (h3))
   · rw [decide_eq_false hH] at hhe
     rw [if_neg hH] at e0
     obtain ⟨_,f9,hf9⟩:=Zq hfs.ok (hfs.has hmem)
     rw [hj2] at hf9
     rw [hf9] at e0 hsr
     obtain ⟨p,hp,hpf⟩:=Option.map_eq_some_iff.1 hsr
     rw [hp] at hst
     have hpg:FGd h1 p:=((hfs.at_ x hmem)).good p (Lna hp)
     have hst2:Val Tryz.prog 94 #[Lp x,.int .i64 j] hh (.tuple #[Fc p.1 p.2,.bool true]):=hst
     repeat' (first|apply Ac|apply Au|apply Ap|apply Ak|apply Aa|apply Ab|(apply Bg;(iterate 3 exact J);omega;exact J;exact J)|(apply Ad;(iterate 3 exact J))|(apply Ai;exact J;exact Av rfl QM rfl;exact J;exact J)|(apply Bd;exact J;exact J;(first|(apply Be (j:=k);(iterate 5 exact J);exact a1;(with_reducible exact J);omega)|(apply Ar;exact J;exact Bh rfl c1 rfl));exact QA)|(apply Af;(iterate 3 exact J);(first|(apply Ah;(iterate 3 exact J);exact QR;(iterate 3 exact J);skip)|(apply Ag;exact J;intro b;skip)|(apply Cd (f:=93) (fs:=[Lp x]) (cs:=[]);exact J;exact J;exact has93;exact hhe;skip)|(apply Aq;exact J;exact has95;exact hla;skip)|(apply Cd (f:=94) (fs:=[Lp x]) (cs:=[]);exact J;exact J;exact has94;exact hst2;skip)|(apply Bc (enc:=Bx) (n:=1) [p];(iterate 3 exact J);exact List.cons_ne_nil _ _;(iterate 4 exact J);exact Bv;exact J;exact J;intro b5 h5 hle5 hs5;skip)|(apply Bk (enc:=Bx) (xs:=out);(iterate 7 exact J);exact hs5;exact Bv;exact Ft;intro v1;exact QR;omega;exact J;intro A5 c5;skip)))|(apply Aj;exact J;all_goals (intro hc;try simp only [hcS,reduceCtorEq] at hc;try (exfalso;omega))))
     all_goals first
      | (exfalso;omega)
      | (have h3:=ih (k+1,out++[p],A5,c5,h5) ⟨by dsimp only;omega,hle.trans hle5,fun q hq=>by
          rcases List.mem_append.1 hq with w|w
          · exact hgd q w
          · rw [List.mem_singleton] at w;subst w;exact hpg,by dsimp only;rw [e0];show fcs (out++[p])=_;simp [fcs,hpf]⟩ (by dsimp only;omega)
         dsimp only at h3
         rw [List.length_append] at h3
         refine Bw QS QT (h3))
 · rw [List.take_of_length_le (by omega),hfs.nums,Mfa] at ho
   clear ih
   repeat' (first|apply Ac|apply Aa|apply Ab|(apply Bn;exact J)|(apply Ad;(iterate 3 exact J))|(apply Aj;exact J;all_goals (intro hc;try simp only [hcS,reduceCtorEq] at hc;try (exfalso;omega))))
   all_goals first
    | (exfalso;omega)
    | (exact Ca rfl rfl rfl (.cons_cons _ (List.nil_sublist _)) ⟨A4,c4,out,rfl,rfl,fun p hp=>(hgd p hp).le hle,ho,by omega⟩)
theorem InForce_c (h:Ro)(hG:Kg h)(A:Option Addr)(n c:Nat)(l:List (Fsh×Fct))(hx:Co h A n l):Res Tryz.prog 165 #[.slice A n c] h (fun u h'=>∃ A' c' rl,u=.slice A' rl.length c'∧Cc Lw 17 h' A' rl.length rl∧rl=(Ew (Da (fcs l))).map (·.ru)∧rl.length≤1000000):=by
 refine Bq (args:=[_]) ts_ok Go.Proofs.Tryz.func165 rfl rfl fun w0 X0 => ?_
 obtain ⟨L,hL⟩:∃ L,L=Ew (Da (fcs l)):=⟨_,rfl⟩
 have hfi:=fun h' (hl:Le h h')=>Eta h' (hG.le hl) A n c l (hx.le hl)
 rw [← hL] at hfi ⊢
 repeat' (first|apply Ac|apply Ak|apply Aa|apply Ab|(apply Ad;(iterate 3 exact J))|(apply Af;(iterate 3 exact J);(first|(apply Bi;exact J;exact has54;exact hfi _ QL;exact QT;rintro w1 Ec h1 hle1 ⟨A3,c3,l3,rfl,rfl,hg3,hf3,hn3⟩;skip))))
 have hle1:Le h h1:=QL
 refine Ge (enc:=Bx) (e:=57) (sz:=82) (n:=l3.length) (xs:=l3) Bv rfl QK ?_
 intro A8 c8 h9 hle9 e9 hnc9 hs9
 cases e9
 refine Eh 47 17 ?_
 refine Bt (X:=Nat×List Iz×Option Addr×Nat×Ro) (fun x=>x.1≤l3.length∧Le h9 x.2.2.2.2∧x.2.1=(fcs (l3.take x.1)).map (·.ru)) (fun x=>l3.length-x.1)
  (fun x=>[(8,.int .i64 x.1),(7,.int .i64 l3.length),(6,.slice A3 l3.length c3),(2,.slice x.2.2.1 x.2.1.length x.2.2.2.1)])
  (fun x=>[By 47 17 (.slice x.2.2.1 x.2.1.length x.2.2.2.1) x.2.1.length (x.2.1.flatMap Lw)]) (fun x=>x.2.2.2.2) (0,[],none,0,h9) ⟨by dsimp only;omega,Le.refl _,rfl⟩ QS QT rfl ?_
 rintro ⟨k,out,A4,c4,hh⟩ ⟨hk,hle,ho⟩ ih
 dsimp only at hk hle ho ih ⊢
 have hol:out.length≤k:=by
  rw [ho,List.length_map,List.length_map,List.length_take];omega
 by_cases hkn:k<l3.length
 · have a1:=hs9.addrD hkn
   have c1:=(hs9.cellsD p0 hkn).le hle
   have et:=Fq p0 (xs:=l3) rfl hkn
   generalize l3.getD k p0=p at *
   repeat' (first|apply Ac|apply Au|apply Ap|apply Ak|apply Aa|apply Ab|(apply Bg;(iterate 3 exact J);omega;exact J;exact J)|(apply Ad;(iterate 3 exact J))|(apply Ai;exact J;exact Av rfl QM rfl;exact J;exact J)|(apply Bd;exact J;exact J;(first|(apply Be (j:=k);(iterate 5 exact J);exact a1;(with_reducible exact J);omega)|(apply Ar;exact J;exact Bh rfl c1 rfl));exact QA)|(apply Af;(iterate 3 exact J);(first|(apply Ah;(iterate 3 exact J);exact QR;(iterate 3 exact J);skip)|(apply Ag;exact J;intro b;skip)|(apply Bc (enc:=Lw) (n:=1) [p.2.ru];(iterate 3 exact J);exact List.cons_ne_nil _ _;(iterate 4 exact J);exact fun _=>rfl;exact J;exact J;intro b5 h5 hle5 hs5;skip)|(apply Bk (enc:=Lw) (xs:=out);(iterate 7 exact J);exact hs5;exact fun _=>rfl;exact fun x=>Ci rfl;intro v1;exact QR;omega;exact J;intro A5 c5;skip)))|(apply Aj;exact J;all_goals (intro hc;try simp only [hcS,reduceCtorEq] at hc;try (exfalso;omega))))
   all_goals first
    | (exfalso;omega)
    | (have h3:=ih (k+1,out++[p.2.ru],A5,c5,h5) ⟨by dsimp only;omega,hle.trans hle5,by dsimp only;rw [ho,et];simp [fcs]⟩ (by dsimp only;omega)
       dsimp only at h3
       rw [List.length_append] at h3
       refine Bw QS QT (h3))
 · rw [List.take_of_length_le (by omega),hf3] at ho
   clear ih
   refine Ge (enc:=Lw) (e:=47) (sz:=17) (n:=out.length) (xs:=out) (fun _=>rfl) rfl QK ?_
   intro A7 c7 h7 hle7 e7 hnc7 hs7
   cases e7
   repeat' (first|apply Ac|apply Aa|apply Ab|(apply Bn;exact J)|(apply Ad;(iterate 3 exact J))|(apply Aj;exact J;all_goals (intro hc;try simp only [hcS,reduceCtorEq] at hc;try (exfalso;omega))))
   all_goals first
    | (exfalso;omega)
    | (exact Cb rfl rfl rfl ⟨A4,c4,out,rfl,hs7,ho,by omega⟩)
end Go.Hw
