import Derived.Test.YtlnenhhbalpbpabGreatDoorSB
import Derived.Test.YtlnenhhbalpbpabGreatDoorVF
import Derived.Test.YtlnenhhbalpbpabGreatDoorVA
import Derived.Test.YtlnenhhbalpbpabGreatDoorGC
import Derived.Test.YtlnenhhbalpbpabGreatDoorFH
set_option linter.all false
set_option maxRecDepth 100000
set_option maxHeartbeats 8000000
namespace Go.Hw
open Go
attribute [local irreducible] GO GOl GDp Val Fn Res At Fx Blk By Dk Cl Has Yl Mn Ew Yx Vd Md Aaa Hk Kq ofF
open Go.Proofs (Tryz.prog)
open Classical in
theorem Nea (h:Ro)(hG:Kg h)(A:Option Addr)(n c:Nat)(l:List (Fsh×Fct))(hx:Co h A n l)(s co:Int):Res Tryz.prog 17 #[.slice A n c,.int .i64 s,.int .i64 co] h (fun u _=>∃ z ok,u=.tuple #[entV7 z.1 z.2,.bool ok]∧LastI l (J6a (fcs l) s co) z ok):=by
 refine Bq (args:=[_,_,_]) ts_ok Go.Proofs.Tryz.func17 rfl rfl fun w0 X0 => ?_
 have hlen:=hx.row.len
 have hn:=hx.small
 repeat' (first|apply Ac|apply Ak|apply Aa|apply Ab|(apply Af;(iterate 3 exact J);apply Ag (e:=36);exact J;intro b6)|(apply Af;(iterate 3 exact J);apply Ag (e:=57);exact J;intro bL)|(apply Ad;(iterate 3 exact J)))
 refine Bt (X:=Nat×(Fsh×Fct)×Bool×Ro) (fun x=>x.1≤n∧Le h x.2.2.2∧LastI l (J6a (fcs (l.take x.1)) s co) x.2.1 x.2.2.1) (fun x=>n-x.1)
  (fun x=>[(13,.int .i64 x.1),(12,.int .i64 n),(11,.slice A n c),(7,.bool x.2.2.1),(1,.int .i64 s),(2,.int .i64 co),(8,Pt bL),(6,Pt b6)])
  (fun x=>[Blk bL 57 (Dx x.2.1.1 x.2.1.2),Blk b6 36 (Cn ty36.zero)]) (fun x=>x.2.2.2) (0,(Nv,Jp),false,h) ⟨by dsimp only;omega,Le.refl _,.inl ⟨by rw [List.take_zero];unfold J6a entL;rfl,rfl,rfl⟩⟩ QS QT rfl ?_
 rintro ⟨k,z,ok,hh⟩ ⟨hk,hle,hI⟩ ih
 dsimp only at hk hle hI ih ⊢
 by_cases hkn:k<n
 · have a1:=hx.row.addrD hkn
   have c1:At hh ((addrD A).add (k * ty57.size)) (Bx (l.getD k p0)):=(hx.row.cellsD p0 hkn).le hle
   have et:=Fq p0 (xs:=l) rfl (show k<l.length by omega)
   have hmx:=mem7 p0 (show k<l.length by omega)
   have hfa:=(hx.fat _ hmx)
   have es:fcs (l.take (k+1))=fcs (l.take k)++[(l.getD k p0).2]:=by rw [et,B5a]
   have hsn:=entF_snoc (fcs (l.take k)) s co (l.getD k p0).2
   rw [← es] at hsn
   have hz:ok=true→FAt hh z.1 z.2∧FSm z.2∧Cg z.2:=fun e=>by
    rcases hI with ⟨_,_,w⟩|⟨_,w1,w2,_⟩
    · rw [w] at e;cases e
    · exact ⟨(hx.fat _ w1).1.le hle,(hx.fat _ w1).2,w2⟩
   generalize l.getD k p0=p at *
   obtain ⟨ps,pf⟩:=p
   obtain ⟨zs,zf⟩:=z
   dsimp only at hsn hfa hz
   have c1:At hh ((addrD A).add (k * ty57.size)) (Dx ps pf):=c1
   have hck:=fun h' (hl:Le hh h')=>Na h' ps pf (hfa.1.le (hle.trans hl)) hfa.2
   by_cases hv:Iwa s co pf
   · rw [if_pos hv] at hsn
     obtain ⟨e1,e2,e3,hok⟩:=hv
     simp only [if_pos hok] at hck
     rcases hI with ⟨i1,i2,rfl⟩|⟨i1,i2,i3,rfl⟩
     · rw [i1] at hsn
       have h3:=fun h' (hl:Le hh h')=>ih (k+1,(ps,pf),true,h') ⟨by dsimp only;omega,hle.trans hl,.inr ⟨hsn,hmx,hok,rfl⟩⟩ (by dsimp only;omega)
       dsimp only at h3
       cases i2
       clear ih hz
       repeat' (first|apply Ac|apply Au|apply Ap|apply Ak|apply Aa|apply Ab|(apply Aw;exact J;exact J)|(apply Bg;(iterate 3 exact J);omega;exact J;exact J)|(apply Ad;(iterate 3 exact J))|(apply Ai;exact J;exact Av rfl QM rfl;exact J;exact J)|(apply Bd;exact J;exact J;(first|(apply Be (j:=k);(iterate 5 exact J);exact a1;(with_reducible exact J);omega)|(apply Ar;exact J;exact Bh rfl c1 rfl));exact QA)|(apply Af;(iterate 3 exact J);(first|(apply Ah;(iterate 3 exact J);exact QR;(iterate 3 exact J);skip)|(apply Ag;exact J;intro b;skip)|(apply Aq;exact J;exact Pv;exact hck _ QL;skip)))|(apply Aj;exact J;all_goals (intro hc;try simp only [hcS,reduceCtorEq] at hc;try (exfalso;omega)))|(apply Ba;exact J;exact J;all_goals (intro hc;try simp only [hcS,reduceCtorEq] at hc;try (exfalso;omega))))
       all_goals first
        | (exfalso;omega)
        | (exfalso;simp at hc;done)
        | (have h4:=h3 _ QL
           refine Bw QS QT (h4))
     · obtain ⟨z1,z2,z3⟩:=hz rfl
       have hcm:=fun h' (hl:Le hh h')=>Hx h' (hG.le (hle.trans hl)) zs ps zf pf (z1.le hl) z2 (hfa.1.le (hle.trans hl)) hfa.2 z3 hok
       rw [i1] at hsn
       unfold Qn at hsn
       dsimp only at hsn
       by_cases hc9:Jv zf pf<0
       · rw [if_pos hc9] at hsn
         have h3:=fun h' (hl:Le hh h')=>ih (k+1,(ps,pf),true,h') ⟨by dsimp only;omega,hle.trans hl,.inr ⟨hsn,hmx,hok,rfl⟩⟩ (by dsimp only;omega)
         dsimp only at h3
         clear ih hz
         repeat' (first|apply Ac|apply Au|apply Ap|apply Ak|apply Aa|apply Ab|(apply Bg;(iterate 3 exact J);omega;exact J;exact J)|(apply Ad;(iterate 3 exact J))|(apply Ai;exact J;exact Av rfl QM rfl;exact J;exact J)|(apply Bd;exact J;exact J;(first|(apply Be (j:=k);(iterate 5 exact J);exact a1;(with_reducible exact J);omega)|(apply Ar;exact J;exact Bh rfl c1 rfl));exact QA)|(apply Af;(iterate 3 exact J);(first|(apply Ah;(iterate 3 exact J);exact QR;(iterate 3 exact J);skip)|(apply Ag;exact J;intro b;skip)|(apply Aq;exact J;exact Pv;exact hck _ QL;skip)|(apply Ay;exact J;exact Vh;exact hcm _ QL;rintro vr hr1 hle5 rfl;skip)))|(apply Aj;exact J;all_goals (intro hc;try simp only [hcS,reduceCtorEq] at hc;try (exfalso;omega)))|(apply Ba;exact J;exact J;all_goals (intro hc;try simp only [hcS,reduceCtorEq] at hc;try (exfalso;omega))))
         all_goals first
          | (exfalso;omega)
          | (exfalso;simp at hc;done)
          | (have h4:=h3 hr1 hle5
             refine Bw QS QT (h4))
       · rw [if_neg hc9] at hsn
         have h3:=fun h' (hl:Le hh h')=>ih (k+1,(zs,zf),true,h') ⟨by dsimp only;omega,hle.trans hl,.inr ⟨hsn,i2,i3,rfl⟩⟩ (by dsimp only;omega)
         dsimp only at h3
         clear ih hz
         repeat' (first|apply Ac|apply Au|apply Ap|apply Ak|apply Aa|apply Ab|(apply Bg;(iterate 3 exact J);omega;exact J;exact J)|(apply Ad;(iterate 3 exact J))|(apply Ai;exact J;exact Av rfl QM rfl;exact J;exact J)|(apply Bd;exact J;exact J;(first|(apply Be (j:=k);(iterate 5 exact J);exact a1;(with_reducible exact J);omega)|(apply Ar;exact J;exact Bh rfl c1 rfl));exact QA)|(apply Af;(iterate 3 exact J);(first|(apply Ah;(iterate 3 exact J);exact QR;(iterate 3 exact J);skip)|(apply Ag;exact J;intro b;skip)|(apply Aq;exact J;exact Pv;exact hck _ QL;skip)|(apply Ay;exact J;exact Vh;exact hcm _ QL;rintro vr hr1 hle5 rfl;skip)))|(apply Aj;exact J;all_goals (intro hc;try simp only [hcS,reduceCtorEq] at hc;try (exfalso;omega)))|(apply Ba;exact J;exact J;all_goals (intro hc;try simp only [hcS,reduceCtorEq] at hc;try (exfalso;omega))))
         all_goals first
          | (exfalso;omega)
          | (exfalso;simp at hc;done)
          | (have h4:=h3 hr1 hle5
             refine Bw QS QT (h4))
   · rw [if_neg hv] at hsn
     have h3:=fun h' (hl:Le hh h')=>ih (k+1,(zs,zf),ok,h') ⟨by dsimp only;omega,hle.trans hl,by dsimp only;rw [hsn];exact hI⟩ (by dsimp only;omega)
     dsimp only at h3
     clear ih hz hI
     by_cases hb:pf.kind=1∧pf.eS=s∧pf.eC=co
     · obtain ⟨e1,e2,e3⟩:=hb
       simp only [if_neg (show ¬ Cg pf from fun w=>hv ⟨e1,e2,e3,w⟩)] at hck
       repeat' (first|apply Ac|apply Au|apply Ak|apply Aa|apply Ab|(apply Bn;exact J)|(apply Bg;(iterate 3 exact J);omega;exact J;exact J)|(apply Ad;(iterate 3 exact J))|(apply Ai;exact J;exact Av rfl QM rfl;exact J;exact J)|(apply Bd;exact J;exact J;(first|(apply Be (j:=k);(iterate 5 exact J);exact a1;(with_reducible exact J);omega)|(apply Ar;exact J;exact Bh rfl c1 rfl));exact QA)|(apply Af;(iterate 3 exact J);(first|(apply Ah;(iterate 3 exact J);exact QR;(iterate 3 exact J);skip)|(apply Ag;exact J;intro b;skip)|(apply Aq;exact J;exact Pv;exact hck _ QL;skip)))|(apply Aj;exact J;all_goals (intro hc;try simp only [hcS,reduceCtorEq] at hc;try (exfalso;omega)))|(apply Ba;exact J;exact J;all_goals (intro hc;try simp only [hcS,reduceCtorEq] at hc;try (exfalso;omega))))
       all_goals first
        | (exfalso;omega)
        | (exfalso;simp at hc;done)
        | (have h4:=h3 _ QL
           refine Bw QS QT (h4))
     · repeat' (first|apply Ac|apply Au|apply Ak|apply Aa|apply Ab|(apply Bn;exact J)|(apply Aw;exact J;exact J)|(apply Bg;(iterate 3 exact J);omega;exact J;exact J)|(apply Ad;(iterate 3 exact J))|(apply Ai;exact J;exact Av rfl QM rfl;exact J;exact J)|(apply Bd;exact J;exact J;(first|(apply Be (j:=k);(iterate 5 exact J);exact a1;(with_reducible exact J);omega)|(apply Ar;exact J;exact Bh rfl c1 rfl));exact QA)|(apply Af;(iterate 3 exact J);(first|(apply Ah;(iterate 3 exact J);exact QR;(iterate 3 exact J);skip)|(apply Ag;exact J;intro b;skip)))|(apply Aj;exact J;all_goals (intro hc;try simp only [hcS,reduceCtorEq] at hc;try (exfalso;omega)))|(apply Ba;exact J;exact J;all_goals (intro hc;try simp only [hcS,reduceCtorEq] at hc;try (exfalso;omega))))
       all_goals first
        | (exfalso;exact hb ⟨by assumption,by assumption,by assumption⟩)
        | (exfalso;omega)
        | (have h4:=h3 _ QL
           refine Bw QS QT (h4))
 · rw [List.take_of_length_le (by omega)] at hI
   clear ih
   repeat' (first|apply Ac|apply Aa|apply Ab|(apply Bn;exact J)|(apply Ad;(iterate 3 exact J))|(apply Ai;exact J;exact Av rfl QM rfl;exact J;exact J)|(apply Af;(iterate 3 exact J);(first|(apply Ah;(iterate 3 exact J);exact QR;(iterate 3 exact J);skip)))|(apply Aj;exact J;all_goals (intro hc;try simp only [hcS,reduceCtorEq] at hc;try (exfalso;omega))))
   all_goals first
    | (exfalso;omega)
    | (exact Ck rfl rfl rfl QM rfl rfl rfl ⟨z,ok,rfl,hI⟩)
    | (exact Df rfl rfl rfl rfl ⟨z,ok,rfl,hI⟩)
end Go.Hw
