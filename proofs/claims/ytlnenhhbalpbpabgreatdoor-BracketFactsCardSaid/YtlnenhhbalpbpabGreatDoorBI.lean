import Derived.Test.YtlnenhhbalpbpabGreatDoorPB
import Derived.Test.YtlnenhhbalpbpabGreatDoorBB
import Derived.Test.YtlnenhhbalpbpabGreatDoorFE
import Derived.Test.YtlnenhhbalpbpabGreatDoorPA
import Derived.Test.YtlnenhhbalpbpabGreatDoorBD
set_option linter.all false
set_option maxRecDepth 100000
set_option maxHeartbeats 8000000
namespace Go.Hw
open Go
attribute [local irreducible] GO GOl GDp Val Fn Res At Fx Blk By Dk Cl Has Yl
open Go.Proofs (Tryz.prog)
open Classical in
theorem lotL_snoc (L:List Fct)(s c:Int)(f:Fct):lotL (L++[f]) s c=if Nda s c f then lotL L s c++[f] else lotL L s c:=by
 unfold lotL
 rw [List.filter_append]
 by_cases q:Nda s c f <;> simp [q]
open Classical in
theorem lotF_snoc (L:List Fct)(s c:Int)(f:Fct):lotF (L++[f]) s c=if Nda s c f then Qn (lotF L s c) f else lotF L s c:=by
 unfold lotF
 rw [lotL_snoc]
 split
 · rw [List.foldl_append];rfl
 · rfl
def LotI (l:List (Fsh×Fct)) (o:Option Fct) (z:Fsh×Fct):Prop:=(o=none∧z.2.kind=0∧z.2.lO=[]∧z.1.lo=Ja)∨(o=some z.2∧z∈l∧Cg z.2∧z.2.kind=7)
open Classical in
theorem order21_c (h:Ro)(hG:Kg h)(A:Option Addr)(n c:Nat)(l:List (Fsh×Fct))(hx:Co h A n l)(es:Fsh)(e:Fct)(he:Cc Ex 1 h es.cl.A es.cl.n e.eClubs)(hec:es.cl.n≤es.cl.c)(hinc:Cva e.eClubs)(hel:e.eClubs.length≤24) :
  Res Tryz.prog 18 #[.slice A n c,entV7 es e] h (fun u h'=>∃ A' n' c',u=.slice A' n' c'∧n'≤c'∧Cc Ex 1 h' A' n' (Jma (fcs l) e.eS e.eC e)):=by
 refine Bq (args:=[_,_]) ts_ok Go.Proofs.Tryz.func18 rfl rfl fun w0 X0 => ?_
 have hlen:=hx.row.len
 have hn:=hx.small
 have hecl:=he.len
 repeat' (first|apply Ac|apply Ak|apply Aa|apply Ab|(apply Af;(iterate 3 exact J);apply Ao (e:=36);exact J;intro b3)|(apply Af;(iterate 3 exact J);apply Ag (e:=57);exact J;intro b5)|(apply Ad;(iterate 3 exact J)))
 refine Bt (X:=Nat×(Fsh×Fct)×Ro) (fun x=>x.1≤n∧Le h x.2.2∧LotI l (lotF (fcs (l.take x.1)) e.eS e.eC) x.2.1) (fun x=>n-x.1)
  (fun x=>[(10,.int .i64 x.1),(9,.int .i64 n),(8,.slice A n c),(5,Pt b5),(3,Pt b3)])
  (fun x=>[Blk b5 57 (Dx x.2.1.1 x.2.1.2),Blk b3 36 (Cn (entV7 es e))]) (fun x=>x.2.2) (0,(Nv,Jp),h) ⟨by dsimp only;omega,Le.refl _,.inl ⟨by rw [List.take_zero];unfold lotF lotL;rfl,rfl,rfl,rfl⟩⟩ QS QT rfl ?_
 rintro ⟨k,z,hh⟩ ⟨hk,hle,hI⟩ ih
 dsimp only at hk hle hI ih ⊢
 by_cases hkn:k<n
 · have a1:=hx.row.addrD hkn
   have c1:At hh ((addrD A).add (k * ty57.size)) (Bx (l.getD k p0)):=(hx.row.cellsD p0 hkn).le hle
   have et:=Fq p0 (xs:=l) rfl (show k<l.length by omega)
   have hmx:=mem7 p0 (show k<l.length by omega)
   have hfa:=(hx.fat _ hmx)
   have es1:fcs (l.take (k+1))=fcs (l.take k)++[(l.getD k p0).2]:=by rw [et,B5a]
   have hsn:=lotF_snoc (fcs (l.take k)) e.eS e.eC (l.getD k p0).2
   rw [← es1] at hsn
   have hz:z.2.kind=7→FAt hh z.1 z.2∧FSm z.2∧Cg z.2:=fun k7=>by
    rcases hI with ⟨_,w,_⟩|⟨_,w1,w2,_⟩
    · rw [w] at k7;exact absurd k7 (by decide)
    · exact ⟨(hx.fat _ w1).1.le hle,(hx.fat _ w1).2,w2⟩
   generalize l.getD k p0=p at *
   obtain ⟨ps,pf⟩:=p
   obtain ⟨zs,zf⟩:=z
   dsimp only at hsn hfa hz
   have c1:At hh ((addrD A).add (k * ty57.size)) (Dx ps pf):=c1
   have hck:=fun h' (hl:Le hh h')=>Na h' ps pf (hfa.1.le (hle.trans hl)) hfa.2
   by_cases hv:Nda e.eS e.eC pf
   · rw [if_pos hv] at hsn
     obtain ⟨e1,e2,e3,hok⟩:=hv
     simp only [if_pos hok] at hck
     rcases hI with ⟨i1,i2,i3,i4⟩|⟨i1,i2,i3,i4⟩
     · rw [i1] at hsn
       dsimp only at i2
       have h3:=fun h' (hl:Le hh h')=>ih (k+1,(ps,pf),h') ⟨by dsimp only;omega,hle.trans hl,.inr ⟨hsn,hmx,hok,e1⟩⟩ (by dsimp only;omega)
       dsimp only at h3
       clear ih hz
       repeat' (first|apply Ac|apply Au|apply Ap|apply Ak|apply Aa|apply Ab|(apply Aw;exact J;exact J)|(apply Bg;(iterate 3 exact J);omega;exact J;exact J)|(apply Ad;(iterate 3 exact J))|(apply Ai;exact J;exact Av rfl QM rfl;exact J;exact J)|(apply Bd;exact J;exact J;(first|(apply Be (j:=k);(iterate 5 exact J);exact a1;(with_reducible exact J);omega)|(apply Ar;exact J;exact Bh rfl c1 rfl));exact QA)|(apply Af;(iterate 3 exact J);(first|(apply Ah;(iterate 3 exact J);exact QR;(iterate 3 exact J);skip)|(apply Ag;exact J;intro b;skip)|(apply Aq;exact J;exact Pv;exact hck _ QL;skip)))|(apply Aj;exact J;all_goals (intro hc;try simp only [hcS,reduceCtorEq] at hc;try (exfalso;omega)))|(apply Ba;exact J;exact J;all_goals (intro hc;try simp only [hcS,reduceCtorEq] at hc;try (exfalso;omega))))
       all_goals first
        | (exfalso;omega)
        | (exfalso;simp at hc;done)
        | (have h4:=h3 hh (Le.refl _)
           refine Bw QS QT (h4))
     · dsimp only at i4
       obtain ⟨z1,z2,z3⟩:=hz i4
       have hcm:=fun h' (hl:Le hh h')=>Hx h' (hG.le (hle.trans hl)) zs ps zf pf (z1.le hl) z2 (hfa.1.le (hle.trans hl)) hfa.2 z3 hok
       rw [i1] at hsn
       unfold Qn at hsn
       dsimp only at hsn
       by_cases hc9:Jv zf pf<0
       · rw [if_pos hc9] at hsn
         have h3:=fun h' (hl:Le hh h')=>ih (k+1,(ps,pf),h') ⟨by dsimp only;omega,hle.trans hl,.inr ⟨hsn,hmx,hok,e1⟩⟩ (by dsimp only;omega)
         dsimp only at h3
         clear ih hz
         repeat' (first|apply Ac|apply Au|apply Ap|apply Ak|apply Aa|apply Ab|(apply Bg;(iterate 3 exact J);omega;exact J;exact J)|(apply Ad;(iterate 3 exact J))|(apply Ai;exact J;exact Av rfl QM rfl;exact J;exact J)|(apply Bd;exact J;exact J;(first|(apply Be (j:=k);(iterate 5 exact J);exact a1;(with_reducible exact J);omega)|(apply Ar;exact J;exact Bh rfl c1 rfl));exact QA)|(apply Af;(iterate 3 exact J);(first|(apply Ah;(iterate 3 exact J);exact QR;(iterate 3 exact J);skip)|(apply Ag;exact J;intro b;skip)|(apply Aq;exact J;exact Pv;exact hck _ QL;skip)|(apply Ay;exact J;exact Vh;exact hcm _ QL;rintro vr hr1 hle5 rfl;skip)))|(apply Aj;exact J;all_goals (intro hc;try simp only [hcS,reduceCtorEq] at hc;try (exfalso;omega)))|(apply Ba;exact J;exact J;all_goals (intro hc;try simp only [hcS,reduceCtorEq] at hc;try (exfalso;omega))))
         all_goals first
          | (exfalso;omega)
          | (exfalso;simp at hc;done)
          | (have h4:=h3 hr1 hle5
             refine Bw QS QT (h4))
       · rw [if_neg hc9] at hsn
         have h3:=fun h' (hl:Le hh h')=>ih (k+1,(zs,zf),h') ⟨by dsimp only;omega,hle.trans hl,.inr ⟨hsn,i2,i3,i4⟩⟩ (by dsimp only;omega)
         dsimp only at h3
         clear ih hz
         repeat' (first|apply Ac|apply Au|apply Ap|apply Ak|apply Aa|apply Ab|(apply Bg;(iterate 3 exact J);omega;exact J;exact J)|(apply Ad;(iterate 3 exact J))|(apply Ai;exact J;exact Av rfl QM rfl;exact J;exact J)|(apply Bd;exact J;exact J;(first|(apply Be (j:=k);(iterate 5 exact J);exact a1;(with_reducible exact J);omega)|(apply Ar;exact J;exact Bh rfl c1 rfl));exact QA)|(apply Af;(iterate 3 exact J);(first|(apply Ah;(iterate 3 exact J);exact QR;(iterate 3 exact J);skip)|(apply Ag;exact J;intro b;skip)|(apply Aq;exact J;exact Pv;exact hck _ QL;skip)|(apply Ay;exact J;exact Vh;exact hcm _ QL;rintro vr hr1 hle5 rfl;skip)))|(apply Aj;exact J;all_goals (intro hc;try simp only [hcS,reduceCtorEq] at hc;try (exfalso;omega)))|(apply Ba;exact J;exact J;all_goals (intro hc;try simp only [hcS,reduceCtorEq] at hc;try (exfalso;omega))))
         all_goals first
          | (exfalso;omega)
          | (exfalso;simp at hc;done)
          | (have h4:=h3 hr1 hle5
             refine Bw QS QT (h4))
   · rw [if_neg hv] at hsn
     have h3:=fun h' (hl:Le hh h')=>ih (k+1,(zs,zf),h') ⟨by dsimp only;omega,hle.trans hl,by dsimp only;rw [hsn];exact hI⟩ (by dsimp only;omega)
     dsimp only at h3
     clear ih hz hI
     by_cases hb:pf.kind=7∧pf.lS=e.eS∧pf.lC=e.eC
     · obtain ⟨e1,e2,e3⟩:=hb
       simp only [if_neg (show ¬ Cg pf from fun w=>hv ⟨e1,e2,e3,w⟩)] at hck
       repeat' (first|apply Ac|apply Au|apply Ap|apply Ak|apply Aa|apply Ab|(apply Aw;exact J;exact J)|(apply Bg;(iterate 3 exact J);omega;exact J;exact J)|(apply Ad;(iterate 3 exact J))|(apply Ai;exact J;exact Av rfl QM rfl;exact J;exact J)|(apply Bd;exact J;exact J;(first|(apply Be (j:=k);(iterate 5 exact J);exact a1;(with_reducible exact J);omega)|(apply Ar;exact J;exact Bh rfl c1 rfl));exact QA)|(apply Af;(iterate 3 exact J);(first|(apply Ah;(iterate 3 exact J);exact QR;(iterate 3 exact J);skip)|(apply Ag;exact J;intro b;skip)|(apply Aq;exact J;exact Pv;exact hck _ QL;skip)))|(apply Aj;exact J;all_goals (intro hc;try simp only [hcS,reduceCtorEq] at hc;try (exfalso;omega)))|(apply Ba;exact J;exact J;all_goals (intro hc;try simp only [hcS,reduceCtorEq] at hc;try (exfalso;omega))))
       all_goals first
        | (exfalso;omega)
        | (exfalso;simp at hc;done)
        | (have h4:=h3 hh (Le.refl _)
           refine Bw QS QT (h4))
     · repeat' (first|apply Ac|apply Au|apply Ap|apply Ak|apply Aa|apply Ab|(apply Aw;exact J;exact J)|(apply Bg;(iterate 3 exact J);omega;exact J;exact J)|(apply Ad;(iterate 3 exact J))|(apply Ai;exact J;exact Av rfl QM rfl;exact J;exact J)|(apply Bd;exact J;exact J;(first|(apply Be (j:=k);(iterate 5 exact J);exact a1;(with_reducible exact J);omega)|(apply Ar;exact J;exact Bh rfl c1 rfl));exact QA)|(apply Af;(iterate 3 exact J);(first|(apply Ah;(iterate 3 exact J);exact QR;(iterate 3 exact J);skip)|(apply Ag;exact J;intro b;skip)))|(apply Aj;exact J;all_goals (intro hc;try simp only [hcS,reduceCtorEq] at hc;try (exfalso;omega)))|(apply Ba;exact J;exact J;all_goals (intro hc;try simp only [hcS,reduceCtorEq] at hc;try (exfalso;omega))))
       all_goals first
        | (exfalso;exact hb ⟨by assumption,by assumption,by assumption⟩)
        | (exfalso;omega)
        | (have h4:=h3 hh (Le.refl _)
           refine Bw QS QT (h4))
 · rw [List.take_of_length_le (by omega)] at hI
   clear ih
   obtain ⟨zs,zf⟩:=z
   have hq:Cc Ex 1 hh zs.lo.A zs.lo.n zf.lO∧zs.lo.n≤zs.lo.c∧zs.lo.n≤100∧Jma (fcs l) e.eS e.eC e=ordC zf.lO e.eClubs:=by
    unfold Jma
    rcases hI with ⟨i1,_,i3,i4⟩|⟨i1,i2,i3,_⟩
    · dsimp only at i3 i4
      rw [i1,i3,i4]
      exact ⟨Cc.nil,Nat.le_refl _,Nat.zero_le _,rfl⟩
    · dsimp only at i1 i3
      have f1:=(hx.fat _ i2).1.le hle
      rw [i1]
      have h5:=f1.lo.len
      have h6:=(Cg.sm1 i3).2.2.1
      dsimp only at h5
      exact ⟨f1.lo,f1.lc,by omega,rfl⟩
   obtain ⟨hq1,hq2,hq3,hq4⟩:=hq
   rw [hq4]
   clear hq4 hI hx
   have hor:=Gza (y:=Jg zf.lO) (by unfold Jg;exact List.mergeSort_perm _ _) (Un zf.lO) hinc
   have he2:=he.le hle
   have hql:=hq1.len
   have hsl:=Wm zf.lO
   have hvs:=fun h' (hl:Le hh h') b1 hb1=>valSeqI h' zs.lo.A zs.lo.n zs.lo.c zf.lO (hq1.le hl) (by omega) b1 hb1
   have hsor:=fun h' b1 hb1=>Dia h' b1 zf.lO (by omega) hb1
   rw [hql] at hsor hsl
   unfold ordC
   have heq:=fun h' (hl:Le hh h') B c' (hs:Cc Ex 1 h' B zs.lo.n (Jg zf.lO))=>Mz h' B zs.lo.n c' (Jg zf.lO) hs (by omega) es.cl.A es.cl.n es.cl.c e.eClubs (he2.le hl) (by omega)
   generalize Jg zf.lO=ys at *
   by_cases hpm:zf.lO.Perm e.eClubs
   · rw [if_pos hpm]
     simp only [decide_eq_true (hor.2 hpm)] at heq
     repeat' (first|apply Ac|apply Aa|apply Ab|(apply Bn;exact J)|(apply Ad;(iterate 3 exact J))|(apply Ai;exact J;exact Av rfl QM rfl;exact J;exact J)|(apply Bf (n:=8) [0,1,2,3,4,5,6,7] [(0,0),(1,0),(2,0),(5,0),(6,0),(3,1),(4,1),(7,1)];kernel_rfl)|(apply Ce;exact J;kernel_rfl;(iterate 3 exact J))|(apply Bj;exact J;kernel_rfl;(iterate 3 exact J);exact QM;exact J;exact J)|(apply Br;exact J;kernel_rfl;(iterate 3 exact J);(first|(apply Ay;exact J;exact has50;exact Wg _ zs.lo.A zs.lo.n zs.lo.c;rintro v1 h1 hle1 ⟨b1,rfl,hb1⟩;refine ⟨hle1,QN,?_⟩)|(apply Fxa (enc:=Ex) (e:=3) (sz:=1) (n:=zs.lo.n) (xs:=ys);exact fun _=>rfl;exact hsl;apply Bi;exact J;exact has49;exact hsor _ b1 (hvs _ QL b1 hb1);exact Jn;rintro v2 E2 h2 hle2 rfl;refine ⟨_,rfl,fun A2 c2 h3 hle3 hnc3 hs3 => ?_⟩;refine ⟨hle2.trans hle3,QN,?_⟩)|(apply Aq;exact J;exact has48;exact heq _ QL A2 c2 (hs3.le QL);refine ⟨Le.refl _,QN,?_⟩)))|(apply Bm;kernel_rfl;exact J)|(apply Aj;exact J;all_goals (intro hc;try simp only [hcS,reduceCtorEq] at hc;try (exfalso;omega))))
     all_goals first
      | (exfalso;simp at hc;done)
      | (exact Cb rfl rfl rfl ⟨_,_,_,rfl,hq2,hq1.le QL⟩)
   · rw [if_neg hpm]
     simp only [decide_eq_false (fun w=>hpm (hor.1 w))] at heq
     repeat' (first|apply Ac|apply Au|apply Aa|apply Ab|(apply Bn;exact J)|(apply Ad;(iterate 3 exact J))|(apply Ai;exact J;exact Av rfl QM rfl;exact J;exact J)|(apply Bf (n:=8) [0,1,2,3,4,5,6,7] [(0,0),(1,0),(2,0),(5,0),(6,0),(3,1),(4,1),(7,1)];kernel_rfl)|(apply Ce;exact J;kernel_rfl;(iterate 3 exact J))|(apply Bj;exact J;kernel_rfl;(iterate 3 exact J);exact QM;exact J;exact J)|(apply Br;exact J;kernel_rfl;(iterate 3 exact J);(first|(apply Ay;exact J;exact has50;exact Wg _ zs.lo.A zs.lo.n zs.lo.c;rintro v1 h1 hle1 ⟨b1,rfl,hb1⟩;refine ⟨hle1,QN,?_⟩)|(apply Fxa (enc:=Ex) (e:=3) (sz:=1) (n:=zs.lo.n) (xs:=ys);exact fun _=>rfl;exact hsl;apply Bi;exact J;exact has49;exact hsor _ b1 (hvs _ QL b1 hb1);exact Jn;rintro v2 E2 h2 hle2 rfl;refine ⟨_,rfl,fun A2 c2 h3 hle3 hnc3 hs3 => ?_⟩;refine ⟨hle2.trans hle3,QN,?_⟩)|(apply Aq;exact J;exact has48;exact heq _ QL A2 c2 (hs3.le QL);refine ⟨Le.refl _,QN,?_⟩)))|(apply Bm;kernel_rfl;exact J)|(apply Aj;exact J;all_goals (intro hc;try simp only [hcS,reduceCtorEq] at hc;try (exfalso;omega))))
     all_goals first
      | (exfalso;simp at hc;done)
      | (exact Cb rfl rfl rfl ⟨_,_,_,rfl,hec,he2.le QL⟩)
end Go.Hw
namespace Go.Hw
open Go
attribute [local irreducible] GO GOl GDp Val Fn Res At Fx Blk By Dk Cl Has Yl ofF
open Go.Proofs (Tryz.prog)
theorem newB_len {cs:List Int}{t:Dh}(h:(Ob cs t).2=0):cs.length≤128:=by
 unfold Ob at h
 by_cases h1:Ik t
 · by_cases k:Ls cs.length∧Fw cs
   · have:=k.1;unfold Ls at this;omega
   · rw [if_pos h1,if_neg k] at h;exact absurd (show (190:Int)=0 from h) (by decide)
 · rw [if_neg h1] at h;exact absurd (show (210:Int)=0 from h) (by decide)
theorem brIsV {h:Ro}{s:Sli}{l:List RdS}{t:Dh}{zr:List (List Bp)}(hb:C2a h s l ⟨t,zr⟩):zr=rounds l:=hb.is
structure VwI (h:Ro) (cs:List Int) (t:Dh) (all:List Dm) (b0:FBr) (i k:Nat) (s:Sli) (l:List RdS):Prop where
 at_:C2a h s l ⟨t,rounds l⟩
 vi:Vk cs t all k ⟨t,rounds l⟩
 no:∀ j,j<i→(Cw ⟨t,rounds l⟩ (all.getD j Ep)).2≠0
 run:Dqa 256 b0 all=Dqa 256 ⟨t,rounds l⟩ all
theorem VwI.skip {h h':Ro}{cs:List Int}{t:Dh}{all:List Dm}{b0:FBr}{i k:Nat}{s:Sli}{l:List RdS}(v:VwI h cs t all b0 i k s l)(hl:Le h h')(hn:(Cw ⟨t,rounds l⟩ (all.getD i Ep)).2≠0):VwI h' cs t all b0 (i+1) k s l :=
 ⟨v.at_.le hl,v.vi,fun j hj=>by
  rcases Nat.lt_succ_iff_lt_or_eq.1 hj with w|w
  · exact v.no j w
  · rw [w];exact hn,v.run⟩
theorem VwI.take {h h':Ro}{cs:List Int}{t:Dh}{all:List Dm}{b0:FBr}{i k:Nat}{s s':Sli}{l l':List RdS}{zr:List (List Bp)}(v:VwI h cs t all b0 i k s l)(hi:i<all.length)(hcs:cs.length≤128)(he:Cw ⟨t,rounds l⟩ (all.getD i Ep)=(⟨t,zr⟩,0))(hb:C2a h' s' l' ⟨t,zr⟩):VwI h' cs t all b0 0 (k+1) s' l':=by
 have e:=brIsV hb
 subst e
 have hf:=E1a hi v.no (by rw [he])
 rw [he] at hf
 obtain ⟨r1,r2⟩:=runB_step (n:=256) v.vi (by omega) hf
 exact ⟨hb,r2,fun j hj=>absurd hj (by omega),v.run.trans r1⟩
theorem VwI.fin {h:Ro}{cs:List Int}{t:Dh}{all:List Dm}{b0:FBr}{k:Nat}{s:Sli}{l:List RdS}(v:VwI h cs t all b0 all.length k s l):Dqa 256 b0 all=⟨t,rounds l⟩:=by
 rw [v.run]
 refine runB_none (Qt.2 fun x hx => ?_) 256
 obtain ⟨j,hj,e⟩:=List.mem_iff_getElem.1 hx
 have:=v.no j hj
 rw [List.getD_eq_getElem?_getD,List.getElem?_eq_getElem hj] at this
 rw [← e];exact this
theorem enterB_eq {t:Dh}{rs:List (List Bp)}{x:Dm}(h:(Cw ⟨t,rs⟩ x).2=0):∃ zr,Cw ⟨t,rs⟩ x=(⟨t,zr⟩,0):=by
 have h4:=(La h).2.t
 have h3:Cw ⟨t,rs⟩ x=((Cw ⟨t,rs⟩ x).1,0):=Prod.ext rfl h
 generalize (Cw ⟨t,rs⟩ x).1=Z at *
 obtain ⟨zt,zr⟩:=Z
 dsimp only at h4
 subst h4
 exact ⟨zr,h3⟩
theorem play_no2 {b:FBr}{x:Dm}(hE:(Cw b x).2≠0):∃ y e,Cw b x=(y,e)∧e≠0:=⟨_,_,rfl,hE⟩
open Classical in
theorem I5a (h:Ro)(hG:Kg h)(A:Option Addr)(n c:Nat)(l:List (Fsh×Fct))(hx:Co h A n l)(hn6:n≤65536)(hcc:∀ p∈l,p.1.cl.n≤p.1.cl.c)(s co:Int)(t:Dh) :
  Res Tryz.prog 6 #[.slice A n c,.int .i64 s,.int .i64 co,Gca t] h (fun u h'=>Yv h' u (Ma (fcs l) s co t).1 (Ma (fcs l) s co t).2):=by
 refine Bq (args:=[_,_,_,_]) ts_ok Go.Proofs.Tryz.func6 rfl rfl fun w0 X0 => ?_
 have hr:=fun h'=>Og h' t
 have h32:=Gx hx
 have hen:=fun h' (hl:Le h h')=>Nea h' (hG.le hl) A n c l (hx.le hl) s co
 unfold Ma
 by_cases ht:Ik t
 case' neg =>
  rw [if_neg ht]
  simp only [decide_eq_false ht] at hr
  dsimp only
  clear hen
  repeat' (first|apply Ac|apply Aa|apply Ab|(apply Af;(iterate 3 exact J);apply Ao (e:=24);exact J;intro b7)|(apply Af;(iterate 3 exact J);apply Ag (e:=30);exact J;intro b8)|(apply Ad;(iterate 3 exact J))|(apply Ai;exact J;exact Av rfl QM rfl;exact J;exact J)|(apply Af;(iterate 3 exact J);(first|(apply Ah;(iterate 3 exact J);exact QR;(iterate 3 exact J);skip)|(apply Aq;exact J;exact Pw;exact hr _;skip)))|(apply Aj;exact J;all_goals (intro hc;try simp only [hcS,reduceCtorEq] at hc;try (exfalso;omega))))
  all_goals first
   | (exfalso;simp at hc;done)
   | (exact Ck rfl rfl rfl QM rfl rfl rfl (Ev _ _))
 rw [if_pos ht]
 simp only [decide_eq_true ht] at hr
 by_cases hco:co<8
 · rw [if_pos hco]
   dsimp only
   repeat' (first|apply Ac|apply Au|apply Aa|apply Ab|(apply Af;(iterate 3 exact J);apply Ao (e:=24);exact J;intro b7)|(apply Af;(iterate 3 exact J);apply Ag (e:=30);exact J;intro b8)|(apply Aw;exact J;exact J)|(apply Ad;(iterate 3 exact J))|(apply Ai;exact J;exact Av rfl QM rfl;exact J;exact J)|(apply Af;(iterate 3 exact J);(first|(apply Ah;(iterate 3 exact J);exact QR;(iterate 3 exact J);skip)|(apply Ag;exact J;intro b;skip)|(apply Aq;exact J;exact Pw;exact hr _;skip)|(apply Ay;exact J;exact has17;exact hen _ QL;rintro v2 h2 hle2 ⟨z,ok,rfl,_⟩;skip)))|(apply Aj;exact J;all_goals (intro hc;try simp only [hcS,reduceCtorEq] at hc;try (exfalso;omega)))|(apply Ba;exact J;exact J;all_goals (intro hc;try simp only [hcS,reduceCtorEq] at hc;try (exfalso;omega))))
   all_goals first
    | (exfalso;omega)
    | (exfalso;simp at hc;done)
    | (exact Ck rfl rfl rfl QM rfl rfl rfl (Ev _ _))
 rw [if_neg hco]
 cases he:J6a (fcs l) s co with
 | none =>
   rw [he] at hen
   dsimp only
   repeat' (first|apply Ac|apply Au|apply Aa|apply Ab|(apply Af;(iterate 3 exact J);apply Ao (e:=24);exact J;intro b7)|(apply Af;(iterate 3 exact J);apply Ag (e:=30);exact J;intro b8)|(apply Ad;(iterate 3 exact J))|(apply Ai;exact J;exact Av rfl QM rfl;exact J;exact J)|(apply Af;(iterate 3 exact J);(first|(apply Ah;(iterate 3 exact J);exact QR;(iterate 3 exact J);skip)|(apply Ag;exact J;intro b;skip)|(apply Aq;exact J;exact Pw;exact hr _;skip)|(apply Ay;exact J;exact has17;exact hen _ QL;rintro v2 h2 hle2 ⟨z,ok,rfl,(⟨_,_,rfl⟩|⟨q1,_⟩)⟩;(first|(exfalso;cases q1;done)|skip);skip)))|(apply Bf (n:=6) [0,1,2,3,4,5,6,8,7,9] [(0,0),(1,0),(3,0),(2,1),(4,1),(5,0),(6,0),(7,0),(8,1),(9,0)];kernel_rfl)|(apply Ce;exact J;kernel_rfl;(iterate 3 exact J))|(apply Bj;exact J;kernel_rfl;(iterate 3 exact J);exact QM;exact J;exact J)|(apply Aj;exact J;all_goals (intro hc;try simp only [hcS,reduceCtorEq] at hc;try (exfalso;omega)))|(apply Ba;exact J;exact J;all_goals (intro hc;try simp only [hcS,reduceCtorEq] at hc;try (exfalso;omega))))
   all_goals first
    | (exfalso;omega)
    | (exfalso;simp at hc;done)
    | (exfalso;cases q1;done)
    | (exact Ck rfl rfl rfl QM rfl rfl rfl (Ev _ _))
 | some e =>
   have hen2:∀ h',Le h h'→Res Tryz.prog 17 #[.slice A n c,.int .i64 s,.int .i64 co] h' (fun u _=>∃ zs,u=.tuple #[entV7 zs e,.bool true]∧(zs,e)∈l):=fun h' hl=>(hen h' hl).mono fun u h2 _ ⟨z,ok,q0,q⟩=>by
    rw [he] at q
    rcases q with ⟨q1,_⟩|⟨q1,q2,_,q4⟩
    · cases q1
    · obtain ⟨zs,zf⟩:=z
      injection q1 with q1
      dsimp only at q1 q2 q0
      subst q1;subst q4
      exact ⟨zs,q0,q2⟩
   obtain ⟨_,k1,k2,k3,hok⟩:=entF_some h32 he
   obtain ⟨hel,hinc⟩:=ent_clubs hok k1
   have hor:=fun h' (hl:Le h h') zs (hm:(zs,e)∈l)=>order21_c h' (hG.le hl) A n c l (hx.le hl) zs e ((hx.fat _ hm).1.cl.le hl) (hcc _ hm) hinc hel
   rw [k2,k3] at hor
   have hal:=fun h' (hl:Le h h')=>All_c h' (hG.le hl) A n c l (hx.le hl) hn6 s co
   have hlen:=Kta h32 s co
   have hll:(fcs l).length≤65536:=by have:=hx.row.len;unfold fcs;rw [List.length_map];omega
   dsimp only
   generalize Jma (fcs l) s co e=cs at *
   generalize C4a (fcs l) s co=all at *
   have hnw:=fun h' A' n' c' hs hcp=>new_c h' A' n' c' cs t hs hcp
   clear hen hinc hok k1 k2 k3 he
   by_cases hN:(Ob cs t).2=0
   case' neg =>
    rw [if_neg hN]
    generalize Ob cs t=N at *
    repeat' (first|apply Ac|apply Au|apply Aa|apply Ab|(apply Af;(iterate 3 exact J);apply Ao (e:=24);exact J;intro b7)|(apply Af;(iterate 3 exact J);apply Ag (e:=30);exact J;intro b8)|(apply Af;(iterate 3 exact J);apply Ag (e:=36);exact J;intro b10)|(apply Ad;(iterate 3 exact J))|(apply Ai;exact J;exact Av rfl QM rfl;exact J;exact J)|(apply Af;(iterate 3 exact J);(first|(apply Ah;(iterate 3 exact J);exact QR;(iterate 3 exact J);skip)|(apply Aq;exact J;exact Pw;exact hr _;skip)|(apply Ay;exact J;exact has17;exact hen2 _ QL;rintro v2 h2 hle2 ⟨zs,rfl,hzm⟩;skip)))|(apply Bf (n:=6) [0,1,2,3,4,5,6,8,7,9] [(0,0),(1,0),(3,0),(2,1),(4,1),(5,0),(6,0),(7,0),(8,1),(9,0)];kernel_rfl)|(apply Ce;exact J;kernel_rfl;(iterate 3 exact J))|(apply Bj;exact J;kernel_rfl;(iterate 3 exact J);exact QM;exact J;exact J)|(apply Br;exact J;kernel_rfl;(iterate 3 exact J);(first|(apply Ah;(iterate 3 exact J);exact QR;(iterate 3 exact J);refine ⟨Le.refl _,QN,?_⟩)|(apply Ay;exact J;exact has18;exact hor _ QL zs hzm;rintro v3 h3 hle3 ⟨A3,n3,c3,rfl,hnc3,hs3⟩;refine ⟨hle3,QN,?_⟩)|(apply Ay;exact J;exact Hga;exact hnw _ A3 n3 c3 (hs3.le QL) hnc3;rintro v4 h4 hle4 ⟨s4,l4,rfl,hb4⟩;refine ⟨hle4,QN,?_⟩)))|(apply Bm;kernel_rfl;exact J)|(apply Aj;exact J;all_goals (intro hc;try simp only [hcS,reduceCtorEq] at hc;try (exfalso;omega)))|(apply Ba;exact J;exact J;all_goals (intro hc;try simp only [hcS,reduceCtorEq] at hc;try (exfalso;omega))))
    all_goals first
     | (exfalso;omega)
     | (exfalso;simp at hc;done)
     | (exact Ck rfl rfl rfl QM rfl rfl rfl ⟨s4,l4,rfl,hb4.le QL⟩)
   rw [if_pos hN]
   have hvi:=Eca all hN
   have hcl:=newB_len hN
   have hNt:=hvi.t
   have hNN:Ob cs t=((Ob cs t).1,0):=Prod.ext rfl hN
   generalize (Ob cs t).1=N at *
   rw [hNN] at hnw
   dsimp only at hnw
   obtain ⟨nt,nr⟩:=N
   dsimp only at hNt
   subst hNt
   repeat' (first|apply Ac|apply Au|apply Ak|apply Aa|apply Ab|(apply Af;(iterate 3 exact J);apply Ao (e:=24);exact J;intro b7)|(apply Af;(iterate 3 exact J);apply Ag (e:=30);exact J;intro b8)|(apply Af;(iterate 3 exact J);apply Ag (e:=36);exact J;intro b10)|(apply Ad;(iterate 3 exact J))|(apply Ai;exact J;exact Av rfl QM rfl;exact J;exact J)|(apply Af;(iterate 3 exact J);(first|(apply Ah;(iterate 3 exact J);exact QR;(iterate 3 exact J);skip)|(apply Aq;exact J;exact Pw;exact hr _;skip)|(apply Ay;exact J;exact has17;exact hen2 _ QL;rintro v2 h2 hle2 ⟨zs,rfl,hzm⟩;skip)|(apply Ay;exact J;exact has9;exact hal _ QL;rintro v5 h5 hle5 ⟨A5,c5,rfl,hnc5,hs5⟩;skip)))|(apply Bf (n:=6) [0,1,2,3,4,5,6,8,7,9] [(0,0),(1,0),(3,0),(2,1),(4,1),(5,0),(6,0),(7,0),(8,1),(9,0)];kernel_rfl)|(apply Ce;exact J;kernel_rfl;(iterate 3 exact J))|(apply Bj;exact J;kernel_rfl;(iterate 3 exact J);exact QM;exact J;exact J)|(apply Br;exact J;kernel_rfl;(iterate 3 exact J);(first|(apply Ah;(iterate 3 exact J);exact QR;(iterate 3 exact J);refine ⟨Le.refl _,QN,?_⟩)|(apply Ay;exact J;exact has18;exact hor _ QL zs hzm;rintro v3 h3 hle3 ⟨A3,n3,c3,rfl,hnc3,hs3⟩;refine ⟨hle3,QN,?_⟩)|(apply Ay;exact J;exact Hga;exact hnw _ A3 n3 c3 (hs3.le QL) hnc3;rintro v4 h4 hle4 ⟨s4,l4,rfl,hb4⟩;refine ⟨hle4,QN,?_⟩)))|(apply Bm;kernel_rfl;exact J)|(apply Aj;exact J;all_goals (intro hc;try simp only [hcS,reduceCtorEq] at hc;try (exfalso;omega)))|(apply Ba;exact J;exact J;all_goals (intro hc;try simp only [hcS,reduceCtorEq] at hc;try (exfalso;omega))))
   all_goals (try (exfalso;omega))
   all_goals (try (exfalso;simp at hc;done))
   have hb5:=hb4.le hle5
   have e4:=brIsV hb5
   subst e4
   clear hr hen2 hor hal hnw hNN hN hx
   refine Bt (X:=Nat×Nat×Sli×List RdS×Ro) (fun y=>y.1≤all.length∧Le h5 y.2.2.2.2∧VwI y.2.2.2.2 cs nt all ⟨nt,rounds l4⟩ y.1 y.2.1 y.2.2.1 y.2.2.2.1) (fun y=>(2 * cs.length-y.2.1) * (all.length+1)+(all.length-y.1))
    (fun y=>[(13,.int .i64 y.1),(12,.slice A5 all.length c5),(8,Rf b8)])
    (fun y=>[Blk b8 30 (brC y.2.2.1 nt)]) (fun y=>y.2.2.2.2) (0,0,s4,l4,h5) ⟨by dsimp only;omega,Le.refl _,⟨hb5,hvi,fun j hj=>absurd hj (by omega),rfl⟩⟩ QS QT rfl ?_
   rintro ⟨i,k,bs,bl,hh⟩ ⟨hi,hle,hV⟩ ih
   dsimp only at hi hle hV ih ⊢
   have hvle:=hV.vi.le
   by_cases hin:i<all.length
   · have a1:=(hs5.le hle).addrD hin
     have c1:At hh ((addrD A5).add (i * I6a.size)) (Jb (all.getD i Ep)):=(hs5.le hle).cellsD Ep hin
     have hent:=fun h' (hl:Le hh h') x=>Xx h' bs bl nt (hV.at_.rs.le hl) hV.at_.nc (Cha hV.at_ hV.vi.ok) x
     have hskip:=fun h' (hl:Le hh h')=>hV.skip (h':=h') hl
     have htake:=fun h' s' l' zr=>hV.take (h':=h') (s':=s') (l':=l') (zr:=zr) hin hcl
     have hnx:=enterB_eq (t:=nt) (rs:=rounds bl) (x:=all.getD i Ep)
     have hent:=fun h' (hl:Le hh h')=>hent h' hl (all.getD i Ep)
     generalize all.getD i Ep=x at *
     by_cases hE:(Cw ⟨nt,rounds bl⟩ x).2=0
     · obtain ⟨zr,hz⟩:=hnx hE
       rw [hz] at hent
       dsimp only at hent
       have ht:=fun h' s' l' (hb:C2a h' s' l' ⟨nt,zr⟩)=>htake h' s' l' zr hz hb
       clear hskip htake hnx hE hz
       repeat' (first|apply Ac|apply Au|apply Ap|apply Ak|apply Aa|apply Ab|(apply Bg;(iterate 3 exact J);omega;exact J;exact J)|(apply Ad;(iterate 3 exact J))|(apply Ai;exact J;exact Av rfl QM rfl;exact J;exact J)|(apply Af;(iterate 3 exact J);(first|(apply Ah;(iterate 3 exact J);exact QR;(iterate 3 exact J);skip)))|(apply Bf (n:=13) [0,1,2,3,4,5,6,7,9,10,8,11] [(0,0),(1,0),(2,0),(3,0),(4,0),(5,2),(6,9),(6,0),(7,0),(8,0),(9,1),(10,1),(11,0),(5,1),(6,0),(7,0),(8,0),(10,1),(11,0)];kernel_rfl)|(apply Ce;exact J;kernel_rfl;(iterate 3 exact J))|(apply Bj;exact J;kernel_rfl;(iterate 3 exact J);exact QM;exact J;exact J)|(apply De;exact J;kernel_rfl;exact J;exact J;(first|(apply Be (j:=i) (n:=all.length);(iterate 5 exact J);exact a1;(with_reducible exact J);omega)|(apply Ar;exact J;exact Bh rfl (c1.le QL) rfl));exact QA)|(apply Br;exact J;kernel_rfl;(iterate 3 exact J);(first|(apply Ah;(iterate 3 exact J);exact QR;(iterate 3 exact J);refine ⟨Le.refl _,QN,?_⟩)|(apply Ag;exact J;intro b;refine ⟨Le.refl _,QN,?_⟩)|(apply Ay;exact J;exact Hha;exact hent _ QL;rintro v6 h6 hle6 ⟨s6,l6,rfl,hb6⟩;refine ⟨hle6,QN,?_⟩)))|(apply Ia;kernel_rfl;exact J;exact J)|(apply Cj;(iterate 4 exact J);(first|(apply Ag;exact J;intro b;refine ⟨Le.refl _,QN,?_⟩)|(apply Ay;exact J;exact Hha;exact hent _ QL;rintro v6 h6 hle6 ⟨s6,l6,rfl,hb6⟩;refine ⟨hle6,QN,?_⟩)))|(apply Bm;kernel_rfl;exact J)|(apply Aj;exact J;all_goals (intro hc;try simp only [hcS,reduceCtorEq] at hc;try (exfalso;omega))))
       all_goals first
        | (exfalso;omega)
        | (exfalso;simp at hc;done)
        | (have h9:=ih (0,k+1,s6,l6,h6) ⟨by dsimp only;omega,hle.trans hle6,ht _ _ _ hb6⟩ (by
            dsimp only
            rw [show 2 * cs.length-k=(2 * cs.length-(k+1))+1 by omega,Nat.add_mul,Nat.one_mul]
            omega)
           refine Bw QS QT (h9))
     · have h7:=fun h' (hl:Le hh h')=>hskip h' hl hE
       obtain ⟨y,e,hye,hne⟩:=play_no2 hE
       rw [hye] at hent
       dsimp only at hent
       clear hskip htake hnx hE hye
       repeat' (first|apply Ac|apply Au|apply Ap|apply Ak|apply Aa|apply Ab|(apply Bg;(iterate 3 exact J);omega;exact J;exact J)|(apply Ad;(iterate 3 exact J))|(apply Bf (n:=13) [0,1,2,3,4,5,6,7,9,10,8,11] [(0,0),(1,0),(2,0),(3,0),(4,0),(5,2),(6,9),(6,0),(7,0),(8,0),(9,1),(10,1),(11,0),(5,1),(6,0),(7,0),(8,0),(10,1),(11,0)];kernel_rfl)|(apply Ce;exact J;kernel_rfl;(iterate 3 exact J))|(apply Bj;exact J;kernel_rfl;(iterate 3 exact J);exact QM;exact J;exact J)|(apply De;exact J;kernel_rfl;exact J;exact J;(first|(apply Be (j:=i) (n:=all.length);(iterate 5 exact J);exact a1;(with_reducible exact J);omega)|(apply Ar;exact J;exact Bh rfl (c1.le QL) rfl));exact QA)|(apply Br;exact J;kernel_rfl;(iterate 3 exact J);(first|(apply Ah;(iterate 3 exact J);exact QR;(iterate 3 exact J);refine ⟨Le.refl _,QN,?_⟩)|(apply Ag;exact J;intro b;refine ⟨Le.refl _,QN,?_⟩)|(apply Ay;exact J;exact Hha;exact hent _ QL;rintro v6 h6 hle6 ⟨s6,l6,rfl,hb6⟩;refine ⟨hle6,QN,?_⟩)))|(apply Ia;kernel_rfl;exact J;exact J)|(apply Cj;(iterate 4 exact J);(first|(apply Ag;exact J;intro b;refine ⟨Le.refl _,QN,?_⟩)|(apply Ay;exact J;exact Hha;exact hent _ QL;rintro v6 h6 hle6 ⟨s6,l6,rfl,hb6⟩;refine ⟨hle6,QN,?_⟩)))|(apply Bm;kernel_rfl;exact J)|(apply Aj;exact J;all_goals (intro hc;try simp only [hcS,reduceCtorEq] at hc;try (exfalso;omega))))
       all_goals first
        | (exfalso;omega)
        | (exfalso;simp at hc;done)
        | (have h9:=ih (i+1,k,bs,bl,h6) ⟨by dsimp only;omega,hle.trans hle6,h7 _ hle6⟩ (by dsimp only;omega)
           refine Bw QS QT (h9))
   · obtain rfl:i=all.length:=by omega
     have hfin:=hV.fin
     have hat:=hV.at_
     rw [hfin]
     clear ih hV hfin
     repeat' (first|apply Ac|apply Aa|apply Ab|(apply Bn;exact J)|(apply Ad;(iterate 3 exact J))|(apply Ai;exact J;exact Av rfl QM rfl;exact J;exact J)|(apply Af;(iterate 3 exact J);(first|(apply Ah;(iterate 3 exact J);exact QR;(iterate 3 exact J);skip)))|(apply Aj;exact J;all_goals (intro hc;try simp only [hcS,reduceCtorEq] at hc;try (exfalso;omega))))
     all_goals first
      | (exfalso;omega)
      | (exact Ck rfl rfl rfl QM rfl rfl rfl ⟨bs,bl,rfl,hat⟩)
end Go.Hw
