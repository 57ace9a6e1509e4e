import Derived.Test.YtgbamiehiokacaaGreatDoorXC
import Derived.Test.YtgbamiehiokacaaGreatDoorKX7
import Derived.Test.YtgbamiehiokacaaGreatDoorKR2s
set_option linter.all false
set_option maxRecDepth 100000
set_option maxHeartbeats 8000000
namespace Go.Hw
open Go
attribute [local irreducible] GO GOl GDp Val Fn Res CellsAt ValE Blk OwnS MapA OwnPf Has Yl SepA forceL decC memS suspC suspN suspOne yelC cardsF nextC regF offS
open Go.Proofs (Tryz.prog)
open Classical in
theorem Bva (h:Ro)(A:Option Addr)(n c:Nat)(l:List (Fsh×Fct))(hx:FactsAt h A n l)(hn6:n≤65536)(g:FGame)(p cl day:Int):Res Tryz.prog 95 #[.slice A n c,gameV g,.int .i64 p,.int .i64 cl,.int .i64 day] h (fun u _=>u=.bool (decide (OffB (fcs l) (suspC (decC (fcs l) g.s g.c)) g day cl p))):=by
 refine Bi (args:=[_,_,_,_,_]) ts_ok Go.Proofs.Tryz.func95 rfl rfl fun w0 X0 => ?_
 have hrg:=fun h' (hl:Le h h')=>Jj h' A n c l (hx.le hl) hn6 p day
 have hmv:=fun h' (hl:Le h h')=>movedR_c h' A n c l (hx.le hl) hn6 p
 have hun:=fun h' (hl:Le h h')=>A5a h' A n c l (hx.le hl) hn6 p day
 have hsu:=fun h' (hl:Le h h')=>Ih h' A n c l (hx.le hl) hn6 g.s g.c
 obtain ⟨vb,hvb⟩:∃ vb:Bool,vb=decide (OffB (fcs l) (suspC (decC (fcs l) g.s g.c)) g day cl p):=⟨_,rfl⟩
 obtain ⟨mb,hmb⟩:∃ mb:Bool,mb=decide (∃ x∈fcs l,MvOf p x):=⟨_,rfl⟩
 have hV:vb=true↔((mb=true∧¬ (0≤(regF (fcs l) p day).mTo∧(regF (fcs l) p day).mTo=cl))∨unfitL (canonL (fcs l)) p day=true∨∃ s∈suspC (decC (fcs l) g.s g.c),s.p=p∧s.g=g):=by
  rw [hvb,hmb,decide_eq_true_eq,decide_eq_true_eq];exact Iff.rfl
 rw [← hvb]
 simp only [← hmb] at hmv
 clear hvb hmb
 generalize suspC (decC (fcs l) g.s g.c)=S at *
 generalize unfitL (canonL (fcs l)) p day=U at *
 generalize (regF (fcs l) p day).mTo=t at *
 clear hx
 by_cases hM:mb=true∧¬ (0≤t∧t=cl)
 · have e:vb=true:=hV.2 (.inl hM)
   subst e
   obtain ⟨rfl,h2⟩:=hM
   clear hV
   by_cases ht:0≤t
   · have h3:t≠cl:=fun e=>h2 ⟨ht,e⟩
     simp only [if_neg (show ¬ t<0 by omega),decide_eq_true ht] at hrg
     clear hun hsu
     repeat' (first|apply Ac|apply Aa|apply Ab|(apply Ad;(iterate 3 exact J))|(apply Ai;(iterate 3 exact J);(first|(apply Ar;exact J;intro b;skip)|(apply Ba;exact J;exact has36;exact hrg _ QL;rintro v1 h1' hle1 rfl;skip)|(apply Ba;exact J;exact Aja;exact hmv _ QL;rintro v2 h2' hle2 rfl;skip)))|(apply Af;exact J;all_goals (intro hc;try simp only [hcS,reduceCtorEq] at hc;try (exfalso;omega))))
     all_goals first
      | (exfalso;omega)
      | (exact Bt rfl rfl rfl rfl)
   · simp only [if_pos (show t<0 by omega),decide_eq_false ht] at hrg
     clear hun hsu
     repeat' (first|apply Ac|apply Aa|apply Ab|(apply Au;exact J;exact J)|(apply Ad;(iterate 3 exact J))|(apply Ai;(iterate 3 exact J);(first|(apply Ar;exact J;intro b;skip)|(apply Ba;exact J;exact has36;exact hrg _ QL;rintro v1 h1' hle1 rfl;skip)|(apply Ba;exact J;exact Aja;exact hmv _ QL;rintro v2 h2' hle2 rfl;skip)))|(apply Af;exact J;all_goals (intro hc;try simp only [hcS,reduceCtorEq] at hc;try (exfalso;omega))))
     all_goals first
      | (exfalso;omega)
      | (exact Bt rfl rfl rfl rfl)
 · have hfin:mb=true→0≤t∧t=cl:=fun q=>Classical.byContradiction fun w=>hM ⟨q,w⟩
   cases U with
   | true =>
     have e:vb=true:=hV.2 (.inr (.inl rfl))
     subst e
     clear hV hsu hM
     cases mb
     case' true =>
      obtain ⟨ht,hcl⟩:=hfin rfl
      simp only [if_neg (show ¬ t<0 by omega),decide_eq_true ht] at hrg
     all_goals (repeat' (first|apply Ac|apply Av|apply Aa|apply Ab|(apply Au;exact J;exact J)|(apply Ad;(iterate 3 exact J))|(apply Ai;(iterate 3 exact J);(first|(apply Ar;exact J;intro b;skip)|(apply Ba;exact J;exact has36;exact hrg _ QL;rintro v1 h1' hle1 rfl;skip)|(apply Ba;exact J;exact Aja;exact hmv _ QL;rintro v2 h2' hle2 rfl;skip)|(apply Ba;exact J;exact has38;exact hun _ QL;rintro v3 h3' hle3 rfl;skip)))|(apply Af;exact J;all_goals (intro hc;try simp only [hcS,reduceCtorEq] at hc;try (exfalso;omega)))))
     all_goals first
      | (exfalso;omega)
      | (exfalso;simp at hc;done)
      | (exact Bt rfl rfl rfl rfl)
   | false =>
     have hV2:vb=true↔∃ s∈S,s.p=p∧s.g=g:=hV.trans ⟨fun w=>(w.resolve_left hM).resolve_left (by simp),fun w=>.inr (.inr w)⟩
     clear hV hM
     cases mb
     case' true =>
      obtain ⟨ht,hcl⟩:=hfin rfl
      simp only [if_neg (show ¬ t<0 by omega),decide_eq_true ht] at hrg
     all_goals (repeat' (first|apply Ac|apply Av|apply Ag|apply Aa|apply Ab|(apply Ai;(iterate 3 exact J);apply Ar (e:=35);exact J;intro b6)|(apply Au;exact J;exact J)|(apply Ad;(iterate 3 exact J))|(apply Ao;exact J;exact Bb rfl QM rfl;exact J;exact J)|(apply Ai;(iterate 3 exact J);(first|(apply Ba;exact J;exact has36;exact hrg _ QL;rintro v1 h1' hle1 rfl;skip)|(apply Ba;exact J;exact Aja;exact hmv _ QL;rintro v2 h2' hle2 rfl;skip)|(apply Ba;exact J;exact has38;exact hun _ QL;rintro v3 h3' hle3 rfl;skip)|(apply Ba;exact J;exact has41;exact hsu _ QL;rintro v4 h4 hle4 ⟨A5,c5,rfl,hsS,hSn⟩;skip)))|(apply Af;exact J;all_goals (intro hc;try simp only [hcS,reduceCtorEq] at hc;try (exfalso;omega)))))
     all_goals (try (exfalso;omega))
     all_goals (try (exfalso;simp at hc;done))
     all_goals clear hrg hmv hun hsu hfin
     all_goals
      refine Bj (X:=Nat) (fun k=>k≤S.length∧∀ s∈S.take k,¬ (s.p=p∧s.g=g)) (fun k=>S.length-k)
       (fun k=>[(14,.int .i64 k),(13,.slice A5 S.length c5),(6,ptrV b6),(2,.int .i64 p)])
       (fun k=>[Blk b6 35 (gameC g)]) (fun _=>h4) 0 ⟨by omega,by simp⟩ QS QT rfl ?_
      rintro k ⟨hk,hI⟩ ih
      by_cases hkn:k<S.length
      · have a1:=hsS.addrD hkn
        have c1:=hsS.cellsD su0 hkn
        have et:=Cl su0 (xs:=S) rfl hkn
        have hzm:=mem7 su0 hkn
        generalize S.getD k su0=z at *
        have hge:=Ev z.g g
        by_cases hz:z.p=p∧z.g=g
        · have e:vb=true:=hV2.2 ⟨z,hzm,hz⟩
          subst e
          obtain ⟨hz1,hz2⟩:=hz
          rw [decide_eq_true hz2] at hge
          clear ih
          repeat' (first|apply Ac|apply Av|apply Ag|apply Aa|apply Ab|(apply Ad;(iterate 3 exact J))|(apply Bd (n:=10) [0,1,2,3,4,5,6,7,8,9,10,11,12,13,14,15] [(0,0),(1,0),(2,0),(3,0),(4,0),(5,0),(6,0),(7,0),(8,0),(9,0),(10,0),(11,0),(12,0),(13,0),(14,0),(15,0)];kernel_rfl)|(apply Ca;exact J;kernel_rfl;(iterate 3 exact J))|(apply Bo;exact J;kernel_rfl;(iterate 3 exact J);exact QM;exact J;exact J)|(apply Ce;exact J;kernel_rfl;exact J;exact J;(first|(apply Az (j:=k);(iterate 5 exact J);exact a1;(with_reducible exact J);omega)|(apply Aq;exact J;exact Bh rfl c1 rfl)|(apply Da;exact J;exact J;exact hge;kernel_rfl;kernel_rfl)|(apply Aq;exact J;first|exact Bh rfl (by assumption) rfl|exact Bz rfl (by assumption) rfl|exact By rfl (by assumption) rfl|exact Lv_roF3 rfl (by assumption) rfl));exact QA)|(apply Bk;kernel_rfl;exact J)|(apply Cf;(iterate 5 exact J);all_goals (intro hc;try simp only [hcS,reduceCtorEq] at hc;try (exfalso;omega)))|(apply Af;exact J;all_goals (intro hc;try simp only [hcS,reduceCtorEq] at hc;try (exfalso;omega))))
          all_goals first
           | (exfalso;omega)
           | (exfalso;simp at hc;done)
           | (exact Bt rfl rfl rfl rfl)
        · have h9:=ih (k+1) ⟨by omega,fun y hy=>by
           rw [et,List.mem_append,List.mem_singleton] at hy
           rcases hy with w|w
           · exact hI y w
           · rw [w];exact hz⟩ (by omega)
          clear ih
          by_cases hz1:z.p=p
          · rw [decide_eq_false (fun w=>hz ⟨hz1,w⟩)] at hge
            repeat' (first|apply Ac|apply Av|apply Ah|apply Ag|apply Aa|apply Ab|(apply Bf;(iterate 3 exact J);omega;exact J;exact J)|(apply Ad;(iterate 3 exact J))|(apply Bd (n:=10) [0,1,2,3,4,5,6,7,8,9,10,11,12,13,14,15] [(0,0),(1,0),(2,0),(3,0),(4,0),(5,0),(6,0),(7,0),(8,0),(9,0),(10,0),(11,0),(12,0),(13,0),(14,0),(15,0)];kernel_rfl)|(apply Ca;exact J;kernel_rfl;(iterate 3 exact J))|(apply Bo;exact J;kernel_rfl;(iterate 3 exact J);exact QM;exact J;exact J)|(apply Ce;exact J;kernel_rfl;exact J;exact J;(first|(apply Az (j:=k);(iterate 5 exact J);exact a1;(with_reducible exact J);omega)|(apply Aq;exact J;exact Bh rfl c1 rfl)|(apply Da;exact J;exact J;exact hge;kernel_rfl;kernel_rfl)|(apply Aq;exact J;first|exact Bh rfl (by assumption) rfl|exact Bz rfl (by assumption) rfl|exact By rfl (by assumption) rfl|exact Lv_roF3 rfl (by assumption) rfl));exact QA)|(apply Bk;kernel_rfl;exact J)|(apply Cf;(iterate 5 exact J);all_goals (intro hc;try simp only [hcS,reduceCtorEq] at hc;try (exfalso;omega)))|(apply Af;exact J;all_goals (intro hc;try simp only [hcS,reduceCtorEq] at hc;try (exfalso;omega))))
            all_goals first
             | (exfalso;omega)
             | (exfalso;simp at hc;done)
             | (refine Bn QS QT (h9))
          · repeat' (first|apply Ac|apply Av|apply Ah|apply Ag|apply Aa|apply Ab|(apply Bf;(iterate 3 exact J);omega;exact J;exact J)|(apply Ad;(iterate 3 exact J))|(apply Bd (n:=10) [0,1,2,3,4,5,6,7,8,9,10,11,12,13,14,15] [(0,0),(1,0),(2,0),(3,0),(4,0),(5,0),(6,0),(7,0),(8,0),(9,0),(10,0),(11,0),(12,0),(13,0),(14,0),(15,0)];kernel_rfl)|(apply Gw;exact J;kernel_rfl;exact J;exact J)|(apply Ca;exact J;kernel_rfl;(iterate 3 exact J))|(apply Ce;exact J;kernel_rfl;exact J;exact J;(first|(apply Az (j:=k);(iterate 5 exact J);exact a1;(with_reducible exact J);omega)|(apply Aq;exact J;exact Bh rfl c1 rfl));exact QA)|(apply Bk;kernel_rfl;exact J)|(apply Cf;(iterate 5 exact J);all_goals (intro hc;try simp only [hcS,reduceCtorEq] at hc;try (exfalso;omega)))|(apply Af;exact J;all_goals (intro hc;try simp only [hcS,reduceCtorEq] at hc;try (exfalso;omega))))
            all_goals first
             | (exfalso;omega)
             | (exfalso;simp at hc;done)
             | (refine Bn QS QT (h9))
      · rw [List.take_of_length_le (by omega)] at hI
        have e:vb=false:=by
         rw [← Bool.not_eq_true,hV2]
         rintro ⟨s,hs,w⟩;exact hI s hs w
        subst e
        clear ih
        repeat' (first|apply Ac|apply Aa|apply Ab|(apply Bl;exact J)|(apply Ad;(iterate 3 exact J))|(apply Af;exact J;all_goals (intro hc;try simp only [hcS,reduceCtorEq] at hc;try (exfalso;omega))))
        all_goals first
         | (exfalso;omega)
         | (exact Bt rfl rfl rfl rfl)
open Classical in
theorem Wb (h:Ro)(A:Option Addr)(n c:Nat)(l:List (Fsh×Fct))(hx:FactsAt h A n l)(hn6:n≤65536)(g:FGame):Res Tryz.prog 43 #[.slice A n c,gameV g] h (fun u h'=>OffOut h' u (offL (fcs l) g)):=by
 refine Bi (args:=[_,_]) ts_ok Go.Proofs.Tryz.func43 rfl rfl fun w0 X0 => ?_
 have hsc:=fun h' (hl:Le h h')=>Zd h' A n c l (hx.le hl) hn6 g
 have hof:=fun h' (hl:Le h h') p cl day=>Bva h' A n c l (hx.le hl) hn6 g p cl day
 have hno:=offL_no (L:=fcs l) (g:=g)
 have hyes:=fun x=>Zo (L:=fcs l) (g:=g) (x:=x)
 have hsh:=Cu (Ee hx) (g:=g)
 rw [show cont l=fcs l from rfl] at hsc
 generalize hsx:scoreF (fcs l) g=x at *
 generalize suspC (decC (fcs l) g.s g.c)=S at *
 by_cases hk2:x.kind=2
 case' neg =>
  rw [hno hk2]
  clear hof hno hyes
  repeat' (first|apply Ac|apply Aa|apply Ab|(apply Ad;(iterate 3 exact J))|(apply Ao;exact J;exact Bb rfl QM rfl;exact J;exact J)|(apply Ai;(iterate 3 exact J);(first|(apply Aj;(iterate 3 exact J);exact QR;(iterate 3 exact J);skip)|(apply Ar;exact J;intro b;skip)|(apply Ap;exact J;intro b;skip)|(apply Ba;exact J;exact has94;exact hsc _ QL;rintro w2 h2 hle2 ⟨s,rfl,hs1,hs2⟩;skip)))|(apply Af;exact J;all_goals (intro hc;try simp only [hcS,reduceCtorEq] at hc;try (exfalso;omega))))
  all_goals first
   | (exfalso;omega)
   | (exact Dp rfl rfl rfl rfl ⟨none,0,none,0,rfl,SlOf.nil,SlOf.nil⟩)
 have hyes:=hyes x rfl hk2
 have hsz:x.sh.hs.length≤1000000∧x.sh.asn.length≤1000000:=by
  obtain ⟨f,_,ok,kf,e,_⟩:=hsh hk2
  have:=ok.2.2.1
  unfold ContOk at this
  rw [if_neg (by omega),if_neg (by omega),if_pos kf,e] at this
  have h1:=this.2.2.2.2.2.1.1
  have h2:=this.2.2.2.2.2.2.1.1
  omega
 rw [hyes]
 have hsn1:=Na (fcs l) S g x.day g.h
 have hsl1:=Jl (fcs l) S g x.day g.h
 have hz1:offS (fcs l) S g x.day g.h []=[]:=by unfold offS;rfl
 have hsn2:=Na (fcs l) S g x.day g.a
 have hsl2:=Jl (fcs l) S g x.day g.a
 have hz2:offS (fcs l) S g x.day g.a []=[]:=by unfold offS;rfl
 have hof1:=fun h' (hl:Le h h') p=>hof h' hl p g.h x.day
 have hof2:=fun h' (hl:Le h h') p=>hof h' hl p g.a x.day
 obtain ⟨q1,hq1⟩:∃ qb:Int→Bool,∀ p,qb p=decide (OffB (fcs l) S g x.day g.h p):=⟨_,fun _=>rfl⟩
 obtain ⟨q2,hq2⟩:∃ qb:Int→Bool,∀ p,qb p=decide (OffB (fcs l) S g x.day g.a p):=⟨_,fun _=>rfl⟩
 have hof1:∀ h' (hl:Le h h') p,Res Tryz.prog 95 #[.slice A n c,gameV g,.int .i64 p,.int .i64 g.h,.int .i64 x.day] h' (fun u _=>u=.bool (q1 p)):=fun h' hl p=>by rw [hq1 p];exact hof1 h' hl p
 have hof2:∀ h' (hl:Le h h') p,Res Tryz.prog 95 #[.slice A n c,gameV g,.int .i64 p,.int .i64 g.a,.int .i64 x.day] h' (fun u _=>u=.bool (q2 p)):=fun h' hl p=>by rw [hq2 p];exact hof2 h' hl p
 have hsn1:∀ sq p,offS (fcs l) S g x.day g.h (sq++[p])=if q1 p=true then offS (fcs l) S g x.day g.h sq++[p] else offS (fcs l) S g x.day g.h sq:=fun sq p=>by
  rw [hsn1 sq p,hq1 p]
  by_cases q:OffB (fcs l) S g x.day g.h p
  · rw [if_pos q,decide_eq_true q,if_pos rfl]
  · rw [if_neg q,decide_eq_false q,if_neg (by simp)]
 have hsn2:∀ sq p,offS (fcs l) S g x.day g.a (sq++[p])=if q2 p=true then offS (fcs l) S g x.day g.a sq++[p] else offS (fcs l) S g x.day g.a sq:=fun sq p=>by
  rw [hsn2 sq p,hq2 p]
  by_cases q:OffB (fcs l) S g x.day g.a p
  · rw [if_pos q,decide_eq_true q,if_pos rfl]
  · rw [if_neg q,decide_eq_false q,if_neg (by simp)]
 clear hno hyes hsh hof hx hq1 hq2
 generalize offS (fcs l) S g x.day g.h=O1 at *
 generalize offS (fcs l) S g x.day g.a=O2 at *
 repeat' (first|apply Ac|apply Av|apply Ag|apply Aa|apply Ab|(apply Ai;(iterate 3 exact J);apply Ar (e:=35);exact J;intro b3)|(apply Ai;(iterate 3 exact J);apply Ap (e:=84);exact J;intro b6)|(apply Ad;(iterate 3 exact J))|(apply Ao;exact J;exact Bb rfl QM rfl;exact J;exact J)|(apply Ai;(iterate 3 exact J);(first|(apply Aj;(iterate 3 exact J);exact QR;(iterate 3 exact J);skip)|(apply Ba;exact J;exact has94;exact hsc _ QL;rintro w2 h3 hle3 ⟨s,rfl,hs1,hs2⟩;skip)|(apply Bq (n:=0);(iterate 3 exact J);exact List.cons_ne_nil _ _;(iterate 6 exact J);intro b8;skip)))|(apply Af;exact J;all_goals (intro hc;try simp only [hcS,reduceCtorEq] at hc;try (exfalso;omega))))
 all_goals (try (exfalso;omega))
 rename_i b7
 have hle0:Le h h3:=QL
 have hn1:=hs1.hs.len
 have hn2:=hs1.asn.len
 have hhs:=hs1.hs
 have has':=hs1.asn
 refine Bj (X:=Nat×List Int×Option Addr×Nat×Ro) (fun y=>y.1≤s.hs.n∧Le h3 y.2.2.2.2∧y.2.1=O1 (x.sh.hs.take y.1)) (fun y=>s.hs.n-y.1)
  (fun y=>[(9,.int .i64 y.1),(7,.slice y.2.2.1 y.2.1.length y.2.2.2.1),(8,.slice (some ⟨b8,0,none⟩) 0 0),(6,ptrV b6),(3,ptrV b3),(0,.slice A n c)])
  (fun y=>[OwnS 3 1 (.slice y.2.2.1 y.2.1.length y.2.2.2.1) y.2.1.length (y.2.1.flatMap encI),OwnS 3 1 (.slice (some ⟨b8,0,none⟩) 0 0) 0 [],Blk b6 84 (encSc (s,x)),Blk b3 35 (gameC g)]) (fun y=>y.2.2.2.2) (0,[],some ⟨b7,0,none⟩,0,h3) ⟨by dsimp only;omega,Le.refl _,hz1.symm⟩ QS QT rfl ?_
 rintro ⟨k,out,A4,c4,hh⟩ ⟨hk,hle,ho⟩ ih
 dsimp only at hk hle ho ih ⊢
 have hol:out.length≤k:=by
  rw [ho]
  refine Nat.le_trans (hsl1 _) ?_
  rw [List.length_take];omega
 by_cases hkn:k<s.hs.n
 · have a1:=hhs.addrD hkn
   have c1:CellsAt hh ((addrD s.hs.A).add (k * ty3.size)) (encI (x.sh.hs.getD k 0)):=(hhs.cellsD 0 hkn).le hle
   have et:=Cl 0 (xs:=x.sh.hs) hn1 hkn
   generalize x.sh.hs.getD k 0=p at *
   have e0:=hsn1 (x.sh.hs.take k) p
   rw [← et,← ho] at e0
   have hof:=fun h' (hl:Le hh h')=>hof1 h' (hle0.trans (hle.trans hl)) p
   cases hq:q1 p with
   | true =>
     rw [hq] at e0 hof
     rw [if_pos rfl] at e0
     clear hsn1 hsl1 hsn2 hsl2 hof1 hof2
     repeat' (first|apply Ac|apply Av|apply Ah|apply Ag|apply Aa|apply Ab|(apply Bf;(iterate 3 exact J);omega;exact J;exact J)|(apply Ad;(iterate 3 exact J))|(apply Ao;exact J;exact Bb rfl QM rfl;exact J;exact J)|(apply Be;exact J;exact J;(first|(apply Az (j:=k);(iterate 5 exact J);exact a1;(with_reducible exact J);omega)|(apply Aq;exact J;apply Bh;exact J;exact c1.le QL;exact J));exact QA)|(apply Ai;(iterate 3 exact J);(first|(apply At (enc:=encI) (n:=1) [p];(iterate 3 exact J);exact List.cons_ne_nil _ _;(iterate 4 exact J);exact fun _=>rfl;exact J;exact J;intro b5 h9 hle9 hs5;skip)|(apply Bg (enc:=encI) (xs:=out);(iterate 7 exact J);exact hs5;exact fun _=>rfl;exact fun x=>Bv rfl;intro v1;exact QR;omega;exact J;intro A5 c5;skip)))|(apply Bd (n:=9) [0,1,2,3,4,5,6,7,8,9,10,11,12] [(0,0),(1,0),(2,0),(3,0),(4,0),(5,0),(6,0),(7,0),(8,0),(9,0),(10,0),(11,0),(12,1)];kernel_rfl)|(apply Ca;exact J;kernel_rfl;(iterate 3 exact J))|(apply Bo;exact J;kernel_rfl;(iterate 3 exact J);exact QM;exact J;exact J)|(apply Ce;exact J;kernel_rfl;exact J;exact J;(first|(apply Az (j:=k);(iterate 5 exact J);exact a1;(with_reducible exact J);omega)|(apply Aq;exact J;apply Bh;exact J;exact c1.le QL;exact J));exact QA)|(apply Bp;exact J;kernel_rfl;(iterate 3 exact J);(first|(apply Ba;exact J;exact has95;exact hof _ QL;rintro v5 h8 hle8 rfl;refine ⟨hle8,QN,?_⟩)))|(apply Bk;kernel_rfl;exact J)|(apply Af;exact J;all_goals (intro hc;try simp only [hcS,reduceCtorEq] at hc;try (exfalso;omega))))
     all_goals first
      | (exfalso;omega)
      | (exfalso;simp at hc;done)
      | (have h9':=ih (k+1,out++[p],A5,c5,h9) ⟨by dsimp only;omega,hle.trans (hle8.trans hle9),by dsimp only;rw [e0]⟩ (by dsimp only;omega)
         dsimp only at h9'
         rw [List.length_append] at h9'
         refine Bn QS QT (h9'))
   | false =>
     rw [hq] at e0 hof
     rw [if_neg (by simp)] at e0
     clear hsn1 hsl1 hsn2 hsl2 hof1 hof2
     repeat' (first|apply Ac|apply Av|apply Ah|apply Ag|apply Aa|apply Ab|(apply Bf;(iterate 3 exact J);omega;exact J;exact J)|(apply Ad;(iterate 3 exact J))|(apply Ao;exact J;exact Bb rfl QM rfl;exact J;exact J)|(apply Bd (n:=9) [0,1,2,3,4,5,6,7,8,9,10,11,12] [(0,0),(1,0),(2,0),(3,0),(4,0),(5,0),(6,0),(7,0),(8,0),(9,0),(10,0),(11,0),(12,1)];kernel_rfl)|(apply Ca;exact J;kernel_rfl;(iterate 3 exact J))|(apply Bo;exact J;kernel_rfl;(iterate 3 exact J);exact QM;exact J;exact J)|(apply Ce;exact J;kernel_rfl;exact J;exact J;(first|(apply Az (j:=k);(iterate 5 exact J);exact a1;(with_reducible exact J);omega)|(apply Aq;exact J;apply Bh;exact J;exact c1.le QL;exact J));exact QA)|(apply Bp;exact J;kernel_rfl;(iterate 3 exact J);(first|(apply Ba;exact J;exact has95;exact hof _ QL;rintro v5 h8 hle8 rfl;refine ⟨hle8,QN,?_⟩)))|(apply Bk;kernel_rfl;exact J)|(apply Af;exact J;all_goals (intro hc;try simp only [hcS,reduceCtorEq] at hc;try (exfalso;omega))))
     all_goals first
      | (exfalso;omega)
      | (exfalso;simp at hc;done)
      | (have h9':=ih (k+1,out,A4,c4,h8) ⟨by dsimp only;omega,hle.trans hle8,by dsimp only;rw [e0]⟩ (by dsimp only;omega)
         dsimp only at h9'
         refine Bn QS QT (h9'))
 · rw [List.take_of_length_le (by omega)] at ho
   clear ih hsn1 hsl1 hof1
   rw [← ho]
   refine Db (enc:=encI) (e:=3) (sz:=1) (n:=out.length) (xs:=out) (fun _=>rfl) rfl QK ?_
   intro A7 c7 h10 hle10 e7 hnc7 hs7
   cases e7
   repeat' (first|apply Ac|apply Ag|apply Aa|apply Ab|(apply Bl;exact J)|(apply Ad;(iterate 3 exact J))|(apply Ao;exact J;exact Bb rfl QM rfl;exact J;exact J)|(apply Af;exact J;all_goals (intro hc;try simp only [hcS,reduceCtorEq] at hc;try (exfalso;omega))))
   all_goals (try (exfalso;omega))
   have hle0:Le h h10:=QL
   have has':=has'.le (hle.trans hle10)
   refine Bj (X:=Nat×List Int×Option Addr×Nat×Ro) (fun y=>y.1≤s.asn.n∧Le h10 y.2.2.2.2∧y.2.1=O2 (x.sh.asn.take y.1)) (fun y=>s.asn.n-y.1)
    (fun y=>[(10,.int .i64 y.1),(8,.slice y.2.2.1 y.2.1.length y.2.2.2.1),(7,.slice A4 out.length c4),(6,ptrV b6),(3,ptrV b3),(0,.slice A n c)])
    (fun y=>[OwnS 3 1 (.slice y.2.2.1 y.2.1.length y.2.2.2.1) y.2.1.length (y.2.1.flatMap encI),Blk b6 84 (encSc (s,x)),Blk b3 35 (gameC g)]) (fun y=>y.2.2.2.2) (0,[],some ⟨b8,0,none⟩,0,h10) ⟨by dsimp only;omega,Le.refl _,hz2.symm⟩ QS QT rfl ?_
   rintro ⟨k,ou,A5,c5,hh2⟩ ⟨hk,hle2,ho2⟩ ih
   dsimp only at hk hle2 ho2 ih ⊢
   have hol:ou.length≤k:=by
    rw [ho2]
    refine Nat.le_trans (hsl2 _) ?_
    rw [List.length_take];omega
   by_cases hkn:k<s.asn.n
   · have a1:=has'.addrD hkn
     have c1:CellsAt hh2 ((addrD s.asn.A).add (k * ty3.size)) (encI (x.sh.asn.getD k 0)):=(has'.cellsD 0 hkn).le hle2
     have et:=Cl 0 (xs:=x.sh.asn) hn2 hkn
     generalize x.sh.asn.getD k 0=p at *
     have e0:=hsn2 (x.sh.asn.take k) p
     rw [← et,← ho2] at e0
     have hof:=fun h' (hl:Le hh2 h')=>hof2 h' (hle0.trans (hle2.trans hl)) p
     cases hq:q2 p with
     | true =>
       rw [hq] at e0 hof
       rw [if_pos rfl] at e0
       clear hsn2 hsl2 hof2
       repeat' (first|apply Ac|apply Av|apply Ah|apply Ag|apply Aa|apply Ab|(apply Bf;(iterate 3 exact J);omega;exact J;exact J)|(apply Ad;(iterate 3 exact J))|(apply Ao;exact J;exact Bb rfl QM rfl;exact J;exact J)|(apply Be;exact J;exact J;(first|(apply Az (j:=k);(iterate 5 exact J);exact a1;(with_reducible exact J);omega)|(apply Aq;exact J;apply Bh;exact J;exact c1.le QL;exact J));exact QA)|(apply Ai;(iterate 3 exact J);(first|(apply At (enc:=encI) (n:=1) [p];(iterate 3 exact J);exact List.cons_ne_nil _ _;(iterate 4 exact J);exact fun _=>rfl;exact J;exact J;intro b5 h9 hle9 hs5;skip)|(apply Bg (enc:=encI) (xs:=ou);(iterate 7 exact J);exact hs5;exact fun _=>rfl;exact fun x=>Bv rfl;intro v1;exact QR;omega;exact J;intro A6 c6;skip)))|(apply Bd (n:=14) [0,1,2,3,4,5,6,7,8,9,10,11,12] [(0,0),(1,0),(2,0),(3,0),(4,0),(5,0),(6,0),(7,0),(8,0),(9,0),(10,0),(11,0),(12,1)];kernel_rfl)|(apply Ca;exact J;kernel_rfl;(iterate 3 exact J))|(apply Bo;exact J;kernel_rfl;(iterate 3 exact J);exact QM;exact J;exact J)|(apply Ce;exact J;kernel_rfl;exact J;exact J;(first|(apply Az (j:=k);(iterate 5 exact J);exact a1;(with_reducible exact J);omega)|(apply Aq;exact J;apply Bh;exact J;exact c1.le QL;exact J));exact QA)|(apply Bp;exact J;kernel_rfl;(iterate 3 exact J);(first|(apply Ba;exact J;exact has95;exact hof _ QL;rintro v5 h8 hle8 rfl;refine ⟨hle8,QN,?_⟩)))|(apply Bk;kernel_rfl;exact J)|(apply Af;exact J;all_goals (intro hc;try simp only [hcS,reduceCtorEq] at hc;try (exfalso;omega))))
       all_goals first
        | (exfalso;omega)
        | (exfalso;simp at hc;done)
        | (have h9':=ih (k+1,ou++[p],A6,c6,h9) ⟨by dsimp only;omega,hle2.trans (hle8.trans hle9),by dsimp only;rw [e0]⟩ (by dsimp only;omega)
           dsimp only at h9'
           rw [List.length_append] at h9'
           refine Bn QS QT (h9'))
     | false =>
       rw [hq] at e0 hof
       rw [if_neg (by simp)] at e0
       clear hsn2 hsl2 hof2
       repeat' (first|apply Ac|apply Av|apply Ah|apply Ag|apply Aa|apply Ab|(apply Bf;(iterate 3 exact J);omega;exact J;exact J)|(apply Ad;(iterate 3 exact J))|(apply Ao;exact J;exact Bb rfl QM rfl;exact J;exact J)|(apply Bd (n:=14) [0,1,2,3,4,5,6,7,8,9,10,11,12] [(0,0),(1,0),(2,0),(3,0),(4,0),(5,0),(6,0),(7,0),(8,0),(9,0),(10,0),(11,0),(12,1)];kernel_rfl)|(apply Ca;exact J;kernel_rfl;(iterate 3 exact J))|(apply Bo;exact J;kernel_rfl;(iterate 3 exact J);exact QM;exact J;exact J)|(apply Ce;exact J;kernel_rfl;exact J;exact J;(first|(apply Az (j:=k);(iterate 5 exact J);exact a1;(with_reducible exact J);omega)|(apply Aq;exact J;apply Bh;exact J;exact c1.le QL;exact J));exact QA)|(apply Bp;exact J;kernel_rfl;(iterate 3 exact J);(first|(apply Ba;exact J;exact has95;exact hof _ QL;rintro v5 h8 hle8 rfl;refine ⟨hle8,QN,?_⟩)))|(apply Bk;kernel_rfl;exact J)|(apply Af;exact J;all_goals (intro hc;try simp only [hcS,reduceCtorEq] at hc;try (exfalso;omega))))
       all_goals first
        | (exfalso;omega)
        | (exfalso;simp at hc;done)
        | (have h9':=ih (k+1,ou,A5,c5,h8) ⟨by dsimp only;omega,hle2.trans hle8,by dsimp only;rw [e0]⟩ (by dsimp only;omega)
           dsimp only at h9'
           refine Bn QS QT (h9'))
   · rw [List.take_of_length_le (by omega)] at ho2
     clear ih hsn2 hsl2 hof2
     rw [← ho2]
     refine Db (enc:=encI) (e:=3) (sz:=1) (n:=ou.length) (xs:=ou) (fun _=>rfl) rfl QK ?_
     intro A8 c8 h11 hle11 e8 hnc8 hs8
     cases e8
     repeat' (first|apply Ac|apply Aa|apply Ab|(apply Bl;exact J)|(apply Ad;(iterate 3 exact J))|(apply Ao;exact J;exact Bb rfl QM rfl;exact J;exact J)|(apply Af;exact J;all_goals (intro hc;try simp only [hcS,reduceCtorEq] at hc;try (exfalso;omega))))
     all_goals first
      | (exfalso;omega)
      | (exact Dp rfl rfl rfl rfl ⟨A4,c4,A5,c5,rfl,hs7.le (hle2.trans hle11),hs8⟩)
end Go.Hw
