import Derived.Test.YtlnenhhbalpbpaaGreatDoorRB
import Derived.Test.YtlnenhhbalpbpaaGreatDoorSB
set_option linter.all false
set_option maxRecDepth 100000
set_option maxHeartbeats 8000000
namespace Go.Hw
open Go
attribute [local irreducible] GO GOl GDp Val Fn Res Ab Du Blk Bd Cd Bf Has Yl Cra
open Go.Proofs.Tryz (prog)
def OfP (g:Ak) (r:Int) (p:Fsh×Fct):Prop:=p.2.kind=3∧p.2.sh.g=g∧p.2.sh.ref=r
instance (g:Ak) (r:Int) (p:Fsh×Fct):Decidable (OfP g r p):=by unfold OfP;infer_instance
def Ke (l:List (Fsh×Fct)) (g:Ak) (r:Int):Option (Fsh×Fct):=(l.filter fun p=>decide (OfP g r p)).getLast?
theorem K8a (l:List (Fsh×Fct))(p:Fsh×Fct)(g:Ak)(r:Int):Ke (l++[p]) g r=if OfP g r p then some p else Ke l g r:=by
 unfold Ke
 rw [List.filter_append]
 split
 · rename_i h;simp [h]
 · rename_i h;simp [h]
open Classical in
theorem K9a {l:List (Fsh×Fct)}{L:List Fct}{g:Ak}{r:Int}(h32:Mk L)(hl:fcs l=Ba L):(Ke l g r).map (·.2)=Gr L g r:=by
 obtain ⟨q1,q2⟩:=Bx L h32
 have e1:(Ke l g r).map (·.2)=(selF (Ba L) g r).getLast?:=by
  unfold Ke selF
  rw [← List.getLast?_map,← hl]
  congr 1
  unfold fcs
  rw [List.filter_map]
  congr 1
  refine List.filter_congr fun p hp => ?_
  have ho:Bm p.2:=((q2 p.2).1 (hl ▸ List.mem_map.2 ⟨p,hp,rfl⟩)).2
  show decide (OfP g r p)=decide (OfGR g r p.2)
  rw [decide_eq_decide]
  unfold OfP OfGR
  exact ⟨fun ⟨a,b,c⟩=>⟨a,ho,b,c⟩,fun ⟨a,_,b,c⟩=>⟨a,b,c⟩⟩
 rw [e1]
 have hs:Iu (selF (Ba L) g r):=C3a q1 _
 refine (Lha hs).uniq (Pp h32) fun x => ?_
 rw [Ju,Ju,q2]
 exact ⟨fun ⟨a,b⟩=>⟨a.1,b⟩,fun ⟨a,b⟩=>⟨⟨a,b.2.1⟩,b⟩⟩
theorem lastP_mem {l:List (Fsh×Fct)}{g:Ak}{r:Int}{p:Fsh×Fct}(h:Ke l g r=some p):p∈l:=by
 unfold Ke at h
 exact (List.mem_filter.1 (List.mem_of_getLast? h)).1
def oP (o:Option (Fsh×Fct)):Fsh×Fct:=o.getD p0
theorem oP_best {l:List (Fsh×Fct)}{L:List Fct}{g:Ak}{r:Int}(h32:Mk L)(hl:fcs l=Ba L):(oP (Ke l g r)).2=Hba L g r∧((Ke l g r).isSome=decide (Gr L g r≠none)):=by
 have:=K9a (g:=g) (r:=r) h32 hl
 unfold Hba oP
 rw [← this]
 cases Ke l g r with
 | none=>exact ⟨rfl,rfl⟩
 | some p=>exact ⟨rfl,rfl⟩
theorem D0a (h:Ro)(A:Option Addr)(n c:Nat)(l:List (Fsh×Fct))(hx:Au h A n l)(hn:n≤65536)(g:Ak)(r:Int):Res prog 68 #[.slice A n c,De g,.int .i64 r] h (fun u h'=>∃ s,u=.tuple #[Kq s (Hba (Oa l) g r).sh,.int .i64 (Hba (Oa l) g r).day,.bool (decide (Gr (Oa l) g r≠none))]∧Kj h' s (Hba (Oa l) g r).sh∧Tu (Hba (Oa l) g r).sh):=by
 refine QXR Proofs.Tryz.func68 fun w0 X0=>?_
 have h32:Mk (fcs l):=Ta hx.fat
 repeat' (first|refine QFs ?_|(refine QB ?_;intro b)|(refine QG ?_;first|(refine QDz ?_;rintro w1 h1 hle1 ⟨A3,k3,c3,l3,rfl,hL⟩))|fail)
 rename_i b4 b6
 generalize b=b10
 refine Ai (X:=Nat×Ro) (fun x=>x.1≤k3∧Le h1 x.2) (fun x=>k3-x.1)
  (fun x=>[(13,.int .i64 x.1),(12,.bool (Ke (l3.take x.1) g r).isSome),(11,.int .i64 (oP (Ke (l3.take x.1) g r)).2.day),(10,.pointer (some ⟨b10,0,none⟩)),(9,.slice A3 k3 c3),(6,.pointer (some ⟨b6,0,none⟩)),(4,.pointer (some ⟨b4,0,none⟩)),(2,.int .i64 r)])
  (fun x=>[Blk b10 47 (Mn (oP (Ke (l3.take x.1) g r)).1 (oP (Ke (l3.take x.1) g r)).2.sh),Blk b6 47 (Mn Ga Fd),Blk b4 24 (Cx g)]) (fun x=>x.2) (0,h1) ⟨by dsimp only;omega,Le.refl _⟩ QS QT rfl ?_
 rintro ⟨i,hh⟩ ⟨hi,hle⟩ ih
 dsimp only at hi hle ih ⊢
 have hlen3:=hL.2.1.row.len
 have hk6:=hL.2.1.small
 by_cases hik:i<k3
 · have a1:=hL.2.1.row.addrD hik
   have cc:Ab hh ((addrD A3).add (i * Ara.size)) (Aq (l3.getD i p0)):=(hL.2.1.row.cellsD p0 hik).le hle
   have et:=Cb p0 hlen3 hik
   generalize l3.getD i p0=q at *
   have hsn:=K8a (l3.take i) q g r
   rw [← et] at hsn
   obtain ⟨o,ho⟩:∃ o,o=Ke (l3.take i) g r:=⟨_,rfl⟩
   rw [← ho] at hsn ⊢
   by_cases hP:OfP g r q
   · rw [if_pos hP] at hsn
     obtain ⟨p1,p2,p3⟩:=hP
     repeat' (first|refine QFs ?_|(apply Af;exact J;exact J;(first|exact QAg|exact QAb);exact QA)|(apply Ad (n:=8) [0,1,2,3,4,5,6,7,8,9,10,11,12,13,14,15,16,17,18,19,20,21,22,23,24,25] [(0,0),(1,0),(2,0),(3,0),(4,0),(5,0),(6,0),(7,0),(8,0),(9,0),(10,0),(11,0),(12,0),(13,0),(14,0),(15,0),(16,0),(17,0),(18,0),(19,0),(20,0),(21,0),(22,0),(23,0),(24,0),(25,0)];kernel_rfl)|(apply Bk;exact J;kernel_rfl;exact J;exact J;(first|exact QA0|exact QAg|exact QAb);exact QA)|(apply Bq;(iterate 5 exact J);all_goals (intro hc;try simp only [hcS,reduceCtorEq] at hc;try omega))|(refine QH ?_ ?_<;>intro hc<;>try omega)|fail)
     all_goals first
      | (exfalso;omega)
      | contradiction
      | (have h3:=ih (i+1,hh) ⟨by dsimp only;omega,hle⟩ QAh
         dsimp only at h3
         rw [hsn] at h3
         refine Aj QS QT (h3))
   · rw [if_neg hP] at hsn
     have hP2:¬ (q.2.kind=3∧q.2.sh.g=g∧q.2.sh.ref=r):=hP
     repeat' (first|refine QFs ?_|(apply Af;exact J;exact J;(first|exact QAg|exact QAb);exact QA)|(apply Ad (n:=8) [0,1,2,3,4,5,6,7,8,9,10,11,12,13,14,15,16,17,18,19,20,21,22,23,24,25] [(0,0),(1,0),(2,0),(3,0),(4,0),(5,0),(6,0),(7,0),(8,0),(9,0),(10,0),(11,0),(12,0),(13,0),(14,0),(15,0),(16,0),(17,0),(18,0),(19,0),(20,0),(21,0),(22,0),(23,0),(24,0),(25,0)];kernel_rfl)|(apply Bk;exact J;kernel_rfl;exact J;exact J;(first|exact QA0|exact QAg|exact QAb);exact QA)|(apply Bq;(iterate 5 exact J);all_goals (intro hc;try simp only [hcS,reduceCtorEq] at hc;try omega))|(refine QH ?_ ?_<;>intro hc<;>try omega)|fail)
     all_goals first
      | (exfalso;omega)
      | contradiction
      | (exfalso;exact hP2 ⟨by assumption,by assumption,by assumption⟩)
      | (have h3:=ih (i+1,hh) ⟨by dsimp only;omega,hle⟩ QAh
         dsimp only at h3
         rw [hsn] at h3
         refine Aj QS QT (h3))
 · rw [List.take_of_length_le QAd]
   clear ih
   have e9:=oP_best (g:=g) (r:=r) h32 hL.2.2
   have hsat:Kj hh (oP (Ke l3 g r)).1 (oP (Ke l3 g r)).2.sh∧Tu (oP (Ke l3 g r)).2.sh:=by
    unfold oP
    cases ho:Ke l3 g r with
    | none=>exact ⟨Kj.nil _,Tu.nil⟩
    | some p=>have hg:=(hL.2.1.good p (lastP_mem ho));exact ⟨(hg.1.le hle).sh,hg.2.1.1⟩
   rw [e9.1] at hsat
   obtain ⟨s9,hs9⟩:∃ s,s=(oP (Ke l3 g r)).1:=⟨_,rfl⟩
   rw [e9.1,e9.2,← hs9]
   rw [← hs9] at hsat
   repeat' (first|refine QFs ?_|(refine QH ?_ ?_<;>intro hc<;>try omega)|fail)
   exact Ni rfl rfl rfl QM rfl rfl rfl rfl ⟨s9,rfl,hsat.1,hsat.2⟩
theorem scoreO_eq (a b:Option Fct):Mo a b=if a≠none∧b≠none then (if Hh (a.getD Ef).sh (b.getD Ef).sh then ⟨2,(a.getD Ef).sh,max (a.getD Ef).day (b.getD Ef).day⟩ else ⟨3,Fd,max (a.getD Ef).day (b.getD Ef).day⟩) else if a≠none then ⟨1,(a.getD Ef).sh,(a.getD Ef).day⟩ else if b≠none then ⟨1,(b.getD Ef).sh,(b.getD Ef).day⟩ else Ee:=by
 cases a <;> cases b <;> simp [Mo]
theorem Aua (h:Ro)(A:Option Addr)(n c:Nat)(l:List (Fsh×Fct))(hx:Au h A n l)(hn:n≤65536)(g:Ak):Res prog 31 #[.slice A n c,De g] h (fun u h'=>∃ s,u=Jv s (Bj (Oa l) g)∧Kj h' s (Bj (Oa l) g).sh∧Tu (Bj (Oa l) g).sh):=by
 refine QXR Proofs.Tryz.func31 fun w0 X0=>?_
 have hsc:=scoreO_eq (Gr (Oa l) g 0) (Gr (Oa l) g 1)
 have k0:=fun h' (hl:Le h h')=>D0a h' A n c l (hx.le hl) hn g 0
 have k1:=fun h' (hl:Le h h')=>D0a h' A n c l (hx.le hl) hn g 1
 unfold Bj
 unfold Hba at k0 k1
 generalize Gr (Oa l) g 0=a at *
 generalize Gr (Oa l) g 1=b at *
 rw [hsc]
 clear hsc
 obtain ⟨x,hx0⟩:∃ x,x=a.getD Ef:=⟨_,rfl⟩
 obtain ⟨y,hy0⟩:∃ y,y=b.getD Ef:=⟨_,rfl⟩
 rw [← hx0,← hy0]
 rw [← hx0] at k0
 rw [← hy0] at k1
 clear hx0 hy0
 by_cases ha:a≠none
 · rw [decide_eq_true ha] at k0
   by_cases hb:b≠none
   · rw [decide_eq_true hb] at k1
     rw [if_pos ⟨ha,hb⟩]
     by_cases hS:Hh x.sh y.sh
     · rw [if_pos hS]
       repeat' (first|refine QFs ?_|(refine QB ?_;intro b)|(refine QG ?_;first|(refine QAx ?_;rintro w1 h1 hle1 ⟨s1,rfl,hs1,hm1⟩)|(refine QAy ?_;rintro w2 h2 hle2 ⟨s2,rfl,hs2,hm2⟩)|(apply Aa;exact J;exact has69;exact (by have:=C8a _ s1 x.sh (hs1.le QAa) hm1 s2 y.sh hs2 hm2;rwa [decide_eq_true hS] at this)))|(refine QH ?_ ?_<;>intro hc<;>try omega)|fail)
       all_goals first
        | (exact Bw rfl rfl rfl QM rfl rfl ⟨s1,rfl,hs1.le QAa,hm1⟩)
        | (exfalso;simp at *;done)
     · rw [if_neg hS]
       repeat' (first|refine QFs ?_|(refine QB ?_;intro b)|(refine QG ?_;first|(refine QAx ?_;rintro w1 h1 hle1 ⟨s1,rfl,hs1,hm1⟩)|(refine QAy ?_;rintro w2 h2 hle2 ⟨s2,rfl,hs2,hm2⟩)|(apply Aa;exact J;exact has69;exact (by have:=C8a _ s1 x.sh (hs1.le QAa) hm1 s2 y.sh hs2 hm2;rwa [decide_eq_false hS] at this)))|(refine QH ?_ ?_<;>intro hc<;>try omega)|fail)
       all_goals first
        | (exact Bw rfl rfl rfl QM rfl rfl ⟨Ga,rfl,Kj.nil _,Tu.nil⟩)
        | (exfalso;simp at *;done)
   · rw [decide_eq_false hb] at k1
     rw [if_neg (fun w=>hb w.2),if_pos ha]
     repeat' (first|refine QFs ?_|(refine QB ?_;intro b)|(refine QG ?_;first|(refine QAx ?_;rintro w1 h1 hle1 ⟨s1,rfl,hs1,hm1⟩)|(refine QAy ?_;rintro w2 h2 hle2 ⟨s2,rfl,hs2,hm2⟩))|(refine QH ?_ ?_<;>intro hc<;>try omega)|fail)
     all_goals first
      | (exact Bw rfl rfl rfl QM rfl rfl ⟨s1,rfl,hs1.le QAa,hm1⟩)
      | (exfalso;simp at *;done)
 · rw [decide_eq_false ha] at k0
   by_cases hb:b≠none
   · rw [decide_eq_true hb] at k1
     rw [if_neg (fun w=>ha w.1),if_neg ha,if_pos hb]
     repeat' (first|refine QFs ?_|(refine QB ?_;intro b)|(refine QG ?_;first|(refine QAx ?_;rintro w1 h1 hle1 ⟨s1,rfl,hs1,hm1⟩)|(refine QAy ?_;rintro w2 h2 hle2 ⟨s2,rfl,hs2,hm2⟩))|(refine QH ?_ ?_<;>intro hc<;>try omega)|fail)
     all_goals first
      | (exact Bw rfl rfl rfl QM rfl rfl ⟨s2,rfl,hs2.le QAa,hm2⟩)
      | (exfalso;simp at *;done)
   · rw [decide_eq_false hb] at k1
     rw [if_neg (fun w=>ha w.1),if_neg ha,if_neg hb]
     repeat' (first|refine QFs ?_|(refine QB ?_;intro b)|(refine QG ?_;first|(refine QAx ?_;rintro w1 h1 hle1 ⟨s1,rfl,hs1,hm1⟩)|(refine QAy ?_;rintro w2 h2 hle2 ⟨s2,rfl,hs2,hm2⟩))|(refine QH ?_ ?_<;>intro hc<;>try omega)|fail)
     all_goals first
      | (exact Bw rfl rfl rfl QM rfl rfl ⟨Ga,rfl,Kj.nil _,Tu.nil⟩)
      | (exfalso;simp at *;done)
end Go.Hw
namespace Go.Hw
open Go
attribute [local irreducible] GO GOl GDp Val Fn Res Ab Du Blk Bd Cd Bf Has Yl Cra
open Go.Proofs.Tryz (prog)
def Ok (g:Ak):List Ak→List Ak
 | []=>[g]
 | y::r=>if y=g then y::r else if LtG g y then g::y::r else y::Ok g r
theorem D7a {g:Ak}:∀ {L:List Ak} {R:List Ak},(∃ x∈L,¬ LtG x g)→Ok g (L++R)=Ok g L++R
 | [],R,⟨x,hx,_⟩=>by simp at hx
 | z::r,R,⟨x,hx,hn⟩=>by
   show Ok g (z::(r++R))=Ok g (z::r)++R
   unfold Ok
   by_cases h1:z=g
   · rw [if_pos h1,if_pos h1];rfl
   · rw [if_neg h1,if_neg h1]
     by_cases h2:LtG g z
     · rw [if_pos h2,if_pos h2];rfl
     · rw [if_neg h2,if_neg h2]
       have h3:LtG z g:=by
        rcases LtG.tri z g with h|h|h
        · exact h
        · exact absurd h h1
        · exact absurd h h2
       have:∃ y∈r,¬ LtG y g:=by
        rcases List.mem_cons.1 hx with e|e
        · subst e;exact absurd h3 hn
        · exact ⟨x,e,hn⟩
       rw [D7a this];rfl
theorem Qt {g:Ak}:∀ {L:List Ak} {R:List Ak},(∀ x∈L,LtG x g)→Ok g (L++R)=L++Ok g R
 | [],R,_=>rfl
 | z::r,R,h=>by
   have hz:=h z List.mem_cons_self
   show Ok g (z::(r++R))=z::(r++Ok g R)
   conv=>lhs;unfold Ok
   rw [if_neg (fun e=>by subst e;exact LtG.irrefl _ hz),if_neg (fun e=>LtG.irrefl _ (e.trans hz)),Qt (fun x hx=>h x (List.mem_cons_of_mem _ hx))]
theorem Bca {g x:Ak}:∀ {l:List Ak},x∈Ok g l↔x=g∨x∈l
 | []=>by simp [Ok]
 | y::r=>by
   unfold Ok
   split
   · rename_i h;subst h
     exact ⟨.inr,fun h=>h.elim (fun e=>by subst e;exact List.mem_cons_self) id⟩
   · split
     · exact List.mem_cons
     · rw [List.mem_cons,Bca,List.mem_cons]
       constructor
       · rintro (h|h|h)
         · exact .inr (.inl h)
         · exact .inl h
         · exact .inr (.inr h)
       · rintro (h|h|h)
         · exact .inr (.inl h)
         · exact .inl h
         · exact .inr (.inr h)
theorem insG_lt {g:Ak}:∀ {l:List Ak},l.Pairwise LtG→(Ok g l).Pairwise LtG
 | [],_=>by simp [Ok]
 | y::r,h=>by
   have h0:=h
   rw [List.pairwise_cons] at h
   unfold Ok
   split
   · exact h0
   · rename_i h1
     split
     · rename_i h2
       rw [List.pairwise_cons]
       refine ⟨fun z hz => ?_,h0⟩
       rcases List.mem_cons.1 hz with e|e
       · subst e;exact h2
       · exact h2.trans (h.1 z e)
     · rename_i h2
       rw [List.pairwise_cons]
       refine ⟨fun z hz => ?_,insG_lt h.2⟩
       rcases Bca.1 hz with e|e
       · subst e
         rcases LtG.tri y z with h|h|h
         · exact h
         · exact absurd h h1
         · exact absurd h h2
       · exact h.1 z e
theorem Ia (g:Ak):(Cx g).length=4:=rfl
theorem Wl:∀ g,∀ u∈Cx g,u.oneCell'=true:=fun g=>Bh rfl
theorem Baa (h:Ro)(a b:Ak):Val prog 346 #[De a,De b] h (.bool (decide (LtG a b))):=by
 refine QXV Proofs.Tryz.func346 fun w0 X0=>?_
 repeat' (first|refine QF ?_|(refine QB ?_;intro b)|(refine QH ?_ ?_<;>intro hc<;>try omega)|fail)
 all_goals (first|(apply Ac;(iterate 3 exact J)))
 all_goals (refine Bg ?_;(try simp only [ltI_t,ltI_f,Ib,eqI_f] at *);unfold LtG;omega)
theorem withG_c (h:Ro)(A:Option Addr)(n c:Nat)(l:List Ak)(hx:Ar Cx 4 h A n l)(hn:n≤1000000)(g:Ak):Res prog 328 #[.slice A n c,De g] h (fun u h'=>∃ A' c',u=.slice A' (Ok g l).length c'∧Ar Cx 4 h' A' (Ok g l).length (Ok g l)):=by
 refine QXR Proofs.Tryz.func328 fun w0 X0=>?_
 have hlen:=hx.len
 repeat' (first|refine QF ?_|(refine QB ?_;intro b)|(refine QG ?_;first|(refine QAj ?_;intro b1))|fail)
 generalize b=b0
 refine Ai (X:=Nat×Bool×Nat×List Ak×Option Addr×Nat×Ro) (fun x=>x.1≤n∧x.2.2.2.1.length=x.2.2.1∧x.2.2.1≤x.1+1∧Le h x.2.2.2.2.2.2∧(x.2.1=true→(∃ z∈l.take x.1,¬ LtG z g)∧x.2.2.2.1=Ok g (l.take x.1))∧(x.2.1=false→(∀ z∈l.take x.1,LtG z g)∧x.2.2.2.1=l.take x.1)) (fun x=>n-x.1)
  (fun x=>[(7,.int .i64 x.1),(6,.bool x.2.1),(5,.slice x.2.2.2.2.1 x.2.2.1 x.2.2.2.2.2.1),(3,.pointer (some ⟨b0,0,none⟩)),(0,.slice A n c)])
  (fun x=>[Bd 24 4 (.slice x.2.2.2.2.1 x.2.2.1 x.2.2.2.2.2.1) x.2.2.1 (x.2.2.2.1.flatMap Cx),Blk b0 24 (Cx g)]) (fun x=>x.2.2.2.2.2.2) (0,false,0,[],some ⟨b1,0,none⟩,0,h) ⟨by dsimp only;omega,rfl,by dsimp only;omega,Le.refl _,(fun e=>by cases e),fun _=>⟨fun z hz=>by simp at hz,rfl⟩⟩ QS QT rfl ?_
 rintro ⟨i,d,m,o,A1,c1,hh⟩ ⟨hi,hm,hmi,hle,hd1,hd2⟩ ih
 dsimp only at hi hm hmi hle hd1 hd2 ih ⊢
 by_cases hin:i<n
 · have a1:=hx.addrD hin
   have cc:Ab h ((addrD A).add (i * ty24.size)) (Cx (l.getD i Ol)):=hx.cellsD Ol hin
   have et:=Cb Ol hlen hin
   generalize l.getD i Ol=y at *
   cases d with
   | true =>
     obtain ⟨q1,q2⟩:=hd1 rfl
     have e1:o++[y]=Ok g (l.take (i+1)):=by rw [et,D7a q1,q2]
     have q3:∃ z∈l.take (i+1),¬ LtG z g:=by obtain ⟨z,hz,hz2⟩:=q1;exact ⟨z,by rw [et];exact List.mem_append_left _ hz,hz2⟩
     repeat' (first|refine QF ?_|(apply Af;exact J;exact J;(first|exact QAg|exact QAi);exact QA)|(refine QG ?_;first|(refine QAr ?_;intro bz2 hz2 hlez2 hs2)|(refine QAp ?_;intro A2 c2))|(apply Ad (n:=6) [0,1,2,3,4,5] [(0,0),(1,0),(2,0),(3,0),(4,0),(5,0)];kernel_rfl)|(apply Ad (n:=8) [0,1,2,3,4,5,6,7,8,9] [(0,0),(1,0),(2,0),(3,0),(4,0),(5,1),(6,0),(7,0),(8,0),(9,0)];kernel_rfl)|(apply Bk;exact J;kernel_rfl;exact J;exact J;(first|exact QA0|exact QAg|exact QAi);exact QA)|(apply Ao;exact J;kernel_rfl;(iterate 3 exact J);(first|(apply Aa;exact J;exact I8a;exact Baa _ g y;refine ⟨Le.refl _,QN,?_⟩)))|(apply Bq;(iterate 5 exact J);all_goals (intro hc;try simp only [hcS,reduceCtorEq] at hc;try omega))|(refine QH ?_ ?_<;>intro hc<;>try omega)|fail)
     all_goals (try (exfalso;omega))
     all_goals (try contradiction)
     all_goals
      have h3:=ih (i+1,true,m+1,o++[y],A2,c2,hz2) ⟨by dsimp only;omega,by simp [hm],by dsimp only;omega,hle.trans hlez2,fun _=>⟨q3,e1⟩,fun e=>by cases e⟩ QAh
      dsimp only at h3
      refine Aj QS QT (h3)
   | false =>
     obtain ⟨q1,q2⟩:=hd2 rfl
     by_cases hyg:y=g
     · subst hyg
       have e1:o++[y]=Ok y (l.take (i+1)):=by rw [et,Qt q1,q2];unfold Ok;rw [if_pos rfl]
       have q3:∃ z∈l.take (i+1),¬ LtG z y:=⟨y,by rw [et];simp,LtG.irrefl _⟩
       repeat' (first|refine QF ?_|(apply Af;exact J;exact J;(first|exact QAg|exact QAi);exact QA)|(refine QG ?_;first|(refine QAr ?_;intro bz2 hz2 hlez2 hs2)|(refine QAp ?_;intro A2 c2))|(apply Ad (n:=6) [0,1,2,3,4,5] [(0,0),(1,0),(2,0),(3,0),(4,0),(5,0)];kernel_rfl)|(apply Ad (n:=8) [0,1,2,3,4,5,6,7,8,9] [(0,0),(1,0),(2,0),(3,0),(4,0),(5,1),(6,0),(7,0),(8,0),(9,0)];kernel_rfl)|(apply Bk;exact J;kernel_rfl;exact J;exact J;(first|exact QA0|exact QAg|exact QAi);exact QA)|(apply Ao;exact J;kernel_rfl;(iterate 3 exact J);(first|(apply Aa;exact J;exact I8a;exact Baa _ y y;refine ⟨Le.refl _,QN,?_⟩)))|(apply Bq;(iterate 5 exact J);all_goals (intro hc;try simp only [hcS,reduceCtorEq] at hc;try omega))|(refine QH ?_ ?_<;>intro hc<;>try omega)|fail)
       all_goals (try (exfalso;omega))
       all_goals (try contradiction)
       all_goals
        have h3:=ih (i+1,true,m+1,o++[y],A2,c2,hz2) ⟨by dsimp only;omega,by simp [hm],by dsimp only;omega,hle.trans hlez2,fun _=>⟨q3,e1⟩,fun e=>by cases e⟩ QAh
        dsimp only at h3
        refine Aj QS QT (h3)
     · by_cases hlt:LtG g y
       · have hmi2:m=i:=by rw [← hm,q2,List.length_take];omega
         have e1:o++[g]++[y]=Ok g (l.take (i+1)):=by rw [et,Qt q1,q2];unfold Ok;rw [if_neg hyg,if_pos hlt,List.append_assoc];rfl
         have q3:∃ z∈l.take (i+1),¬ LtG z g:=⟨y,by rw [et];simp,fun w=>LtG.irrefl _ (w.trans hlt)⟩
         repeat' (first|refine QF ?_|(apply Af;exact J;exact J;(first|exact QAg|exact QAi);exact QA)|(refine QG ?_;first|(refine QEh ?_;intro bz2 hz2 hlez2 hs2)|(refine QCg ?_;intro A2 c2)|(refine QAr ?_;intro bz3 hz3 hlez3 hs3)|(apply Ap (enc:=Cx) (n:=m+1) (xs:=o++[g]) (ys:=[y]);(iterate 7 exact J);exact (hs3.le QAa);exact Ia;exact Wl;intro v1;exact QR;omega;exact J;intro A3 c3))|(apply Ad (n:=6) [0,1,2,3,4,5] [(0,0),(1,0),(2,0),(3,0),(4,0),(5,0)];kernel_rfl)|(apply Ad (n:=8) [0,1,2,3,4,5,6,7,8,9] [(0,0),(1,0),(2,0),(3,0),(4,0),(5,1),(6,0),(7,0),(8,0),(9,0)];kernel_rfl)|(apply Bk;exact J;kernel_rfl;exact J;exact J;(first|exact QA0|exact QAg|exact QAi);exact QA)|(apply Ao;exact J;kernel_rfl;(iterate 3 exact J);(first|(apply Aa;exact J;exact I8a;exact Baa _ g y;refine ⟨Le.refl _,QN,?_⟩)))|(apply Bq;(iterate 5 exact J);all_goals (intro hc;try simp only [hcS,reduceCtorEq] at hc;try omega))|(refine QH ?_ ?_<;>intro hc<;>try omega)|fail)
         all_goals (try (exfalso;omega))
         all_goals (try contradiction)
         all_goals
          have h3:=ih (i+1,true,m+1+1,o++[g]++[y],A3,c3,hz3) ⟨by dsimp only;omega,by simp [hm],by dsimp only;omega,hle.trans QAa,fun _=>⟨q3,e1⟩,fun e=>by cases e⟩ QAh
          dsimp only at h3
          refine Aj QS QT (h3)
       · have hyl:LtG y g:=by
          rcases LtG.tri y g with h|h|h
          · exact h
          · exact absurd h hyg
          · exact absurd h hlt
         have e1:o++[y]=l.take (i+1):=by rw [et,q2]
         have q3:∀ z∈l.take (i+1),LtG z g:=fun z hz=>by
          rw [et,List.mem_append,List.mem_singleton] at hz
          rcases hz with hz|rfl
          · exact q1 z hz
          · exact hyl
         repeat' (first|refine QF ?_|(apply Af;exact J;exact J;(first|exact QAg|exact QAi);exact QA)|(refine QG ?_;first|(refine QAr ?_;intro bz2 hz2 hlez2 hs2)|(refine QAp ?_;intro A2 c2))|(apply Ad (n:=6) [0,1,2,3,4,5] [(0,0),(1,0),(2,0),(3,0),(4,0),(5,0)];kernel_rfl)|(apply Ad (n:=8) [0,1,2,3,4,5,6,7,8,9] [(0,0),(1,0),(2,0),(3,0),(4,0),(5,1),(6,0),(7,0),(8,0),(9,0)];kernel_rfl)|(apply Bk;exact J;kernel_rfl;exact J;exact J;(first|exact QA0|exact QAg|exact QAi);exact QA)|(apply Ao;exact J;kernel_rfl;(iterate 3 exact J);(first|(apply Aa;exact J;exact I8a;exact Baa _ g y;refine ⟨Le.refl _,QN,?_⟩)))|(apply Bq;(iterate 5 exact J);all_goals (intro hc;try simp only [hcS,reduceCtorEq] at hc;try omega))|(refine QH ?_ ?_<;>intro hc<;>try omega)|fail)
         all_goals (try (exfalso;omega))
         all_goals (try contradiction)
         all_goals
          have h3:=ih (i+1,false,m+1,o++[y],A2,c2,hz2) ⟨by dsimp only;omega,by simp [hm],by dsimp only;omega,hle.trans hlez2,(fun e=>by cases e),fun _=>⟨q3,e1⟩⟩ QAh
          dsimp only at h3
          refine Aj QS QT (h3)
 · rw [List.take_of_length_le QAd] at hd1 hd2
   clear ih
   cases d with
   | true =>
     have e1:=(hd1 rfl).2
     repeat' (first|refine QF ?_|(refine QH ?_ ?_<;>intro hc<;>try omega)|fail)
     all_goals (try (exfalso;omega))
     all_goals
      refine Nj (enc:=Cx) (xs:=o) Ia hm QK ?_
      intro A9 c9 h9 hle9 e9 hs9
      injection e9 with e91 _ e93
      subst e91;subst e93
      refine Ay rfl rfl rfl ?_
      rw [← e1,hm]
      exact ⟨_,_,rfl,hs9⟩
   | false =>
     obtain ⟨q1,q2⟩:=hd2 rfl
     have e1:o++[g]=Ok g l:=by
      have:=Qt (R:=[]) q1
      rw [List.append_nil] at this
      rw [this,q2];rfl
     repeat' (first|refine QF ?_|(refine QG ?_;first|(refine QEh ?_;intro bz2 hz2 hlez2 hs2)|(refine QCg ?_;intro A2 c2))|(refine QH ?_ ?_<;>intro hc<;>try omega)|fail)
     all_goals (try (exfalso;omega))
     all_goals
      refine Nj (enc:=Cx) (xs:=o++[g]) (n:=m+1) Ia (by simp [hm]) QK ?_
      intro A9 c9 h9 hle9 e9 hs9
      injection e9 with e91 _ e93
      subst e91;subst e93
      refine Ay rfl rfl rfl ?_
      have e8:(Ok g l).length=m+1:=by rw [← e1];simp [hm]
      rw [e8,← e1]
      exact ⟨_,_,rfl,hs9⟩
end Go.Hw
