import Derived.Test.YtgbamiehiokacaaGreatDoorKR11
import Derived.Test.YtgbamiehiokacaaGreatDoorSB
set_option linter.all false
set_option maxRecDepth 100000
set_option maxHeartbeats 8000000
namespace Go.Hw
open Go
attribute [local irreducible] GO GOl GDp Val Fn Res CellsAt ValE Blk OwnS MapA OwnPf Has Yl RngA
open Go.Proofs (Tryz.prog)
def OfP (g:FGame) (r:Int) (p:Fsh×Fct):Prop:=p.2.kind=3∧p.2.sh.g=g∧p.2.sh.ref=r
instance (g:FGame) (r:Int) (p:Fsh×Fct):Decidable (OfP g r p):=by unfold OfP;infer_instance
def lastP (l:List (Fsh×Fct)) (g:FGame) (r:Int):Option (Fsh×Fct):=(l.filter fun p=>decide (OfP g r p)).getLast?
theorem B0a (l:List (Fsh×Fct))(p:Fsh×Fct)(g:FGame)(r:Int):lastP (l++[p]) g r=if OfP g r p then some p else lastP l g r:=by
 unfold lastP
 rw [List.filter_append]
 split
 · rename_i h;simp [h]
 · rename_i h;simp [h]
open Classical in
theorem B1a {l:List (Fsh×Fct)}{L:List Fct}{g:FGame}{r:Int}(h32:In32 L)(hl:fcs l=canonL L):(lastP l g r).map (·.2)=bestF L g r:=by
 obtain ⟨q1,q2⟩:=Cp L h32
 have e1:(lastP l g r).map (·.2)=(selF (canonL L) g r).getLast?:=by
  unfold lastP selF
  rw [← List.getLast?_map,← hl]
  congr 1
  unfold fcs
  rw [List.filter_map]
  congr 1
  refine List.filter_congr fun p hp => ?_
  have ho:FctOk p.2:=((q2 p.2).1 (hl ▸ List.mem_map.2 ⟨p,hp,rfl⟩)).2
  show decide (OfP g r p)=decide (OfGR g r p.2)
  rw [decide_eq_decide]
  unfold OfP OfGR
  exact ⟨fun ⟨a,b,c⟩=>⟨a,ho,b,c⟩,fun ⟨a,_,b,c⟩=>⟨a,b,c⟩⟩
 rw [e1]
 have hs:SortF (selF (canonL L) g r):=Tj q1 _
 refine (B9a hs).uniq (Ir h32) fun x => ?_
 rw [Fx,Fx,q2]
 exact ⟨fun ⟨a,b⟩=>⟨a.1,b⟩,fun ⟨a,b⟩=>⟨⟨a,b.2.1⟩,b⟩⟩
theorem lastP_mem {l:List (Fsh×Fct)}{g:FGame}{r:Int}{p:Fsh×Fct}(h:lastP l g r=some p):p∈l:=by
 unfold lastP at h
 exact (List.mem_filter.1 (List.mem_of_getLast? h)).1
def oP (o:Option (Fsh×Fct)):Fsh×Fct:=o.getD p0
theorem oP_best {l:List (Fsh×Fct)}{L:List Fct}{g:FGame}{r:Int}(h32:In32 L)(hl:fcs l=canonL L):(oP (lastP l g r)).2=bestD L g r∧((lastP l g r).isSome=decide (bestF L g r≠none)):=by
 have:=B1a (g:=g) (r:=r) h32 hl
 unfold bestD oP
 rw [← this]
 cases lastP l g r with
 | none=>exact ⟨rfl,rfl⟩
 | some p=>exact ⟨rfl,rfl⟩
theorem Uh (h:Ro)(A:Option Addr)(n c:Nat)(l:List (Fsh×Fct))(hx:FactsAt h A n l)(hn:n≤65536)(g:FGame)(r:Int):Res Tryz.prog 169 #[.slice A n c,gameV g,.int .i64 r] h (fun u h'=>∃ s,u=.tuple #[sheetV s (bestD (cont l) g r).sh,.int .i64 (bestD (cont l) g r).day,.bool (decide (bestF (cont l) g r≠none))]∧ShAt h' s (bestD (cont l) g r).sh∧ShSm (bestD (cont l) g r).sh):=by
 refine Bi (args:=[_,_,_]) ts_ok Go.Proofs.Tryz.func169 rfl rfl fun w0 X0 => ?_
 have h32:In32 (fcs l):=Kz hx.fat
 repeat' (first|apply Ac|apply Ag|apply Aa|apply Ab|(apply Ad;(iterate 3 exact J))|(apply Ai;(iterate 3 exact J);(first|(apply Aj;(iterate 3 exact J);exact QR;(iterate 3 exact J);skip)|(apply Ar;exact J;intro b;skip)|(apply Ap;exact J;intro b;skip)|(apply Ba;exact J;exact has56;exact Jx _ A n c l (hx.le QL) hn;rintro w1 h1 hle1 ⟨A3,k3,c3,l3,rfl,hL⟩;skip))))
 rename_i b4 b6
 generalize b=b10
 refine Bj (X:=Nat×Ro) (fun x=>x.1≤k3∧Le h1 x.2) (fun x=>k3-x.1)
  (fun x=>[(13,.int .i64 x.1),(12,.bool (lastP (l3.take x.1) g r).isSome),(11,.int .i64 (oP (lastP (l3.take x.1) g r)).2.day),(10,.pointer (some ⟨b10,0,none⟩)),(9,.slice A3 k3 c3),(6,.pointer (some ⟨b6,0,none⟩)),(4,.pointer (some ⟨b4,0,none⟩)),(2,.int .i64 r)])
  (fun x=>[Blk b10 40 (sheetC (oP (lastP (l3.take x.1) g r)).1 (oP (lastP (l3.take x.1) g r)).2.sh),Blk b6 40 (sheetC fsh0 sheet0),Blk b4 35 (gameC g)]) (fun x=>x.2) (0,h1) ⟨by dsimp only;omega,Le.refl _⟩ QS QT rfl ?_
 rintro ⟨i,hh⟩ ⟨hi,hle⟩ ih
 dsimp only at hi hle ih ⊢
 have hlen3:=hL.2.1.row.len
 have hk6:=hL.2.1.small
 by_cases hik:i<k3
 · have a1:=hL.2.1.row.addrD hik
   have cc:CellsAt hh ((addrD A3).add (i * ty54.size)) (encF82 (l3.getD i p0)):=(hL.2.1.row.cellsD p0 hik).le hle
   have et:=Cl p0 hlen3 hik
   generalize l3.getD i p0=q at *
   have hsn:=B0a (l3.take i) q g r
   rw [← et] at hsn
   obtain ⟨o,ho⟩:∃ o,o=lastP (l3.take i) g r:=⟨_,rfl⟩
   rw [← ho] at hsn ⊢
   by_cases hP:OfP g r q
   · rw [if_pos hP] at hsn
     obtain ⟨p1,p2,p3⟩:=hP
     repeat' (first|apply Ac|apply Av|apply Ah|apply Ag|apply Aa|apply Ab|(apply Bf;(iterate 3 exact J);omega;exact J;exact J)|(apply Ad;(iterate 3 exact J))|(apply Be;exact J;exact J;(first|(apply Az (j:=i);(iterate 5 exact J);exact a1;(with_reducible exact J);omega)|(apply Aq;exact J;first|exact Bh rfl (by assumption) rfl|exact Bz rfl (by assumption) rfl|exact By rfl (by assumption) rfl|exact Lv_roF3 rfl (by assumption) rfl));exact QA)|(apply Ai;(iterate 3 exact J);(first|(apply Aj;(iterate 3 exact J);exact QR;(iterate 3 exact J);skip)))|(apply Bd (n:=8) [0,1,2,3,4,5,6,7,8,9,10,11,12,13,14,15,16,17,18,19,20,21,22,23,24,25] [(0,0),(1,0),(2,0),(3,0),(4,0),(5,0),(6,0),(7,0),(8,0),(9,0),(10,0),(11,0),(12,0),(13,0),(14,0),(15,0),(16,0),(17,0),(18,0),(19,0),(20,0),(21,0),(22,0),(23,0),(24,0),(25,0)];kernel_rfl)|(apply Gw;exact J;kernel_rfl;exact J;exact J)|(apply Ca;exact J;kernel_rfl;(iterate 3 exact J))|(apply Bo;exact J;kernel_rfl;(iterate 3 exact J);exact QM;exact J;exact J)|(apply Ce;exact J;kernel_rfl;exact J;exact J;(first|(apply Da;exact J;exact J;exact Ev _ _;kernel_rfl;kernel_rfl)|(apply Az (j:=i);(iterate 5 exact J);exact a1;(with_reducible exact J);omega)|(apply Aq;exact J;first|exact Bh rfl (by assumption) rfl|exact Bz rfl (by assumption) rfl|exact By rfl (by assumption) rfl|exact Lv_roF3 rfl (by assumption) rfl));exact QA)|(apply Bk;kernel_rfl;exact J)|(apply Cf;(iterate 5 exact J);all_goals (intro hc;try simp only [hcS,reduceCtorEq] at hc;try (exfalso;omega)))|(apply Af;exact J;all_goals (intro hc;try simp only [hcS,reduceCtorEq] at hc;try (exfalso;omega))))
     all_goals first
      | (exfalso;omega)
      | contradiction
      | (have h3:=ih (i+1,hh) ⟨by dsimp only;omega,hle⟩ (by dsimp only;omega)
         dsimp only at h3
         rw [hsn] at h3
         refine Bn QS QT (h3))
   · rw [if_neg hP] at hsn
     have hP2:¬ (q.2.kind=3∧q.2.sh.g=g∧q.2.sh.ref=r):=hP
     repeat' (first|apply Ac|apply Av|apply Ah|apply Ag|apply Aa|apply Ab|(apply Bf;(iterate 3 exact J);omega;exact J;exact J)|(apply Ad;(iterate 3 exact J))|(apply Be;exact J;exact J;(first|(apply Az (j:=i);(iterate 5 exact J);exact a1;(with_reducible exact J);omega)|(apply Aq;exact J;first|exact Bh rfl (by assumption) rfl|exact Bz rfl (by assumption) rfl|exact By rfl (by assumption) rfl|exact Lv_roF3 rfl (by assumption) rfl));exact QA)|(apply Ai;(iterate 3 exact J);(first|(apply Aj;(iterate 3 exact J);exact QR;(iterate 3 exact J);skip)))|(apply Bd (n:=8) [0,1,2,3,4,5,6,7,8,9,10,11,12,13,14,15,16,17,18,19,20,21,22,23,24,25] [(0,0),(1,0),(2,0),(3,0),(4,0),(5,0),(6,0),(7,0),(8,0),(9,0),(10,0),(11,0),(12,0),(13,0),(14,0),(15,0),(16,0),(17,0),(18,0),(19,0),(20,0),(21,0),(22,0),(23,0),(24,0),(25,0)];kernel_rfl)|(apply Gw;exact J;kernel_rfl;exact J;exact J)|(apply Ca;exact J;kernel_rfl;(iterate 3 exact J))|(apply Bo;exact J;kernel_rfl;(iterate 3 exact J);exact QM;exact J;exact J)|(apply Ce;exact J;kernel_rfl;exact J;exact J;(first|(apply Da;exact J;exact J;exact Ev _ _;kernel_rfl;kernel_rfl)|(apply Az (j:=i);(iterate 5 exact J);exact a1;(with_reducible exact J);omega)|(apply Aq;exact J;first|exact Bh rfl (by assumption) rfl|exact Bz rfl (by assumption) rfl|exact By rfl (by assumption) rfl|exact Lv_roF3 rfl (by assumption) rfl));exact QA)|(apply Bk;kernel_rfl;exact J)|(apply Cf;(iterate 5 exact J);all_goals (intro hc;try simp only [hcS,reduceCtorEq] at hc;try (exfalso;omega)))|(apply Af;exact J;all_goals (intro hc;try simp only [hcS,reduceCtorEq] at hc;try (exfalso;omega))))
     all_goals first
      | (exfalso;omega)
      | contradiction
      | (exfalso;exact hP2 ⟨by assumption,by assumption,by assumption⟩)
      | (have h3:=ih (i+1,hh) ⟨by dsimp only;omega,hle⟩ (by dsimp only;omega)
         dsimp only at h3
         rw [hsn] at h3
         refine Bn QS QT (h3))
 · rw [List.take_of_length_le (by omega)]
   clear ih
   have e9:=oP_best (g:=g) (r:=r) h32 hL.2.2
   have hsat:ShAt hh (oP (lastP l3 g r)).1 (oP (lastP l3 g r)).2.sh∧ShSm (oP (lastP l3 g r)).2.sh:=by
    unfold oP
    cases ho:lastP l3 g r with
    | none=>exact ⟨ShAt.nil _,ShSm.nil⟩
    | some p=>have hg:=(hL.2.1.good p (lastP_mem ho));exact ⟨(hg.1.le hle).sh,hg.2.1.1⟩
   rw [e9.1] at hsat
   obtain ⟨s9,hs9⟩:∃ s,s=(oP (lastP l3 g r)).1:=⟨_,rfl⟩
   rw [e9.1,e9.2,← hs9]
   rw [← hs9] at hsat
   repeat' (first|apply Ac|apply Aa|apply Ab|(apply Bl;exact J)|(apply Ad;(iterate 3 exact J))|(apply Ao;exact J;exact Bb rfl QM rfl;exact J;exact J)|(apply Ai;(iterate 3 exact J);(first|(apply Aj;(iterate 3 exact J);exact QR;(iterate 3 exact J);skip)))|(apply Af;exact J;all_goals (intro hc;try simp only [hcS,reduceCtorEq] at hc;try (exfalso;omega))))
   exact GO_retRC3 rfl rfl rfl QM rfl rfl rfl rfl ⟨s9,rfl,hsat.1,hsat.2⟩
theorem scoreO_eq (a b:Option Fct):scoreO a b=if a≠none∧b≠none then (if SameSh (a.getD fct0).sh (b.getD fct0).sh then ⟨2,(a.getD fct0).sh,max (a.getD fct0).day (b.getD fct0).day⟩ else ⟨3,sheet0,max (a.getD fct0).day (b.getD fct0).day⟩) else if a≠none then ⟨1,(a.getD fct0).sh,(a.getD fct0).day⟩ else if b≠none then ⟨1,(b.getD fct0).sh,(b.getD fct0).day⟩ else score0:=by
 cases a <;> cases b <;> simp [scoreO]
theorem Zd (h:Ro)(A:Option Addr)(n c:Nat)(l:List (Fsh×Fct))(hx:FactsAt h A n l)(hn:n≤65536)(g:FGame):Res Tryz.prog 94 #[.slice A n c,gameV g] h (fun u h'=>∃ s,u=scoreV s (scoreF (cont l) g)∧ShAt h' s (scoreF (cont l) g).sh∧ShSm (scoreF (cont l) g).sh):=by
 refine Bi (args:=[_,_]) ts_ok Go.Proofs.Tryz.func94 rfl rfl fun w0 X0 => ?_
 have hsc:=scoreO_eq (bestF (cont l) g 0) (bestF (cont l) g 1)
 have k0:=fun h' (hl:Le h h')=>Uh h' A n c l (hx.le hl) hn g 0
 have k1:=fun h' (hl:Le h h')=>Uh h' A n c l (hx.le hl) hn g 1
 unfold scoreF
 unfold bestD at k0 k1
 generalize bestF (cont l) g 0=a at *
 generalize bestF (cont l) g 1=b at *
 rw [hsc]
 clear hsc
 obtain ⟨x,hx0⟩:∃ x,x=a.getD fct0:=⟨_,rfl⟩
 obtain ⟨y,hy0⟩:∃ y,y=b.getD fct0:=⟨_,rfl⟩
 rw [← hx0,← hy0]
 rw [← hx0] at k0
 rw [← hy0] at k1
 clear hx0 hy0
 by_cases ha:a≠none
 · rw [decide_eq_true ha] at k0
   by_cases hb:b≠none
   · rw [decide_eq_true hb] at k1
     rw [if_pos ⟨ha,hb⟩]
     by_cases hS:SameSh x.sh y.sh
     · rw [if_pos hS]
       repeat' (first|apply Ac|apply Ag|apply Aa|apply Ab|(apply Ad;(iterate 3 exact J))|(apply Ao;exact J;exact Bb rfl QM rfl;exact J;exact J)|(apply Ai;(iterate 3 exact J);(first|(apply Aj;(iterate 3 exact J);exact QR;(iterate 3 exact J);skip)|(apply Ar;exact J;intro b;skip)|(apply Ap;exact J;intro b;skip)|(apply Ba;exact J;exact Id;exact k0 _ QL;rintro w1 h1 hle1 ⟨s1,rfl,hs1,hm1⟩;skip)|(apply Ba;exact J;exact Id;exact k1 _ QL;rintro w2 h2 hle2 ⟨s2,rfl,hs2,hm2⟩;skip)|(apply Ak;exact J;exact has170;exact (by have:=To _ s1 x.sh (hs1.le QL) hm1 s2 y.sh hs2 hm2;rwa [decide_eq_true hS] at this);skip)))|(apply Af;exact J;all_goals (intro hc;try simp only [hcS,reduceCtorEq] at hc;try (exfalso;omega))))
       all_goals first
        | (exact Ci rfl rfl rfl QM rfl rfl ⟨s1,rfl,hs1.le QL,hm1⟩)
        | (exfalso;simp at *;done)
     · rw [if_neg hS]
       repeat' (first|apply Ac|apply Ag|apply Aa|apply Ab|(apply Ad;(iterate 3 exact J))|(apply Ao;exact J;exact Bb rfl QM rfl;exact J;exact J)|(apply Ai;(iterate 3 exact J);(first|(apply Aj;(iterate 3 exact J);exact QR;(iterate 3 exact J);skip)|(apply Ar;exact J;intro b;skip)|(apply Ap;exact J;intro b;skip)|(apply Ba;exact J;exact Id;exact k0 _ QL;rintro w1 h1 hle1 ⟨s1,rfl,hs1,hm1⟩;skip)|(apply Ba;exact J;exact Id;exact k1 _ QL;rintro w2 h2 hle2 ⟨s2,rfl,hs2,hm2⟩;skip)|(apply Ak;exact J;exact has170;exact (by have:=To _ s1 x.sh (hs1.le QL) hm1 s2 y.sh hs2 hm2;rwa [decide_eq_false hS] at this);skip)))|(apply Af;exact J;all_goals (intro hc;try simp only [hcS,reduceCtorEq] at hc;try (exfalso;omega))))
       all_goals first
        | (exact Ci rfl rfl rfl QM rfl rfl ⟨fsh0,rfl,ShAt.nil _,ShSm.nil⟩)
        | (exfalso;simp at *;done)
   · rw [decide_eq_false hb] at k1
     rw [if_neg (fun w=>hb w.2),if_pos ha]
     repeat' (first|apply Ac|apply Ag|apply Aa|apply Ab|(apply Au;exact J;exact J)|(apply Ad;(iterate 3 exact J))|(apply Ao;exact J;exact Bb rfl QM rfl;exact J;exact J)|(apply Ai;(iterate 3 exact J);(first|(apply Aj;(iterate 3 exact J);exact QR;(iterate 3 exact J);skip)|(apply Ar;exact J;intro b;skip)|(apply Ap;exact J;intro b;skip)|(apply Ba;exact J;exact Id;exact k0 _ QL;rintro w1 h1 hle1 ⟨s1,rfl,hs1,hm1⟩;skip)|(apply Ba;exact J;exact Id;exact k1 _ QL;rintro w2 h2 hle2 ⟨s2,rfl,hs2,hm2⟩;skip)))|(apply Af;exact J;all_goals (intro hc;try simp only [hcS,reduceCtorEq] at hc;try (exfalso;omega))))
     all_goals first
      | (exact Ci rfl rfl rfl QM rfl rfl ⟨s1,rfl,hs1.le QL,hm1⟩)
      | (exfalso;simp at *;done)
 · rw [decide_eq_false ha] at k0
   by_cases hb:b≠none
   · rw [decide_eq_true hb] at k1
     rw [if_neg (fun w=>ha w.1),if_neg ha,if_pos hb]
     repeat' (first|apply Ac|apply Ag|apply Aa|apply Ab|(apply Au;exact J;exact J)|(apply Ad;(iterate 3 exact J))|(apply Ao;exact J;exact Bb rfl QM rfl;exact J;exact J)|(apply Ai;(iterate 3 exact J);(first|(apply Aj;(iterate 3 exact J);exact QR;(iterate 3 exact J);skip)|(apply Ar;exact J;intro b;skip)|(apply Ap;exact J;intro b;skip)|(apply Ba;exact J;exact Id;exact k0 _ QL;rintro w1 h1 hle1 ⟨s1,rfl,hs1,hm1⟩;skip)|(apply Ba;exact J;exact Id;exact k1 _ QL;rintro w2 h2 hle2 ⟨s2,rfl,hs2,hm2⟩;skip)))|(apply Af;exact J;all_goals (intro hc;try simp only [hcS,reduceCtorEq] at hc;try (exfalso;omega))))
     all_goals first
      | (exact Ci rfl rfl rfl QM rfl rfl ⟨s2,rfl,hs2.le QL,hm2⟩)
      | (exfalso;simp at *;done)
   · rw [decide_eq_false hb] at k1
     rw [if_neg (fun w=>ha w.1),if_neg ha,if_neg hb]
     repeat' (first|apply Ac|apply Av|apply Ah|apply Ag|apply Aa|apply Ab|(apply Au;exact J;exact J)|(apply Ad;(iterate 3 exact J))|(apply Ao;exact J;exact Bb rfl QM rfl;exact J;exact J)|(apply Ai;(iterate 3 exact J);(first|(apply Aj;(iterate 3 exact J);exact QR;(iterate 3 exact J);skip)|(apply Ar;exact J;intro b;skip)|(apply Ap;exact J;intro b;skip)|(apply Ba;exact J;exact Id;exact k0 _ QL;rintro w1 h1 hle1 ⟨s1,rfl,hs1,hm1⟩;skip)|(apply Ba;exact J;exact Id;exact k1 _ QL;rintro w2 h2 hle2 ⟨s2,rfl,hs2,hm2⟩;skip)))|(apply Af;exact J;all_goals (intro hc;try simp only [hcS,reduceCtorEq] at hc;try (exfalso;omega))))
     all_goals first
      | (exact Ci rfl rfl rfl QM rfl rfl ⟨fsh0,rfl,ShAt.nil _,ShSm.nil⟩)
      | (exfalso;simp at *;done)
end Go.Hw
namespace Go.Hw
open Go
attribute [local irreducible] GO GOl GDp Val Fn Res CellsAt ValE Blk OwnS MapA OwnPf Has Yl RngA
open Go.Proofs (Tryz.prog)
def insG (g:FGame):List FGame→List FGame
 | []=>[g]
 | y::r=>if y=g then y::r else if LtG g y then g::y::r else y::insG g r
theorem Up {g:FGame}:∀ {L:List FGame} {R:List FGame},(∃ x∈L,¬ LtG x g)→insG g (L++R)=insG g L++R
 | [],R,⟨x,hx,_⟩=>by simp at hx
 | z::r,R,⟨x,hx,hn⟩=>by
   show insG g (z::(r++R))=insG g (z::r)++R
   unfold insG
   by_cases h1:z=g
   · rw [if_pos h1,if_pos h1];rfl
   · rw [if_neg h1,if_neg h1]
     by_cases h2:LtG g z
     · rw [if_pos h2,if_pos h2];rfl
     · rw [if_neg h2,if_neg h2]
       have h3:LtG z g:=by
        rcases LtG.tri z g with h|h|h
        · exact h
        · exact absurd h h1
        · exact absurd h h2
       have:∃ y∈r,¬ LtG y g:=by
        rcases List.mem_cons.1 hx with e|e
        · subst e;exact absurd h3 hn
        · exact ⟨x,e,hn⟩
       rw [Up this];rfl
theorem Jq {g:FGame}:∀ {L:List FGame} {R:List FGame},(∀ x∈L,LtG x g)→insG g (L++R)=L++insG g R
 | [],R,_=>rfl
 | z::r,R,h=>by
   have hz:=h z List.mem_cons_self
   show insG g (z::(r++R))=z::(r++insG g R)
   conv=>lhs;unfold insG
   rw [if_neg (fun e=>by subst e;exact LtG.irrefl _ hz),if_neg (fun e=>LtG.irrefl _ (e.trans hz)),Jq (fun x hx=>h x (List.mem_cons_of_mem _ hx))]
theorem Rm {g x:FGame}:∀ {l:List FGame},x∈insG g l↔x=g∨x∈l
 | []=>by simp [insG]
 | y::r=>by
   unfold insG
   split
   · rename_i h;subst h
     exact ⟨.inr,fun h=>h.elim (fun e=>by subst e;exact List.mem_cons_self) id⟩
   · split
     · exact List.mem_cons
     · rw [List.mem_cons,Rm,List.mem_cons]
       constructor
       · rintro (h|h|h)
         · exact .inr (.inl h)
         · exact .inl h
         · exact .inr (.inr h)
       · rintro (h|h|h)
         · exact .inr (.inl h)
         · exact .inl h
         · exact .inr (.inr h)
theorem insG_lt {g:FGame}:∀ {l:List FGame},l.Pairwise LtG→(insG g l).Pairwise LtG
 | [],_=>by simp [insG]
 | y::r,h=>by
   have h0:=h
   rw [List.pairwise_cons] at h
   unfold insG
   split
   · exact h0
   · rename_i h1
     split
     · rename_i h2
       rw [List.pairwise_cons]
       refine ⟨fun z hz => ?_,h0⟩
       rcases List.mem_cons.1 hz with e|e
       · subst e;exact h2
       · exact h2.trans (h.1 z e)
     · rename_i h2
       rw [List.pairwise_cons]
       refine ⟨fun z hz => ?_,insG_lt h.2⟩
       rcases Rm.1 hz with e|e
       · subst e
         rcases LtG.tri y z with h|h|h
         · exact h
         · exact absurd h h1
         · exact absurd h h2
       · exact h.1 z e
theorem Cv (g:FGame):(gameC g).length=4:=rfl
theorem Ft:∀ g,∀ u∈gameC g,u.oneCell'=true:=fun g=>Bv rfl
theorem Ri (h:Ro)(a b:FGame):Val Tryz.prog 361 #[gameV a,gameV b] h (.bool (decide (LtG a b))):=by
 refine Ay (args:=[_,_]) ts_ok Go.Proofs.Tryz.func361 rfl rfl fun w0 X0 => ?_
 repeat' (first|apply Ac|apply Av|apply Aa|apply Ab|(apply Ad;(iterate 3 exact J))|(apply Ao;exact J;exact Bb rfl QM rfl;exact J;exact J)|(apply Ai;(iterate 3 exact J);(first|(apply Ar;exact J;intro b;skip)))|(apply Af;exact J;all_goals (intro hc;try simp only [hcS,reduceCtorEq] at hc;try (exfalso;omega))))
 all_goals (first|(apply Aw;(iterate 3 exact J)))
 all_goals (refine Cb ?_;(try simp only [ltI_t,ltI_f,Ew,eqI_f] at *);unfold LtG;omega)
theorem withG_c (h:Ro)(A:Option Addr)(n c:Nat)(l:List FGame)(hx:SlOf gameC 4 h A n l)(hn:n≤1000000)(g:FGame):Res Tryz.prog 315 #[.slice A n c,gameV g] h (fun u h'=>∃ A' c',u=.slice A' (insG g l).length c'∧SlOf gameC 4 h' A' (insG g l).length (insG g l)):=by
 refine Bi (args:=[_,_]) ts_ok Go.Proofs.Tryz.func315 rfl rfl fun w0 X0 => ?_
 have hlen:=hx.len
 repeat' (first|apply Ac|apply Ag|apply Aa|apply Ab|(apply Ad;(iterate 3 exact J))|(apply Ai;(iterate 3 exact J);(first|(apply Ar;exact J;intro b;skip)|(apply Bq (n:=0);(iterate 3 exact J);exact List.cons_ne_nil _ _;(iterate 6 exact J);intro b1;skip))))
 generalize b=b0
 refine Bj (X:=Nat×Bool×Nat×List FGame×Option Addr×Nat×Ro) (fun x=>x.1≤n∧x.2.2.2.1.length=x.2.2.1∧x.2.2.1≤x.1+1∧Le h x.2.2.2.2.2.2∧(x.2.1=true→(∃ z∈l.take x.1,¬ LtG z g)∧x.2.2.2.1=insG g (l.take x.1))∧(x.2.1=false→(∀ z∈l.take x.1,LtG z g)∧x.2.2.2.1=l.take x.1)) (fun x=>n-x.1)
  (fun x=>[(7,.int .i64 x.1),(6,.bool x.2.1),(5,.slice x.2.2.2.2.1 x.2.2.1 x.2.2.2.2.2.1),(3,.pointer (some ⟨b0,0,none⟩)),(0,.slice A n c)])
  (fun x=>[OwnS 35 4 (.slice x.2.2.2.2.1 x.2.2.1 x.2.2.2.2.2.1) x.2.2.1 (x.2.2.2.1.flatMap gameC),Blk b0 35 (gameC g)]) (fun x=>x.2.2.2.2.2.2) (0,false,0,[],some ⟨b1,0,none⟩,0,h) ⟨by dsimp only;omega,rfl,by dsimp only;omega,Le.refl _,(fun e=>by cases e),fun _=>⟨fun z hz=>by simp at hz,rfl⟩⟩ QS QT rfl ?_
 rintro ⟨i,d,m,o,A1,c1,hh⟩ ⟨hi,hm,hmi,hle,hd1,hd2⟩ ih
 dsimp only at hi hm hmi hle hd1 hd2 ih ⊢
 by_cases hin:i<n
 · have a1:=hx.addrD hin
   have cc:CellsAt h ((addrD A).add (i * ty35.size)) (gameC (l.getD i game0)):=hx.cellsD game0 hin
   have et:=Cl game0 hlen hin
   generalize l.getD i game0=y at *
   cases d with
   | true =>
     obtain ⟨q1,q2⟩:=hd1 rfl
     have e1:o++[y]=insG g (l.take (i+1)):=by rw [et,Up q1,q2]
     have q3:∃ z∈l.take (i+1),¬ LtG z g:=by obtain ⟨z,hz,hz2⟩:=q1;exact ⟨z,by rw [et];exact List.mem_append_left _ hz,hz2⟩
     repeat' (first|apply Ac|apply Av|apply Ah|apply Ag|apply Aa|apply Ab|(apply Bf;(iterate 3 exact J);omega;exact J;exact J)|(apply Ad;(iterate 3 exact J))|(apply Be;exact J;exact J;(first|(apply Az (j:=i);(iterate 5 exact J);exact a1;(with_reducible exact J);omega)|(apply Aq;exact J;exact Bh rfl (cc.le QL) rfl));exact QA)|(apply Ai;(iterate 3 exact J);(first|(apply At (enc:=gameC) (n:=1) [y];(iterate 3 exact J);exact List.cons_ne_nil _ _;(iterate 4 exact J);exact Cv;exact J;exact J;intro bz2 hz2 hlez2 hs2;skip)|(apply Bg (enc:=gameC) (n:=m) (xs:=o) (ys:=[y]);(iterate 7 exact J);exact (hs2.le QL);exact Cv;exact Ft;intro v1;exact QR;omega;exact J;intro A2 c2;skip)))|(apply Bd (n:=6) [0,1,2,3,4,5] [(0,0),(1,0),(2,0),(3,0),(4,0),(5,0)];kernel_rfl)|(apply Bd (n:=8) [0,1,2,3,4,5,6,7,8,9] [(0,0),(1,0),(2,0),(3,0),(4,0),(5,1),(6,0),(7,0),(8,0),(9,0)];kernel_rfl)|(apply Gw;exact J;kernel_rfl;exact J;exact J)|(apply Ca;exact J;kernel_rfl;(iterate 3 exact J))|(apply Bo;exact J;kernel_rfl;(iterate 3 exact J);exact QM;exact J;exact J)|(apply Ce;exact J;kernel_rfl;exact J;exact J;(first|(apply Da;exact J;exact J;exact Ev _ _;kernel_rfl;kernel_rfl)|(apply Az (j:=i);(iterate 5 exact J);exact a1;(with_reducible exact J);omega)|(apply Aq;exact J;exact Bh rfl (cc.le QL) rfl));exact QA)|(apply Bp;exact J;kernel_rfl;(iterate 3 exact J);(first|(apply Ak;exact J;exact Ada;exact Ri _ g y;refine ⟨Le.refl _,QN,?_⟩)))|(apply Bk;kernel_rfl;exact J)|(apply Cf;(iterate 5 exact J);all_goals (intro hc;try simp only [hcS,reduceCtorEq] at hc;try (exfalso;omega)))|(apply Af;exact J;all_goals (intro hc;try simp only [hcS,reduceCtorEq] at hc;try (exfalso;omega))))
     all_goals (try (exfalso;omega))
     all_goals (try contradiction)
     all_goals
      have h3:=ih (i+1,true,m+1,o++[y],A2,c2,hz2) ⟨by dsimp only;omega,by simp [hm],by dsimp only;omega,hle.trans hlez2,fun _=>⟨q3,e1⟩,fun e=>by cases e⟩ (by dsimp only;omega)
      dsimp only at h3
      refine Bn QS QT (h3)
   | false =>
     obtain ⟨q1,q2⟩:=hd2 rfl
     by_cases hyg:y=g
     · subst hyg
       have e1:o++[y]=insG y (l.take (i+1)):=by rw [et,Jq q1,q2];unfold insG;rw [if_pos rfl]
       have q3:∃ z∈l.take (i+1),¬ LtG z y:=⟨y,by rw [et];simp,LtG.irrefl _⟩
       repeat' (first|apply Ac|apply Av|apply Ah|apply Ag|apply Aa|apply Ab|(apply Bf;(iterate 3 exact J);omega;exact J;exact J)|(apply Ad;(iterate 3 exact J))|(apply Ao;exact J;exact Bb rfl QM rfl;exact J;exact J)|(apply Be;exact J;exact J;(first|(apply Az (j:=i);(iterate 5 exact J);exact a1;(with_reducible exact J);omega)|(apply Aq;exact J;exact Bh rfl (cc.le QL) rfl));exact QA)|(apply Ai;(iterate 3 exact J);(first|(apply At (enc:=gameC) (n:=1) [y];(iterate 3 exact J);exact List.cons_ne_nil _ _;(iterate 4 exact J);exact Cv;exact J;exact J;intro bz2 hz2 hlez2 hs2;skip)|(apply Bg (enc:=gameC) (n:=m) (xs:=o) (ys:=[y]);(iterate 7 exact J);exact (hs2.le QL);exact Cv;exact Ft;intro v1;exact QR;omega;exact J;intro A2 c2;skip)))|(apply Bd (n:=6) [0,1,2,3,4,5] [(0,0),(1,0),(2,0),(3,0),(4,0),(5,0)];kernel_rfl)|(apply Bd (n:=8) [0,1,2,3,4,5,6,7,8,9] [(0,0),(1,0),(2,0),(3,0),(4,0),(5,1),(6,0),(7,0),(8,0),(9,0)];kernel_rfl)|(apply Gw;exact J;kernel_rfl;exact J;exact J)|(apply Ca;exact J;kernel_rfl;(iterate 3 exact J))|(apply Bo;exact J;kernel_rfl;(iterate 3 exact J);exact QM;exact J;exact J)|(apply Ce;exact J;kernel_rfl;exact J;exact J;(first|(apply Da;exact J;exact J;exact Ev _ _;kernel_rfl;kernel_rfl)|(apply Az (j:=i);(iterate 5 exact J);exact a1;(with_reducible exact J);omega)|(apply Aq;exact J;exact Bh rfl (cc.le QL) rfl));exact QA)|(apply Bp;exact J;kernel_rfl;(iterate 3 exact J);(first|(apply Ak;exact J;exact Ada;exact Ri _ y y;refine ⟨Le.refl _,QN,?_⟩)))|(apply Bk;kernel_rfl;exact J)|(apply Cf;(iterate 5 exact J);all_goals (intro hc;try simp only [hcS,reduceCtorEq] at hc;try (exfalso;omega)))|(apply Af;exact J;all_goals (intro hc;try simp only [hcS,reduceCtorEq] at hc;try (exfalso;omega))))
       all_goals (try (exfalso;omega))
       all_goals (try contradiction)
       all_goals
        have h3:=ih (i+1,true,m+1,o++[y],A2,c2,hz2) ⟨by dsimp only;omega,by simp [hm],by dsimp only;omega,hle.trans hlez2,fun _=>⟨q3,e1⟩,fun e=>by cases e⟩ (by dsimp only;omega)
        dsimp only at h3
        refine Bn QS QT (h3)
     · by_cases hlt:LtG g y
       · have hmi2:m=i:=by rw [← hm,q2,List.length_take];omega
         have e1:o++[g]++[y]=insG g (l.take (i+1)):=by rw [et,Jq q1,q2];unfold insG;rw [if_neg hyg,if_pos hlt,List.append_assoc];rfl
         have q3:∃ z∈l.take (i+1),¬ LtG z g:=⟨y,by rw [et];simp,fun w=>LtG.irrefl _ (w.trans hlt)⟩
         repeat' (first|apply Ac|apply Av|apply Ah|apply Ag|apply Aa|apply Ab|(apply Bf;(iterate 3 exact J);omega;exact J;exact J)|(apply Ad;(iterate 3 exact J))|(apply Ao;exact J;exact Bb rfl QM rfl;exact J;exact J)|(apply Be;exact J;exact J;(first|(apply Az (j:=i);(iterate 5 exact J);exact a1;(with_reducible exact J);omega)|(apply Aq;exact J;exact Bh rfl (cc.le QL) rfl));exact QA)|(apply Ai;(iterate 3 exact J);(first|(apply At (enc:=gameC) (n:=1) [g];(iterate 3 exact J);exact List.cons_ne_nil _ _;(iterate 4 exact J);exact Cv;exact J;exact J;intro bz2 hz2 hlez2 hs2;skip)|(apply Bg (enc:=gameC) (n:=m) (xs:=o) (ys:=[g]);(iterate 7 exact J);exact (hs2.le QL);exact Cv;exact Ft;intro v1;exact QR;omega;exact J;intro A2 c2;skip)|(apply At (enc:=gameC) (n:=1) [y];(iterate 3 exact J);exact List.cons_ne_nil _ _;(iterate 4 exact J);exact Cv;exact J;exact J;intro bz3 hz3 hlez3 hs3;skip)|(apply Bg (enc:=gameC) (n:=m+1) (xs:=o++[g]) (ys:=[y]);(iterate 7 exact J);exact (hs3.le QL);exact Cv;exact Ft;intro v1;exact QR;omega;exact J;intro A3 c3;skip)))|(apply Bd (n:=6) [0,1,2,3,4,5] [(0,0),(1,0),(2,0),(3,0),(4,0),(5,0)];kernel_rfl)|(apply Bd (n:=8) [0,1,2,3,4,5,6,7,8,9] [(0,0),(1,0),(2,0),(3,0),(4,0),(5,1),(6,0),(7,0),(8,0),(9,0)];kernel_rfl)|(apply Gw;exact J;kernel_rfl;exact J;exact J)|(apply Ca;exact J;kernel_rfl;(iterate 3 exact J))|(apply Bo;exact J;kernel_rfl;(iterate 3 exact J);exact QM;exact J;exact J)|(apply Ce;exact J;kernel_rfl;exact J;exact J;(first|(apply Da;exact J;exact J;exact Ev _ _;kernel_rfl;kernel_rfl)|(apply Az (j:=i);(iterate 5 exact J);exact a1;(with_reducible exact J);omega)|(apply Aq;exact J;exact Bh rfl (cc.le QL) rfl));exact QA)|(apply Bp;exact J;kernel_rfl;(iterate 3 exact J);(first|(apply Ak;exact J;exact Ada;exact Ri _ g y;refine ⟨Le.refl _,QN,?_⟩)))|(apply Bk;kernel_rfl;exact J)|(apply Cf;(iterate 5 exact J);all_goals (intro hc;try simp only [hcS,reduceCtorEq] at hc;try (exfalso;omega)))|(apply Af;exact J;all_goals (intro hc;try simp only [hcS,reduceCtorEq] at hc;try (exfalso;omega))))
         all_goals (try (exfalso;omega))
         all_goals (try contradiction)
         all_goals
          have h3:=ih (i+1,true,m+1+1,o++[g]++[y],A3,c3,hz3) ⟨by dsimp only;omega,by simp [hm],by dsimp only;omega,hle.trans QL,fun _=>⟨q3,e1⟩,fun e=>by cases e⟩ (by dsimp only;omega)
          dsimp only at h3
          refine Bn QS QT (h3)
       · have hyl:LtG y g:=by
          rcases LtG.tri y g with h|h|h
          · exact h
          · exact absurd h hyg
          · exact absurd h hlt
         have e1:o++[y]=l.take (i+1):=by rw [et,q2]
         have q3:∀ z∈l.take (i+1),LtG z g:=fun z hz=>by
          rw [et,List.mem_append,List.mem_singleton] at hz
          rcases hz with hz|rfl
          · exact q1 z hz
          · exact hyl
         repeat' (first|apply Ac|apply Av|apply Ah|apply Ag|apply Aa|apply Ab|(apply Bf;(iterate 3 exact J);omega;exact J;exact J)|(apply Ad;(iterate 3 exact J))|(apply Ao;exact J;exact Bb rfl QM rfl;exact J;exact J)|(apply Be;exact J;exact J;(first|(apply Az (j:=i);(iterate 5 exact J);exact a1;(with_reducible exact J);omega)|(apply Aq;exact J;exact Bh rfl (cc.le QL) rfl));exact QA)|(apply Ai;(iterate 3 exact J);(first|(apply At (enc:=gameC) (n:=1) [y];(iterate 3 exact J);exact List.cons_ne_nil _ _;(iterate 4 exact J);exact Cv;exact J;exact J;intro bz2 hz2 hlez2 hs2;skip)|(apply Bg (enc:=gameC) (n:=m) (xs:=o) (ys:=[y]);(iterate 7 exact J);exact (hs2.le QL);exact Cv;exact Ft;intro v1;exact QR;omega;exact J;intro A2 c2;skip)))|(apply Bd (n:=6) [0,1,2,3,4,5] [(0,0),(1,0),(2,0),(3,0),(4,0),(5,0)];kernel_rfl)|(apply Bd (n:=8) [0,1,2,3,4,5,6,7,8,9] [(0,0),(1,0),(2,0),(3,0),(4,0),(5,1),(6,0),(7,0),(8,0),(9,0)];kernel_rfl)|(apply Gw;exact J;kernel_rfl;exact J;exact J)|(apply Ca;exact J;kernel_rfl;(iterate 3 exact J))|(apply Bo;exact J;kernel_rfl;(iterate 3 exact J);exact QM;exact J;exact J)|(apply Ce;exact J;kernel_rfl;exact J;exact J;(first|(apply Da;exact J;exact J;exact Ev _ _;kernel_rfl;kernel_rfl)|(apply Az (j:=i);(iterate 5 exact J);exact a1;(with_reducible exact J);omega)|(apply Aq;exact J;exact Bh rfl (cc.le QL) rfl));exact QA)|(apply Bp;exact J;kernel_rfl;(iterate 3 exact J);(first|(apply Ak;exact J;exact Ada;exact Ri _ g y;refine ⟨Le.refl _,QN,?_⟩)))|(apply Bk;kernel_rfl;exact J)|(apply Cf;(iterate 5 exact J);all_goals (intro hc;try simp only [hcS,reduceCtorEq] at hc;try (exfalso;omega)))|(apply Af;exact J;all_goals (intro hc;try simp only [hcS,reduceCtorEq] at hc;try (exfalso;omega))))
         all_goals (try (exfalso;omega))
         all_goals (try contradiction)
         all_goals
          have h3:=ih (i+1,false,m+1,o++[y],A2,c2,hz2) ⟨by dsimp only;omega,by simp [hm],by dsimp only;omega,hle.trans hlez2,(fun e=>by cases e),fun _=>⟨q3,e1⟩⟩ (by dsimp only;omega)
          dsimp only at h3
          refine Bn QS QT (h3)
 · rw [List.take_of_length_le (by omega)] at hd1 hd2
   clear ih
   cases d with
   | true =>
     have e1:=(hd1 rfl).2
     repeat' (first|apply Ac|apply Av|apply Aa|apply Ab|(apply Bl;exact J)|(apply Ad;(iterate 3 exact J))|(apply Af;exact J;all_goals (intro hc;try simp only [hcS,reduceCtorEq] at hc;try (exfalso;omega))))
     all_goals (try (exfalso;omega))
     all_goals
      refine Hl (enc:=gameC) (xs:=o) Cv hm QK ?_
      intro A9 c9 h9 hle9 e9 hs9
      injection e9 with e91 _ e93
      subst e91;subst e93
      refine Bt rfl rfl rfl ?_
      rw [← e1,hm]
      exact ⟨_,_,rfl,hs9⟩
   | false =>
     obtain ⟨q1,q2⟩:=hd2 rfl
     have e1:o++[g]=insG g l:=by
      have:=Jq (R:=[]) q1
      rw [List.append_nil] at this
      rw [this,q2];rfl
     repeat' (first|apply Ac|apply Aa|apply Ab|(apply Bl;exact J)|(apply Ad;(iterate 3 exact J))|(apply Ao;exact J;exact Bb rfl QM rfl;exact J;exact J)|(apply Ai;(iterate 3 exact J);(first|(apply At (enc:=gameC) (n:=1) [g];(iterate 3 exact J);exact List.cons_ne_nil _ _;(iterate 4 exact J);exact Cv;exact J;exact J;intro bz2 hz2 hlez2 hs2;skip)|(apply Bg (enc:=gameC) (n:=m) (xs:=o) (ys:=[g]);(iterate 7 exact J);exact (hs2.le QL);exact Cv;exact Ft;intro v1;exact QR;omega;exact J;intro A2 c2;skip)))|(apply Af;exact J;all_goals (intro hc;try simp only [hcS,reduceCtorEq] at hc;try (exfalso;omega))))
     all_goals (try (exfalso;omega))
     all_goals
      refine Hl (enc:=gameC) (xs:=o++[g]) (n:=m+1) Cv (by simp [hm]) QK ?_
      intro A9 c9 h9 hle9 e9 hs9
      injection e9 with e91 _ e93
      subst e91;subst e93
      refine Bt rfl rfl rfl ?_
      have e8:(insG g l).length=m+1:=by rw [← e1];simp [hm]
      rw [e8,← e1]
      exact ⟨_,_,rfl,hs9⟩
end Go.Hw
