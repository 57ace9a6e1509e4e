import Derived.Test.YtlnenhhbalpbpabGreatDoorSA
import Derived.Test.YtlnenhhbalpbpabGreatDoorRA
set_option linter.all false
set_option maxRecDepth 100000
set_option maxHeartbeats 4000000
namespace Go.Hw
open Go
attribute [local irreducible] GO GOl GDp Val Fn Res At Fx Blk By Dk Cl Has Yl Naa
open Go.Proofs (Tryz.prog)
def Ux (s:Fsh) (f:Fct):Prop:=s.cl.n≤60∧f.eRules.length≤100∧s.hs.n≤60∧s.asn.n≤60∧s.hc.n≤60∧s.ac.n≤60∧s.lo.n≤60
instance (s:Fsh) (f:Fct):Decidable (Ux s f):=by unfold Ux;infer_instance
theorem small_c (h:Ro)(s:Fsh)(f:Fct):Val Tryz.prog 15 #[Fc s f] h (.bool (decide (Ux s f))):=by
 refine Az (args:=[_]) ts_ok Go.Proofs.Tryz.func15 rfl rfl fun w0 X0 => ?_
 repeat' (first|apply Ac|apply Aa|apply Ab|(apply Aw;exact J;exact J)|(apply Ad;(iterate 3 exact J))|(apply Ai;exact J;exact Av rfl QM rfl;exact J;exact J)|(apply Af;(iterate 3 exact J);(first|(apply Ao;exact J;intro b;skip)))|(apply Ba;exact J;exact J;all_goals (intro hc;try simp only [hcS,reduceCtorEq] at hc;try (exfalso;omega))))
 all_goals (first|(apply Bb;(iterate 3 exact J)))
 all_goals (refine Dg ?_;(try simp only [A9a,Bra,leI_f] at *);unfold Ux;first|omega|(simp only [Bool.false_eq_true,false_iff];omega))
theorem fewF_c (h:Ro)(A:Option Addr)(n c:Nat)(l:List (Fsh×Fct))(hx:Cc Bx 82 h A n l)(hn:n≤9223372036854775807)(most:Int):Val Tryz.prog 5 #[.slice A n c,.int .i64 most] h (.bool (decide ((∀ p∈l,Ux p.1 p.2)∧(n:Int)≤most))):=by
 refine Az (args:=[_,_]) ts_ok Go.Proofs.Tryz.func5 rfl rfl fun w0 X0 => ?_
 have hlen:=hx.len
 repeat' (first|apply Ac|apply Ak|apply Aa|apply Ab|(apply Ad;(iterate 3 exact J)))
 refine Bt (X:=Nat) (fun k=>k≤n∧∀ p∈l.take k,Ux p.1 p.2) (fun k=>n-k) (fun k=>[(5,.int .i64 k),(0,.slice A n c),(1,.int .i64 most)]) (fun _=>[]) (fun _=>h) 0 ⟨by omega,by simp⟩ QS QT rfl ?_
 rintro k ⟨hk,hI⟩ ih
 by_cases hkn:k<n
 · have a1:=hx.addrD hkn
   have c1:=hx.cellsD p0 hkn
   have ht1:=Fq p0 hlen hkn
   have hm:=mem7 p0 (show k<l.length by omega)
   generalize l.getD k p0=p at *
   have hs:=small_c h p.1 p.2
   by_cases hp:Ux p.1 p.2
   · rw [decide_eq_true hp] at hs
     repeat' (first|apply Ac|apply Au|apply Ap|apply Ak|apply Aa|apply Ab|(apply Bg;(iterate 3 exact J);omega;exact J;exact J)|(apply Ad;(iterate 3 exact J))|(apply Bd;exact J;exact J;(first|(apply Be (j:=k);(iterate 5 exact J);exact a1;(with_reducible exact J);omega)|(apply Ar;exact J;exact Bh rfl c1 rfl));exact QA)|(apply Af;(iterate 3 exact J);(first|(apply Aq;exact J;exact has15;exact hs;skip)))|(apply Aj;exact J;all_goals (intro hc;try simp only [hcS,reduceCtorEq] at hc;try (exfalso;omega))))
     all_goals
      have h3:=ih (k+1) ⟨by omega,by
       rw [ht1];intro q hq
       rw [List.mem_append,List.mem_singleton] at hq
       rcases hq with hq|rfl
       · exact hI q hq
       · exact hp⟩ (by omega)
      refine Bw QS QT (h3)
   · rw [decide_eq_false hp] at hs
     repeat' (first|apply Ac|apply Au|apply Ak|apply Aa|apply Ab|(apply Ad;(iterate 3 exact J))|(apply Bd;exact J;exact J;(first|(apply Be (j:=k);(iterate 5 exact J);exact a1;(with_reducible exact J);omega)|(apply Ar;exact J;exact Bh rfl c1 rfl));exact QA)|(apply Af;(iterate 3 exact J);(first|(apply Aq;exact J;exact has15;exact hs;skip)))|(apply Aj;exact J;all_goals (intro hc;try simp only [hcS,reduceCtorEq] at hc;try (exfalso;omega)))|(apply Bb;(iterate 3 exact J)))
     all_goals (rw [decide_eq_false];rintro ⟨h1,_⟩;exact hp (h1 p hm))
 · rw [List.take_of_length_le (by omega)] at hI
   repeat' (first|apply Ac|apply Aa|apply Ab|(apply Bn;exact J)|(apply Ad;(iterate 3 exact J))|(apply Aj;exact J;all_goals (intro hc;try simp only [hcS,reduceCtorEq] at hc;try (exfalso;omega)))|(apply Bb;(iterate 3 exact J)))
   all_goals (refine Dg ?_;rw [Bra];exact ⟨fun h=>⟨hI,h⟩,fun h=>h.2⟩)
def Ara (l:List (Fsh×Fct)):List Fct:=l.map (·.2)
theorem Zn:∀ (ws:List (Fsh×Fct)) (p:Pr),(∀ x∈ws,x.2.kind=3∧(x.2.sh.ref=0∨x.2.sh.ref=1)) →
  D8a (ws.foldl Hd p).1=((Ara ws).filter fun f=>decide (f.sh.ref=0)).foldl Qn (D8a p.1)∧D8a (ws.foldl Hd p).2=((Ara ws).filter fun f=>decide (f.sh.ref=1)).foldl Qn (D8a p.2)
 | [],p,_=>⟨rfl,rfl⟩
 | x::ws,p,hw=>by
   obtain ⟨hk,hr⟩:=hw x List.mem_cons_self
   obtain ⟨ih1,ih2⟩:=Zn ws (Hd p x) (fun y hy=>hw y (List.mem_cons_of_mem _ hy))
   have hc:Ara (x::ws)=x.2::Ara ws:=rfl
   have one:∀ y:Fsh×Fct,D8a (if y.2.kind=0∨Jv y.2 x.2<0 then x else y)=Qn (D8a y) x.2:=fun y=>by
    unfold D8a Qn
    by_cases h1:y.2.kind=0
    · simp [h1,hk]
    · by_cases h2:Jv y.2 x.2<0
      · simp [h1,h2,hk]
      · simp [h1,h2]
   rw [hc,List.filter_cons,List.filter_cons,List.foldl_cons,ih1,ih2]
   rcases hr with hr|hr
   · have e1:(Hd p x).1=if p.1.2.kind=0∨Jv p.1.2 x.2<0 then x else p.1:=by unfold Hd;rw [if_pos hr];split <;> rfl
     have e2:(Hd p x).2=p.2:=by unfold Hd;rw [if_pos hr];split <;> rfl
     rw [e1,e2,one,hr]
     exact ⟨rfl,rfl⟩
   · have hr0:¬ x.2.sh.ref=0:=by omega
     have e1:(Hd p x).1=p.1:=by unfold Hd;rw [if_neg hr0];split <;> rfl
     have e2:(Hd p x).2=if p.2.2.kind=0∨Jv p.2.2 x.2<0 then x else p.2:=by unfold Hd;rw [if_neg hr0];split <;> rfl
     rw [e1,e2,one,hr]
     exact ⟨rfl,rfl⟩
theorem D0a (g:Bl):∀ (vs:List (Fsh×Fct)) (m:List (Bl×Pr)),(Cv g (vs.foldl putP m)).getD pr0=(vs.filter fun x=>decide (x.2.sh.g=g)).foldl Hd ((Cv g m).getD pr0)
 | [],m=>rfl
 | x::vs,m=>by
   rw [List.foldl_cons,D0a g vs,List.filter_cons]
   unfold putP
   rw [To]
   by_cases h:x.2.sh.g=g
   · simp only [h,if_true,decide_true,Option.getD_some,List.foldl_cons]
   · simp only [h,if_false,decide_false,Bool.false_eq_true]
noncomputable def Tj (l:List (Fsh×Fct)) (g:Bl):List (Fsh×Fct):=(Do l).filter fun x=>decide (x.2.sh.g=g)
theorem prOf_eq (l:List (Fsh×Fct))(g:Bl):prOf l g=(Tj l g).foldl Hd pr0:=D0a g (Do l) []
open Classical in
theorem Lxa {l:List (Fsh×Fct)}{g:Bl}{x:Fsh×Fct}:x∈Tj l g↔x∈l∧x.2.kind=3∧Cg x.2∧x.2.sh.g=g:=by
 unfold Tj Do
 rw [List.mem_filter,List.mem_filter,decide_eq_true_eq,decide_eq_true_eq]
 exact ⟨fun ⟨⟨h1,h2,h3⟩,h4⟩=>⟨h1,h2,h3,h4⟩,fun ⟨h1,h2,h3,h4⟩=>⟨⟨h1,h2,h3⟩,h4⟩⟩
open Classical in
theorem Aba (l:List (Fsh×Fct))(g:Bl)(r:Int):(Ara (Tj l g)).filter (fun f=>decide (f.sh.ref=r))=selF (Ara l) g r:=by
 unfold Ara selF Tj Do
 rw [List.filter_map,List.filter_map,List.filter_filter,List.filter_filter]
 congr 1
 refine List.filter_congr fun x _ => ?_
 rw [Bool.eq_iff_iff]
 simp only [Function.comp_apply,Bool.and_eq_true,decide_eq_true_eq]
 unfold OfGR
 grind
theorem D1a (l:List (Fsh×Fct))(g:Bl):D8a (prOf l g).1=Sp (Ara l) g 0∧D8a (prOf l g).2=Sp (Ara l) g 1:=by
 have h:=Zn (Tj l g) pr0 fun x hx=>by
  obtain ⟨_,h2,h3,_⟩:=Lxa.1 hx
  exact ⟨h2,ref_of h3 h2⟩
 rw [Aba,Aba,← prOf_eq] at h
 exact h
theorem scoreP_eq (l:List (Fsh×Fct))(g:Bl):Jh (prOf l g)=Cm (Ara l) g:=by
 unfold Jh Cm
 rw [(D1a l g).1,(D1a l g).2]
end Go.Hw
namespace Go.Hw
open Go
attribute [local irreducible] GO GOl GDp Val Fn Res At Fx Blk By Dk Cl Has Yl Naa
open Go.Proofs (Tryz.prog)
theorem L7a {ok:Bl→Pr→Bool}{m:List (Bl×Pr)}{g:Bl}:g∈Hv ok m↔∃ p,(g,p)∈m∧ok g p=true:=by
 unfold Hv
 rw [List.mem_map]
 constructor
 · rintro ⟨q,hq,rfl⟩
   rw [List.mem_filter] at hq
   exact ⟨q.2,hq.1,hq.2⟩
 · rintro ⟨p,h1,h2⟩
   exact ⟨(g,p),List.mem_filter.2 ⟨h1,h2⟩,rfl⟩
theorem Ena {ok:Bl→Pr→Bool}{m:List (Bl×Pr)}(h:(m.map (·.1)).Nodup):(Hv ok m).Nodup:=by
 unfold Hv
 exact (List.filter_sublist.map _).nodup h
theorem gamesL_lt (l:List (Fsh×Fct))(s c:Int):(Np l s c).Pairwise LtG:=sortG_lt (Ena (D5a _))
open Classical in
theorem Aka {l:List (Fsh×Fct)}{g:Bl}{s c:Int}:g∈Np l s c↔g.s=s∧g.c=c∧∃ f∈Ara l,f.kind=3∧Cg f∧f.sh.g=g:=by
 unfold Np
 rw [sortG_mem,L7a]
 have hk:(∃ p,(g,p)∈Qe l)↔∃ f∈Ara l,f.kind=3∧Cg f∧f.sh.g=g:=by
  have h1:(∃ p,(g,p)∈Qe l)↔g∈(Gm (Do l)).map (·.1):=by
   rw [List.mem_map]
   exact ⟨fun ⟨p,h⟩=>⟨(g,p),h,rfl⟩,fun ⟨q,h,e⟩=>⟨q.2,by rw [← e];exact h⟩⟩
  rw [h1,Gxa]
  constructor
  · rintro ⟨x,h1,h2⟩
    unfold Do at h1
    rw [List.mem_filter,decide_eq_true_eq] at h1
    exact ⟨x.2,List.mem_map.2 ⟨x,h1.1,rfl⟩,h1.2.1,h1.2.2,h2⟩
  · rintro ⟨f,h1,h2,h3,h4⟩
    obtain ⟨x,h5,rfl⟩:=List.mem_map.1 h1
    refine ⟨x,?_,h4⟩
    unfold Do
    rw [List.mem_filter,decide_eq_true_eq]
    exact ⟨h5,h2,h3⟩
 constructor
 · rintro ⟨p,h1,h2⟩
   rw [decide_eq_true_eq] at h2
   exact ⟨h2.1,h2.2,hk.1 ⟨p,h1⟩⟩
 · rintro ⟨h1,h2,h3⟩
   obtain ⟨p,h4⟩:=hk.2 h3
   exact ⟨p,h4,by simp [h1,h2]⟩
def g9:Bl:=⟨0,0,1,2⟩
theorem Bda (h:Ro)(hG:Kg h)(A:Option Addr)(n c:Nat)(l:List (Fsh×Fct))(hx:Co h A n l)(g:Bl):Res Tryz.prog 61 #[.slice A n c,Fr g] h (fun u h'=>∃ s,u=Me s (Cm (Ara l) g)∧Vl h' s (Cm (Ara l) g).sh∧Iea (Cm (Ara l) g).sh):=by
 refine (scoreOf_c h hG A n c l hx g).mono ?_
 rintro v h' hl rfl
 have:=scoreP_at (prOf_at hx g)
 rw [scoreP_eq] at *
 exact ⟨_,rfl,this.1.le hl,this.2⟩
theorem Co.nil (h:Ro):Co h none 0 []:=⟨Cc.nil,fun p hp=>absurd hp (by simp),by omega⟩
end Go.Hw
