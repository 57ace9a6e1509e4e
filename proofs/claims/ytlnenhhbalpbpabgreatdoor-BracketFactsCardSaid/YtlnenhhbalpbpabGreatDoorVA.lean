import Derived.Test.YtlnenhhbalpbpabGreatDoorFC
import Derived.Test.YtlnenhhbalpbpabGreatDoorEB
import Derived.Test.YtlnenhhbalpbpabGreatDoorNA
import Derived.Test.YtlnenhhbalpbpabGreatDoorHE
import Derived.Test.YtlnenhhbalpbpabGreatDoorLSh
set_option linter.all false
namespace Go.Hw
open Go Go.Lib
structure Cf where
 b:Nat
 num:Int
 A:Option Addr
 c:Nat
 rs:List (Fsh×Fct)
 s:List Bool
instance:Inhabited Cf:=⟨⟨0,0,none,0,[],[]⟩⟩
def Ss (C:List Fct) (n:Int) (i:Nat):Prop:=∃ f∈C,f.kind=5∧f.aCase=n∧f.aInst=(i:Int)∧f.aSusp=true
structure Du (C:List (Fsh×Fct)) (fs:List Cf):Prop where
 nodup:(fs.map (·.num)).Nodup
 rs:∀ x∈fs,x.rs=C.filter fun p=>decide (Cr x.num p.2)
 len:∀ x∈fs,x.s.length=4
 sus:∀ x∈fs,∀ i,i<4→(x.s.getD i false=true↔Ss (fcs C) x.num i)
 ru:∀ p∈C,p.2.kind=4→∃ x∈fs,x.num=p.2.ru.case
 ap:∀ p∈C,p.2.kind=5→p.2.aSusp=true→∃ x∈fs,x.num=p.2.aCase
theorem Du.nil:Du [] []:=⟨by simp,by simp,by simp,by simp,by simp,by simp⟩
def B3a (b:Nat) (n:Int):Cf:=⟨b,n,none,0,[],[false,false,false,false]⟩
theorem Du.get {C:List (Fsh×Fct)}{fs:List Cf}(h:Du C fs){b:Nat}{n:Int}(hn:∀ x∈fs,x.num≠n):Du C (fs++[B3a b n]) where
 nodup:=by
  rw [List.map_append,List.nodup_append]
  refine ⟨h.nodup,by simp,fun a ha c hc => ?_⟩
  obtain ⟨x,hx,rfl⟩:=List.mem_map.1 ha
  rw [List.map_cons,List.map_nil,List.mem_singleton] at hc
  subst hc
  exact hn x hx
 rs x hx:=by
  rcases List.mem_append.1 hx with e|e
  · exact h.rs x e
  · rw [List.mem_singleton] at e;subst e
    symm
    show C.filter (fun p=>decide (Cr n p.2))=[]
    rw [List.filter_eq_nil_iff]
    intro p hp q
    have q:=of_decide_eq_true q
    obtain ⟨x,hx,e⟩:=h.ru p hp q.1
    exact hn x hx (e.trans q.2)
 len x hx:=by
  rcases List.mem_append.1 hx with e|e
  · exact h.len x e
  · rw [List.mem_singleton] at e;subst e;rfl
 sus x hx i hi:=by
  rcases List.mem_append.1 hx with e|e
  · exact h.sus x e i hi
  · rw [List.mem_singleton] at e;subst e
    constructor
    · intro q
      exfalso
      have:∀ i,i<4→([false,false,false,false].getD i false)=false:=by decide
      have q2:([false,false,false,false].getD i false)=true:=q
      rw [this i hi] at q2
      cases q2
    · rintro ⟨f,hf,h5,hc,_,hs⟩
      obtain ⟨p,hp,rfl⟩:=List.mem_map.1 hf
      obtain ⟨x,hx,e⟩:=h.ap p hp h5 hs
      exact absurd (e.trans hc) (hn x hx)
 ru p hp hk:=by
  obtain ⟨x,hx,e⟩:=h.ru p hp hk
  exact ⟨x,List.mem_append.2 (.inl hx),e⟩
 ap p hp hk hs:=by
  obtain ⟨x,hx,e⟩:=h.ap p hp hk hs
  exact ⟨x,List.mem_append.2 (.inl hx),e⟩
theorem Eba {pre post:List Cf}{x y:Cf}(h:((pre++x::post).map (·.num)).Nodup)(hy:y∈pre++post):y.num≠x.num:=by
 rw [List.map_append,List.map_cons,List.nodup_append,List.nodup_cons] at h
 obtain ⟨_,⟨h2,_⟩,h3⟩:=h
 rcases List.mem_append.1 hy with e|e
 · exact h3 _ (List.mem_map_of_mem e) _ (by simp)
 · exact fun q=>h2 (by rw [← q];exact List.mem_map_of_mem e)
theorem Lka {C:List Fct}{f:Fct}(hk:f.kind=4)(n:Int)(i:Nat):Ss (C++[f]) n i↔Ss C n i:=by
 constructor
 · rintro ⟨g,hg,h5,r⟩
   rcases List.mem_append.1 hg with e|e
   · exact ⟨g,e,h5,r⟩
   · rw [List.mem_singleton] at e;subst e;omega
 · rintro ⟨g,hg,r⟩
   exact ⟨g,List.mem_append.2 (.inl hg),r⟩
theorem Du.ruling {C:List (Fsh×Fct)}{pre post:List Cf}{x:Cf}(h:Du C (pre++x::post)){p:Fsh×Fct}(hk:p.2.kind=4)(hn:x.num=p.2.ru.case)(A:Option Addr)(c:Nat) :
  Du (C++[p]) (pre++⟨x.b,x.num,A,c,x.rs++[p],x.s⟩::post):=by
 have hmem:∀ y,y∈pre++(⟨x.b,x.num,A,c,x.rs++[p],x.s⟩:Cf)::post→y=⟨x.b,x.num,A,c,x.rs++[p],x.s⟩∨(y∈pre++post∧y∈pre++x::post):=fun y hy=>by
  rcases List.mem_append.1 hy with e|e
  · exact .inr ⟨List.mem_append.2 (.inl e),List.mem_append.2 (.inl e)⟩
  · rcases List.mem_cons.1 e with e|e
    · exact .inl e
    · exact .inr ⟨List.mem_append.2 (.inr e),List.mem_append.2 (.inr (List.mem_cons_of_mem _ e))⟩
 have hx:x∈pre++x::post:=by simp
 have hback:∀ n,(∃ y∈pre++x::post,y.num=n)→∃ y∈pre++(⟨x.b,x.num,A,c,x.rs++[p],x.s⟩:Cf)::post,y.num=n:=by
  rintro n ⟨y,hy,e⟩
  rcases List.mem_append.1 hy with q|q
  · exact ⟨y,List.mem_append.2 (.inl q),e⟩
  · rcases List.mem_cons.1 q with q|q
    · subst q;exact ⟨_,List.mem_append.2 (.inr List.mem_cons_self),e⟩
    · exact ⟨y,List.mem_append.2 (.inr (List.mem_cons_of_mem _ q)),e⟩
 constructor
 · have:=h.nodup
   rw [List.map_append,List.map_cons] at this ⊢
   exact this
 · intro y hy
   rw [List.filter_append]
   rcases hmem y hy with e|⟨e1,e2⟩
   · subst e
     show x.rs++[p]=_
     rw [h.rs x hx]
     have:Cr x.num p.2:=⟨hk,hn.symm⟩
     simp [this]
   · rw [h.rs y e2]
     have:¬ Cr y.num p.2:=fun q=>Eba h.nodup e1 (q.2.symm.trans hn.symm)
     simp [this]
 · intro y hy
   rcases hmem y hy with e|⟨e1,e2⟩
   · subst e;exact h.len x hx
   · exact h.len y e2
 · intro y hy i hi
   have hf:fcs (C++[p])=fcs C++[p.2]:=by simp [fcs]
   rw [hf,Lka hk]
   rcases hmem y hy with e|⟨e1,e2⟩
   · subst e;exact h.sus x hx i hi
   · exact h.sus y e2 i hi
 · intro q hq hk2
   rcases List.mem_append.1 hq with e|e
   · exact hback _ (h.ru q e hk2)
   · rw [List.mem_singleton] at e;subst e;exact hback _ ⟨x,hx,hn⟩
 · intro q hq hk2 hs
   rcases List.mem_append.1 hq with e|e
   · exact hback _ (h.ap q e hk2 hs)
   · rw [List.mem_singleton] at e;subst e;omega
theorem Zo {C:List Fct}{f:Fct}(n:Int)(i:Nat):Ss (C++[f]) n i↔Ss C n i∨(f.kind=5∧f.aCase=n∧f.aInst=(i:Int)∧f.aSusp=true):=by
 constructor
 · rintro ⟨g,hg,r⟩
   rcases List.mem_append.1 hg with e|e
   · exact .inl ⟨g,e,r⟩
   · rw [List.mem_singleton] at e;subst e;exact .inr r
 · rintro (⟨g,hg,r⟩|r)
   · exact ⟨g,List.mem_append.2 (.inl hg),r⟩
   · exact ⟨f,by simp,r⟩
theorem Du.appeal {C:List (Fsh×Fct)}{pre post:List Cf}{x:Cf}(h:Du C (pre++x::post)){p:Fsh×Fct}(hk:p.2.kind=5)(hs:p.2.aSusp=true)(hn:x.num=p.2.aCase){j:Nat}(hj:p.2.aInst=(j:Int))(hj4:j<4) :
  Du (C++[p]) (pre++⟨x.b,x.num,x.A,x.c,x.rs,x.s.set j true⟩::post):=by
 have hmem:∀ y,y∈pre++(⟨x.b,x.num,x.A,x.c,x.rs,x.s.set j true⟩:Cf)::post→y=⟨x.b,x.num,x.A,x.c,x.rs,x.s.set j true⟩∨(y∈pre++post∧y∈pre++x::post):=fun y hy=>by
  rcases List.mem_append.1 hy with e|e
  · exact .inr ⟨List.mem_append.2 (.inl e),List.mem_append.2 (.inl e)⟩
  · rcases List.mem_cons.1 e with e|e
    · exact .inl e
    · exact .inr ⟨List.mem_append.2 (.inr e),List.mem_append.2 (.inr (List.mem_cons_of_mem _ e))⟩
 have hx:x∈pre++x::post:=by simp
 have hback:∀ n,(∃ y∈pre++x::post,y.num=n)→∃ y∈pre++(⟨x.b,x.num,x.A,x.c,x.rs,x.s.set j true⟩:Cf)::post,y.num=n:=by
  rintro n ⟨y,hy,e⟩
  rcases List.mem_append.1 hy with q|q
  · exact ⟨y,List.mem_append.2 (.inl q),e⟩
  · rcases List.mem_cons.1 q with q|q
    · subst q;exact ⟨_,List.mem_append.2 (.inr List.mem_cons_self),e⟩
    · exact ⟨y,List.mem_append.2 (.inr (List.mem_cons_of_mem _ q)),e⟩
 have hno:∀ n,¬ Cr n p.2:=fun n q=>by have:=q.1;omega
 have hf:fcs (C++[p])=fcs C++[p.2]:=by simp [fcs]
 constructor
 · have:=h.nodup
   rw [List.map_append,List.map_cons] at this ⊢
   exact this
 · intro y hy
   rw [List.filter_append]
   have h9:[p].filter (fun p=>decide (Cr y.num p.2))=[]:=by simp [hno]
   rw [h9,List.append_nil]
   rcases hmem y hy with e|⟨e1,e2⟩
   · subst e
     exact h.rs x hx
   · exact h.rs y e2
 · intro y hy
   rcases hmem y hy with e|⟨e1,e2⟩
   · subst e
     show (x.s.set j true).length=4
     rw [List.length_set];exact h.len x hx
   · exact h.len y e2
 · intro y hy i hi
   rw [hf,Zo]
   rcases hmem y hy with e|⟨e1,e2⟩
   · subst e
     have hl:=h.len x hx
     show (x.s.set j true).getD i false=true↔Ss (fcs C) x.num i∨_
     rw [← h.sus x hx i hi]
     by_cases hij:j=i
     · subst hij
       rw [List.getD_eq_getElem?_getD,List.getElem?_set_self (by omega)]
       simp [hk,hs,hn,hj]
     · rw [List.getD_eq_getElem?_getD,List.getElem?_set_ne hij,← List.getD_eq_getElem?_getD]
       constructor
       · exact .inl
       · rintro (q|q)
         · exact q
         · exact absurd q.2.2.1 (by rw [hj];omega)
   · rw [h.sus y e2 i hi]
     constructor
     · exact .inl
     · rintro (q|q)
       · exact q
       · exact absurd (hn.trans q.2.1) fun e=>Eba h.nodup e1 e.symm
 · intro q hq hk2
   rcases List.mem_append.1 hq with e|e
   · exact hback _ (h.ru q e hk2)
   · rw [List.mem_singleton] at e;subst e;omega
 · intro q hq hk2 hs2
   rcases List.mem_append.1 hq with e|e
   · exact hback _ (h.ap q e hk2 hs2)
   · rw [List.mem_singleton] at e;subst e;exact hback _ ⟨x,hx,hn⟩
theorem Du.nop {C:List (Fsh×Fct)}{fs:List Cf}(h:Du C fs){p:Fsh×Fct}(hk:p.2.kind=5)(hs:p.2.aSusp=false):Du (C++[p]) fs:=by
 have hno:∀ n,¬ Cr n p.2:=fun n q=>by have:=q.1;omega
 have hf:fcs (C++[p])=fcs C++[p.2]:=by simp [fcs]
 constructor
 · exact h.nodup
 · intro y hy
   rw [List.filter_append]
   have h9:[p].filter (fun p=>decide (Cr y.num p.2))=[]:=by simp [hno]
   rw [h9,List.append_nil]
   exact h.rs y hy
 · exact h.len
 · intro y hy i hi
   rw [hf,Zo,h.sus y hy i hi]
   constructor
   · exact .inl
   · rintro (q|q)
     · exact q
     · rw [hs] at q;exact absurd q.2.2.2 (by simp)
 · intro q hq hk2
   rcases List.mem_append.1 hq with e|e
   · exact h.ru q e hk2
   · rw [List.mem_singleton] at e;subst e;omega
 · intro q hq hk2 hs2
   rcases List.mem_append.1 hq with e|e
   · exact h.ap q e hk2 hs2
   · rw [List.mem_singleton] at e;subst e;rw [hs] at hs2;cases hs2
theorem Hma {C:List (Fsh×Fct)}{fs ys:List Cf}(h:Du C fs)(hp:ys.Perm (fs.filter fun x => !x.rs.isEmpty))(hs:ys.Pairwise fun x y=>x.num≤y.num):ys.map (·.num)=Gq (fcs C):=by
 have hnd:(ys.map (·.num)).Nodup:=by
  refine (hp.map (·.num)).nodup_iff.2 (List.Nodup.sublist ?_ h.nodup)
  exact List.Sublist.map _ List.filter_sublist
 refine Tf ?_ (Nb _) fun n => ?_
 · have h1:(ys.map (·.num)).Pairwise (· ≤ ·):=List.pairwise_map.2 hs
   have h2:(ys.map (·.num)).Pairwise (· ≠ ·):=hnd
   exact (h1.and h2).imp fun {a b} q=>by have:=q.1;have:=q.2;omega
 · rw [Ml,List.mem_map]
   constructor
   · rintro ⟨x,hx,rfl⟩
     obtain ⟨h1,h2⟩:=List.mem_filter.1 (hp.mem_iff.1 hx)
     have h3:=h.rs x h1
     cases hr:x.rs with
     | nil=>rw [hr] at h2;simp at h2
     | cons p r =>
       have:p∈C.filter fun p=>decide (Cr x.num p.2):=by rw [← h3,hr];simp
       obtain ⟨q1,q2⟩:=List.mem_filter.1 this
       exact ⟨p.2,List.mem_map_of_mem q1,of_decide_eq_true q2⟩
   · rintro ⟨f,hf,ho⟩
     obtain ⟨p,hp2,rfl⟩:=List.mem_map.1 hf
     obtain ⟨x,hx,e⟩:=h.ru p hp2 ho.1
     have hxn:x.num=n:=e.trans ho.2
     refine ⟨x,hp.mem_iff.2 (List.mem_filter.2 ⟨hx,?_⟩),hxn⟩
     have:p∈x.rs:=by rw [h.rs x hx];exact List.mem_filter.2 ⟨hp2,decide_eq_true (by rw [hxn];exact ho)⟩
     cases hr:x.rs with
     | nil=>rw [hr] at this;cases this
     | cons _ _=>rfl
theorem ind_sum (p:Fsh×Fct):∀ {ns:List Int},ns.Nodup→(ns.map fun n=>if Cr n p.2 then 1 else 0).sum≤1
 | [],_=>by simp
 | n::r,h=>by
   obtain ⟨h1,h2⟩:=List.nodup_cons.1 h
   have ih:=ind_sum p h2
   rw [List.map_cons,List.sum_cons]
   by_cases hq:Cr n p.2
   · have:(r.map fun n=>if Cr n p.2 then 1 else 0)=r.map fun _=>0:=List.map_congr_left fun m hm=>by
      rw [if_neg]
      intro q
      have:m=n:=q.2.symm.trans hq.2
      subst this;exact h1 hm
     rw [if_pos hq,this]
     have h0:∀ r:List Int,(r.map fun _=>(0:Nat)).sum=0:=fun r=>by
      induction r with
      | nil=>rfl
      | cons _ _ ih=>rw [List.map_cons,List.sum_cons,ih]
     rw [h0]
     exact Nat.le_refl _
   · rw [if_neg hq];omega
theorem Wk (f g:Int→Nat):∀ ns:List Int,(ns.map fun n=>f n+g n).sum=(ns.map f).sum+(ns.map g).sum
 | []=>rfl
 | n::r=>by rw [List.map_cons,List.sum_cons,Wk f g r,List.map_cons,List.map_cons,List.sum_cons,List.sum_cons];omega
theorem E2a {ns:List Int}(hn:ns.Nodup):∀ C:List (Fsh×Fct),(ns.map fun n=>(C.filter fun p=>decide (Cr n p.2)).length).sum≤C.length
 | []=>by
   have h0:∀ r:List Int,(r.map fun n=>(([]:List (Fsh×Fct)).filter fun p=>decide (Cr n p.2)).length).sum=0:=fun r=>by
    induction r with
    | nil=>rfl
    | cons _ _ ih=>rw [List.map_cons,List.sum_cons,ih];rfl
   rw [h0];exact Nat.zero_le _
 | p::C=>by
   have h1:(ns.map fun n=>((p::C).filter fun p=>decide (Cr n p.2)).length)=ns.map fun n=>(if Cr n p.2 then 1 else 0)+(C.filter fun p=>decide (Cr n p.2)).length:=List.map_congr_left fun n _=>by
    rw [List.filter_cons]
    by_cases hq:Cr n p.2
    · simp [hq];omega
    · simp [hq]
   rw [h1,Wk,List.length_cons]
   have:=ind_sum p hn
   have:=E2a hn C
   omega
def Vg (rs:List (Fsh×Fct)):Int:=rs.foldl (fun m p=>max m p.2.ru.inst) 0
theorem L4a (rs:List (Fsh×Fct))(p:Fsh×Fct):Vg (rs++[p])=max (Vg rs) p.2.ru.inst:=by unfold Vg;rw [List.foldl_append];rfl
end Go.Hw
set_option maxRecDepth 100000
set_option maxHeartbeats 8000000
namespace Go.Hw
open Go
attribute [local irreducible] GO GOl GDp Val Fn Res At Fx Blk By Dk Cl Has Yl
open Go.Proofs (Tryz.prog)
theorem Mua (gf:FuncId)(cb:List Value)(hhas:Has Tryz.prog gf)(h:Ro)(hcp:∀ h',Le h h'→∀ x y:Fsh×Fct,FGd h' x→FGd h' y→Res Tryz.prog gf ([Fc x.1 x.2,Fc y.1 y.2]++cb).toArray h' fun u _=>u=.bool (decide (Jv x.2 y.2=0)))(v:Value)(ys:List (Fsh×Fct))(n:Nat)(hn:n≤1000000)(hl:ys.length=n)(hg:∀ p∈ys,FGd h p) :
  Fn Tryz.prog 201 #[v,.func (.func gf) #[] cb.toArray] [By 57 82 v n (ys.flatMap Bx)] h fun u Es _=>Es=[By 57 82 u (Ka ys).length ((Ka ys).flatMap Bx)]:=by
 refine Bo (args:=[_,_]) ts_ok Go.Proofs.Tryz.func201 rfl rfl fun w0 X0 => ?_
 by_cases h2:n<2
 · refine Sy QM ?_
   intro A0 c0 e0
   subst e0
   rw [Ut (by omega),hl]
   repeat' (first|apply Ac|apply Aa|apply Ab|(apply Ad;(iterate 3 exact J))|(apply Aj;exact J;all_goals (intro hc;try simp only [hcS,reduceCtorEq] at hc;try (exfalso;omega))))
   all_goals first
    | (exfalso;omega)
    | exact Ca rfl rfl rfl (List.Sublist.refl _) rfl
 · refine Cza QM (by omega) ?_
   intro b c hnc e0
   subst e0
   repeat' (first|apply Ac|apply Au|apply Ak|apply Aa|apply Ab|(apply Ad;(iterate 3 exact J))|(apply Aj;exact J;all_goals (intro hc;try simp only [hcS,reduceCtorEq] at hc;try (exfalso;omega))))
   refine Bt (X:=Nat×Ro) (fun x=>1≤x.1∧x.1≤n∧Le h x.2∧Ka (ys.take x.1)=ys.take x.1) (fun x=>n-x.1)
    (fun x=>[(5,.int .i64 x.1),(0,.slice (some ⟨b,0,none⟩) n c),(1,.func (.func gf) #[] cb.toArray)])
    (fun x=>[By 57 82 (.slice (some ⟨b,0,none⟩) n c) n (ys.flatMap Bx)]) (fun x=>x.2) (1,h) ⟨by dsimp only;omega,by dsimp only;omega,Le.refl _,Ut (by rw [List.length_take];omega)⟩ QS QT rfl ?_
   rintro ⟨k,hh⟩ ⟨hk1,hkn,hle,hI⟩ ih
   dsimp only at hk1 hkn hle hI ih ⊢
   by_cases hlt:k<n
   · obtain ⟨x,hx⟩:∃ x,ys[k]? = some x:=⟨_,List.getElem?_eq_getElem (by omega)⟩
     obtain ⟨y,hy⟩:∃ y,ys[k-1]? = some y:=⟨_,List.getElem?_eq_getElem (by omega)⟩
     have hgx:=hg x (List.mem_of_getElem? hx)
     have hgy:=hg y (List.mem_of_getElem? hy)
     have hst:=Sj hk1 (by omega) hx hy
     by_cases hc9:Jv x.2 y.2=0
     · rw [if_pos hc9,List.append_nil,hI] at hst
       repeat' (first|apply Ac|apply Au|apply Ak|apply Aa|apply Ab|(apply Ad;(iterate 3 exact J))|(apply Bd;exact J;exact J;(first|(apply Iw (lo:=k);(iterate 5 exact J);(with_reducible exact J);omega));exact QA)|(apply Bf (n:=6) [0,1,2,3,4,5,6,7,8,9,10] [(0,0),(1,0),(2,0),(3,0),(4,0),(5,0),(6,0),(7,0),(8,0),(9,0),(10,1)];kernel_rfl)|(apply Vb;exact J;kernel_rfl;(iterate 5 exact J);omega)|(apply Ce;exact J;kernel_rfl;(iterate 3 exact J))|(apply De;exact J;kernel_rfl;exact J;exact J;(first|(apply Hz (j:=k);(iterate 5 exact J);(with_reducible exact J);omega)|(apply Hz (j:=k-1);(iterate 5 exact J);omega;omega)|(apply Jx (off:=0) (enc:=Bx) (b:=b) (k:=k) (sz:=82) (n:=n) (c:=c) (xs:=ys) (e:=57);exact J;exact J;exact addE _ _;exact Bv;exact hx;exact J)|(apply Jx (off:=0) (enc:=Bx) (b:=b) (k:=k-1) (sz:=82) (n:=n) (c:=c) (xs:=ys) (e:=57);exact J;exact J;exact addE _ _;exact Bv;exact hy;exact J));exact QA)|(apply Br;exact J;kernel_rfl;(iterate 3 exact J);(first|(apply Gh (f:=gf) (fs:=[]) (cs:=cb);exact J;exact J;exact hhas;exact hcp _ QL x y (hgx.le QL) (hgy.le QL);rw [decide_eq_true hc9];rintro vr hr1 hle1 rfl;refine ⟨hle1,QN,?_⟩)))|(apply Bm;kernel_rfl;exact J)|(apply Aj;exact J;all_goals (intro hc;try simp only [hcS,reduceCtorEq] at hc;try (exfalso;omega))))
       rw [Wn (show k<c by omega)]
       refine Bt (X:=Nat×Nat×List (Fsh×Fct)×Ro) (fun x=>1≤x.2.1∧k+x.2.1≤n∧x.1≤k+x.2.1-1∧x.2.2.1.length=n∧Le hr1 x.2.2.2∧x.2.2.1.take x.1=Ka (ys.take (k+x.2.1))∧(∀ t,k+x.2.1-1≤t→x.2.2.1[t]? = ys[t]?)) (fun x=>n-(k+x.2.1))
        (fun x=>[(7,.int .i64 x.2.1),(6,.slice (some ⟨b,k * 82,none⟩) (n-k) (c-k)),(5,.int .i64 x.1),(0,.slice (some ⟨b,0,none⟩) n c),(1,.func (.func gf) #[] cb.toArray)])
        (fun x=>[By 57 82 (.slice (some ⟨b,0,none⟩) n c) n (x.2.2.1.flatMap Bx)]) (fun x=>x.2.2.2) (k,1,ys,hr1) ⟨by dsimp only;omega,by dsimp only;omega,by dsimp only;omega,hl,Le.refl _,hst.symm,fun t _=>rfl⟩ QS QT rfl ?_
       clear ih
       rintro ⟨kk,k2,zs,hz⟩ ⟨j1,j2,j3,j4,j5,j6,j7⟩ ih2
       dsimp only at j1 j2 j3 j4 j5 j6 j7 ih2 ⊢
       clear hst hgx hgy hx hy hc9
       by_cases hlt2:k+k2<n
       · obtain ⟨x2,hx2⟩:∃ x2,ys[k+k2]? = some x2:=⟨_,List.getElem?_eq_getElem (by omega)⟩
         obtain ⟨y2,hy2⟩:∃ y2,ys[k+k2-1]? = some y2:=⟨_,List.getElem?_eq_getElem (by omega)⟩
         have hgx2:=hg x2 (List.mem_of_getElem? hx2)
         have hgy2:=hg y2 (List.mem_of_getElem? hy2)
         have hst2:=Sj (show 1≤k+k2 by omega) (by omega) hx2 hy2
         have hzx:zs[k+k2]? = some x2:=by rw [j7 _ (by omega)];exact hx2
         have hzy:zs[k+(k2-1)]? = some y2:=by rw [j7 _ (by omega),show k+(k2-1)=k+k2-1 by omega];exact hy2
         by_cases hc8:Jv x2.2 y2.2=0
         · rw [if_pos hc8,List.append_nil,← j6] at hst2
           repeat' (first|apply Ac|apply Au|apply Ap|apply Ak|apply Aa|apply Ab|(apply Bg;(iterate 3 exact J);omega;exact J;exact J)|(apply Ad;(iterate 3 exact J))|(apply Bf (n:=11) [0,1,2,3,4,5,6,7,8,9,10,11] [(0,0),(1,0),(2,0),(3,0),(4,0),(5,0),(6,0),(7,0),(8,0),(9,0),(10,1),(11,0)];kernel_rfl)|(apply Vb;exact J;kernel_rfl;(iterate 5 exact J);omega)|(apply Ce;exact J;kernel_rfl;(iterate 3 exact J))|(apply De;exact J;kernel_rfl;exact J;exact J;(first|(apply Hz (j:=k2);(iterate 5 exact J);(with_reducible exact J);omega)|(apply Hz (j:=k2-1);(iterate 5 exact J);omega;omega)|(apply Jx (off:=0) (enc:=Bx) (b:=b) (k:=k+k2) (sz:=82) (n:=n) (c:=c) (xs:=zs) (e:=57);exact J;exact J;exact addE2 _ _ _;exact Bv;exact hzx;exact J)|(apply Jx (off:=0) (enc:=Bx) (b:=b) (k:=k+(k2-1)) (sz:=82) (n:=n) (c:=c) (xs:=zs) (e:=57);exact J;exact J;exact addE2 _ _ _;exact Bv;exact hzy;exact J));exact QA)|(apply Br;exact J;kernel_rfl;(iterate 3 exact J);(first|(apply Gh (f:=gf) (fs:=[]) (cs:=cb);exact J;exact J;exact hhas;exact hcp _ QL x2 y2 (hgx2.le QL) (hgy2.le QL);rw [decide_eq_true hc8];rintro vr hr2 hle2 rfl;refine ⟨hle2,QN,?_⟩)))|(apply Bm;kernel_rfl;exact J)|(apply Aj;exact J;all_goals (intro hc;try simp only [hcS,reduceCtorEq] at hc;try (exfalso;omega))))
           all_goals
            have h9:=ih2 (kk,k2+1,zs,hr2) ⟨by dsimp only;omega,by dsimp only;omega,by dsimp only;omega,j4,by dsimp only;exact j5.trans hle2,by dsimp only;exact hst2.symm,fun t ht=>j7 t (by dsimp only at ht;omega)⟩ (by dsimp only;omega)
            dsimp only at h9
            refine Bw QS QT (h9)
         · rw [if_neg hc8,← j6] at hst2
           repeat' (first|apply Ac|apply Au|apply Ap|apply Ak|apply Aa|apply Ab|(apply Bg;(iterate 3 exact J);omega;exact J;exact J)|(apply Ad;(iterate 3 exact J))|(apply Bd;exact J;exact J;(first|(apply Hz (j:=k2);(iterate 5 exact J);(with_reducible exact J);omega)|(apply Hz (j:=kk);(iterate 5 exact J);(with_reducible exact J);omega)|(apply Jx (off:=0) (enc:=Bx) (b:=b) (k:=k+k2) (sz:=82) (n:=n) (c:=c) (xs:=zs) (e:=57);exact J;exact J;exact addE2 _ _ _;exact Bv;exact hzx;exact J));exact QA)|(apply Af;(iterate 3 exact J);(first|(apply Kxa (b:=b) (enc:=Bx) (sz:=82) (k:=kk) (z:=x2) (xs:=zs);exact J;exact J;exact addE _ _;exact J;exact Bv;exact J;exact QR;omega;exact J;exact J;skip)))|(apply Bf (n:=11) [0,1,2,3,4,5,6,7,8,9,10,11] [(0,0),(1,0),(2,0),(3,0),(4,0),(5,0),(6,0),(7,0),(8,0),(9,0),(10,1),(11,0)];kernel_rfl)|(apply Vb;exact J;kernel_rfl;(iterate 5 exact J);omega)|(apply Ce;exact J;kernel_rfl;(iterate 3 exact J))|(apply De;exact J;kernel_rfl;exact J;exact J;(first|(apply Hz (j:=k2);(iterate 5 exact J);(with_reducible exact J);omega)|(apply Hz (j:=k2-1);(iterate 5 exact J);omega;omega)|(apply Jx (off:=0) (enc:=Bx) (b:=b) (k:=k+k2) (sz:=82) (n:=n) (c:=c) (xs:=zs) (e:=57);exact J;exact J;exact addE2 _ _ _;exact Bv;exact hzx;exact J)|(apply Jx (off:=0) (enc:=Bx) (b:=b) (k:=k+(k2-1)) (sz:=82) (n:=n) (c:=c) (xs:=zs) (e:=57);exact J;exact J;exact addE2 _ _ _;exact Bv;exact hzy;exact J));exact QA)|(apply Br;exact J;kernel_rfl;(iterate 3 exact J);(first|(apply Gh (f:=gf) (fs:=[]) (cs:=cb);exact J;exact J;exact hhas;exact hcp _ QL x2 y2 (hgx2.le QL) (hgy2.le QL);rw [decide_eq_false hc8];rintro vr hr2 hle2 rfl;refine ⟨hle2,QN,?_⟩)))|(apply Bm;kernel_rfl;exact J)|(apply Aj;exact J;all_goals (intro hc;try simp only [hcS,reduceCtorEq] at hc;try (exfalso;omega))))
           all_goals
            have hset:(zs.set kk x2).take (kk+1)=zs.take kk++[x2]:=by
             rw [List.take_add_one,List.getElem?_set_self (by omega),List.take_set_of_le (Nat.le_refl _)];rfl
            have h9:=ih2 (kk+1,k2+1,zs.set kk x2,hr2) ⟨by dsimp only;omega,by dsimp only;omega,by dsimp only;omega,by dsimp only;rw [List.length_set];exact j4,by dsimp only;exact j5.trans hle2,by dsimp only;rw [hset];exact hst2.symm,fun t ht=>by
             dsimp only at ht ⊢
             rw [List.getElem?_set_ne (by omega)];exact j7 t (by omega)⟩ (by dsimp only;omega)
            dsimp only at h9
            refine Bw QS QT (h9)
       · have hkn2:k+k2=n:=by omega
         clear ih2
         rw [hkn2,List.take_of_length_le (l:=ys) (by omega)] at j6
         have hkl:(Ka ys).length=kk:=by rw [← j6,List.length_take];omega
         repeat' (first|apply Ac|apply Aa|apply Ab|(apply Bn;exact J)|(apply Ad;(iterate 3 exact J))|(apply Bd;exact J;exact J;(first|(apply Iw (lo:=kk);(iterate 5 exact J);(with_reducible exact J);omega));exact QA)|(apply Aj;exact J;all_goals (intro hc;try simp only [hcS,reduceCtorEq] at hc;try (exfalso;omega))))
         all_goals (try (exfalso;omega))
         rw [Wn (show kk<c by omega)]
         repeat' (first|apply Ac|apply Aa|apply Ab|(apply Ad;(iterate 3 exact J))|(apply Bd;exact J;exact J;(first|(apply Mp (hi:=kk);(iterate 5 exact J);(with_reducible exact J);omega;exact hnc));exact QA)|(apply Af;(iterate 3 exact J);(first|(apply Yr (enc:=Bx) (b:=b) (k:=kk) (m:=n-kk) (n:=n) (c:=c) (xs:=zs);(iterate 3 exact J);exact List.cons_ne_nil _ _;(iterate 4 exact J);exact Bv;omega;omega;exact j4;exact QR;skip))))
         rw [Zu,j6,hkl]
         exact Ca rfl rfl rfl (List.Sublist.refl _) rfl
     · rw [if_neg hc9,hI] at hst
       repeat' (first|apply Ac|apply Au|apply Ap|apply Ak|apply Aa|apply Ab|(apply Bg;(iterate 3 exact J);omega;exact J;exact J)|(apply Ad;(iterate 3 exact J))|(apply Bf (n:=6) [0,1,2,3,4,5,6,7,8,9,10] [(0,0),(1,0),(2,0),(3,0),(4,0),(5,0),(6,0),(7,0),(8,0),(9,0),(10,1)];kernel_rfl)|(apply Vb;exact J;kernel_rfl;(iterate 5 exact J);omega)|(apply Ce;exact J;kernel_rfl;(iterate 3 exact J))|(apply De;exact J;kernel_rfl;exact J;exact J;(first|(apply Hz (j:=k);(iterate 5 exact J);(with_reducible exact J);omega)|(apply Hz (j:=k-1);(iterate 5 exact J);omega;omega)|(apply Jx (off:=0) (enc:=Bx) (b:=b) (k:=k) (sz:=82) (n:=n) (c:=c) (xs:=ys) (e:=57);exact J;exact J;exact addE _ _;exact Bv;exact hx;exact J)|(apply Jx (off:=0) (enc:=Bx) (b:=b) (k:=k-1) (sz:=82) (n:=n) (c:=c) (xs:=ys) (e:=57);exact J;exact J;exact addE _ _;exact Bv;exact hy;exact J));exact QA)|(apply Br;exact J;kernel_rfl;(iterate 3 exact J);(first|(apply Gh (f:=gf) (fs:=[]) (cs:=cb);exact J;exact J;exact hhas;exact hcp _ QL x y (hgx.le QL) (hgy.le QL);rw [decide_eq_false hc9];rintro vr hr1 hle1 rfl;refine ⟨hle1,QN,?_⟩)))|(apply Bm;kernel_rfl;exact J)|(apply Aj;exact J;all_goals (intro hc;try simp only [hcS,reduceCtorEq] at hc;try (exfalso;omega))))
       all_goals
        have h9:=ih (k+1,hr1) ⟨by dsimp only;omega,by dsimp only;omega,by dsimp only;exact hle.trans hle1,by dsimp only;rw [hst,List.take_add_one,hx];rfl⟩ (by dsimp only;omega)
        dsimp only at h9
        refine Bw QS QT (h9)
   · have hk3:k=n:=by omega
     subst hk3
     clear ih
     rw [List.take_of_length_le (by omega)] at hI
     rw [hI,hl]
     repeat' (first|apply Ac|apply Aa|apply Ab|(apply Bn;exact J)|(apply Ad;(iterate 3 exact J))|(apply Aj;exact J;all_goals (intro hc;try simp only [hcS,reduceCtorEq] at hc;try (exfalso;omega))))
     all_goals exact Ca rfl rfl rfl (List.Sublist.refl _) rfl
end Go.Hw
namespace Go.Hw
open Go
attribute [local irreducible] GO GOl GDp Val Fn Res At Fx Blk By Dk Cl Has Yl Mn
open Go.Proofs (Tryz.prog)
abbrev Px (x:Cf):List Value:=.int .i64 x.num::.slice x.A x.rs.length x.c::x.s.map .bool
abbrev Lp (x:Cf):Value:=.pointer (some ⟨x.b,0,none⟩)
structure Eu (h:Ro) (x:Cf):Prop where
 cells:At h ⟨x.b,0,none⟩ (Px x)
 row:Cc Bx 82 h x.A x.rs.length x.rs
 good:∀ p∈x.rs,FGd h p
 len:x.s.length=4
 small:x.rs.length≤1000000
theorem Eu.le {h h':Ro}{x:Cf}(a:Eu h x)(hl:Le h h'):Eu h' x:=⟨a.cells.le hl,a.row.le hl,fun p hp=>(a.good p hp).le hl,a.len,a.small⟩
theorem Eu.sus {h:Ro}{x:Cf}(a:Eu h x){j:Nat}(hj:j<4):At h (((⟨x.b,0,none⟩:Addr).add 2).add (j * 1)) [.bool (x.s.getD j false)]:=by
 have hl:=a.len
 have h1:(Px x)[2+j]? = some (.bool (x.s.getD j false)):=by
  show (Value.int .i64 x.num::Value.slice x.A x.rs.length x.c::x.s.map .bool)[2+j]? = _
  rw [show 2+j=j+1+1 by omega,List.getElem?_cons_succ,List.getElem?_cons_succ,List.getElem?_map,List.getElem?_eq_getElem (by omega),Option.map_some,List.getD_eq_getElem?_getD,List.getElem?_eq_getElem (by omega),Option.getD_some]
 have:=Cea a.cells (k:=2+j) h1
 rw [Ee,show 2+j * 1=(2+j) * 1 by omega]
 exact this
theorem FGd.inst {h:Ro}{p:Fsh×Fct}(a:FGd h p)(hk:p.2.kind=4):1≤p.2.ru.inst∧p.2.ru.inst≤3:=B4a a.2.2 hk
theorem lastF_c (h:Ro)(x:Cf)(hx:Eu h x):Val Tryz.prog 95 #[Lp x] h (.int .i64 (Vg x.rs)):=by
 refine Az (args:=[_]) ts_ok Go.Proofs.Tryz.func95 rfl rfl fun w0 X0 => ?_
 have hcl:=hx.cells
 have hrow:=hx.row
 have hsm:=hx.small
 obtain ⟨n,hn⟩:∃ n,n=x.rs.length:=⟨_,rfl⟩
 obtain ⟨b,hb⟩:∃ b,b=x.b:=⟨_,rfl⟩
 show GO _ _ _ _ _ _
 repeat' (first|apply Ac|apply Ak|apply Aa|apply Ab|(apply Ad;(iterate 3 exact J))|(apply Bd;exact J;exact J;(first|(apply Ar;exact J;first|exact Bh rfl (by assumption) rfl|exact Dc rfl (by assumption) rfl|exact Db rfl (by assumption) rfl|exact Lv_roF3 rfl (by assumption) rfl));exact QA))
 refine Bt (X:=Nat) (fun k=>k≤x.rs.length) (fun k=>x.rs.length-k) (fun k=>[(11,.int .i64 k),(10,.int .i64 x.rs.length),(9,.slice x.A x.rs.length x.c),(3,.int .i64 (Vg (x.rs.take k)))]) (fun _=>[]) (fun _=>h) 0 (by omega) QS QT rfl ?_
 rintro k hk ih
 by_cases hkn:k<x.rs.length
 · have a1:=hrow.addrD hkn
   have c1:=hrow.cellsD p0 hkn
   have et:=Fq p0 (xs:=x.rs) rfl hkn
   generalize x.rs.getD k p0=p at *
   have es:Vg (x.rs.take (k+1))=max (Vg (x.rs.take k)) p.2.ru.inst:=by rw [et,L4a]
   repeat' (first|apply Ac|apply Au|apply Ap|apply Ak|apply Aa|apply Ab|(apply Bg;(iterate 3 exact J);omega;exact J;exact J)|(apply Ad;(iterate 3 exact J))|(apply Ai;exact J;exact Av rfl QM rfl;exact J;exact J)|(apply Bd;exact J;exact J;(first|(apply Be (j:=k);(iterate 5 exact J);exact a1;(with_reducible exact J);omega)|(apply Ar;exact J;exact Bh rfl c1 rfl));exact QA)|(apply Af;(iterate 3 exact J);(first|(apply Ah;(iterate 3 exact J);exact QR;(iterate 3 exact J);skip)|(apply Ag;exact J;intro b;skip)))|(apply Aj;exact J;all_goals (intro hc;try simp only [hcS,reduceCtorEq] at hc;try (exfalso;omega))))
   all_goals
    have h3:=ih (k+1) (by omega) (by omega)
    rw [es] at h3
    refine Bw QS QT (h3)
 · rw [List.take_of_length_le (by omega)]
   clear ih
   repeat' (first|apply Ac|apply Aa|apply Ab|(apply Bn;exact J)|(apply Ad;(iterate 3 exact J))|(apply Aj;exact J;all_goals (intro hc;try simp only [hcS,reduceCtorEq] at hc;try (exfalso;omega)))|(apply Bb;(iterate 3 exact J)))
   all_goals rfl
theorem heldF_c (h:Ro)(x:Cf)(hx:Eu h x){j:Nat}(hj:Vg x.rs=(j:Int))(hj4:j<4):Val Tryz.prog 93 #[Lp x] h (.bool (x.s.getD j false)):=by
 refine Az (args:=[_]) ts_ok Go.Proofs.Tryz.func93 rfl rfl fun w0 X0 => ?_
 have hla:=lastF_c h x hx
 rw [hj] at hla
 have hs:=hx.sus hj4
 repeat' (first|apply Ac|apply Aa|apply Ab|(apply Ad;(iterate 3 exact J))|(apply Bf (n:=1) [0,1,2,3,4,5,6,7] [(0,0),(1,0),(3,0),(4,0),(2,1),(5,0),(6,0),(7,0)];kernel_rfl)|(apply Ce;exact J;kernel_rfl;(iterate 3 exact J))|(apply De;exact J;kernel_rfl;exact J;exact J;(first|(apply Dj (j:=j);(iterate 5 exact J);(with_reducible exact J);omega)|(apply Ar;exact J;exact Bh rfl hs rfl));exact QA)|(apply Br;exact J;kernel_rfl;(iterate 3 exact J);(first|(apply Aq;exact J;exact has95;exact hla;refine ⟨Le.refl _,QN,?_⟩)))|(apply Bm;kernel_rfl;exact J)|(apply Bb;(iterate 3 exact J)))
 all_goals rfl
theorem Oh (h:Ro)(A:Option Addr)(n c:Nat)(l:List (Fsh×Fct))(hx:Cc Bx 82 h A n l)(hn:n≤1000000000)(f:FuncId)(fs cs:List Value)(p:Fsh×Fct→Bool)(hh:Has Tryz.prog f)
  (hf:∀ x∈l,Val Tryz.prog f (fs++[Fc x.1 x.2]++cs).toArray h (.bool (p x))) :
  Val Tryz.prog 91 #[.slice A n c,.func (.func f) fs.toArray cs.toArray] h (.int .i64 (Za p l 0)):=by
 refine Az (args:=[_,_]) ts_ok Go.Proofs.Tryz.func91 rfl rfl fun w0 X0 => ?_
 have hlen:=hx.len
 repeat' (first|apply Ac|apply Ak|apply Aa|apply Ab|(apply Ad;(iterate 3 exact J)))
 refine Bt (X:=Nat) (fun k=>k≤n∧Za p (l.drop k) k=Za p l 0) (fun k=>n-k) (fun k=>[(8,.int .i64 k),(7,.int .i64 n),(0,.slice A n c),(1,.func (.func f) fs.toArray cs.toArray)]) (fun _=>[]) (fun _=>h) 0 ⟨by omega,rfl⟩ QS QT rfl ?_
 rintro k ⟨hk,hI⟩ ih
 by_cases hkn:k<n
 · have a1:=hx.addrD hkn
   have c1:=hx.cellsD p0 hkn
   have hd:=Aqa p0 hlen hkn
   have hv:=hf _ (B0a p0 (show k<l.length by omega))
   generalize l.getD k p0=x at *
   repeat' (first|apply Ac|apply Au|apply Ap|apply Ak|apply Aa|apply Ab|(apply Bg;(iterate 3 exact J);omega;exact J;exact J)|(apply Ad;(iterate 3 exact J))|(apply Bd;exact J;exact J;(first|(apply Be (j:=k);(iterate 5 exact J);exact a1;(with_reducible exact J);omega)|(apply Ar;exact J;exact Bh rfl c1 rfl));exact QA)|(apply Af;(iterate 3 exact J);(first|(apply Cd (f:=f) (fs:=fs) (cs:=cs);exact J;exact J;exact hh;exact hv;skip)))|(apply Aj;exact J;all_goals (intro hc;try simp only [hcS,reduceCtorEq] at hc;try (exfalso;omega)))|(apply Bb;(iterate 3 exact J)))
   · rw [← hI,hd,Za,if_pos hc]
   · have h3:=ih (k+1) ⟨by omega,by rw [← hI,hd,Za,if_neg (by simp [hc])]⟩ (by omega)
     refine Bw QS QT (h3)
 · repeat' (first|apply Ac|apply Aa|apply Ab|(apply Bn;exact J)|(apply Ad;(iterate 3 exact J))|(apply Aj;exact J;all_goals (intro hc;try simp only [hcS,reduceCtorEq] at hc;try (exfalso;omega)))|(apply Bb;(iterate 3 exact J)))
   rw [← hI,show k=l.length by omega,List.drop_length];rfl
theorem Oi {α:Type}(p:α→Bool):∀ (l:List α) (k:Nat),(Za p l k = -1∧l.find? p=none)∨∃ j x,j<l.length∧Za p l k=((k+j:Nat):Int)∧l[j]? = some x∧l.find? p=some x
 | [],k=>.inl ⟨rfl,rfl⟩
 | y::r,k=>by
   unfold Za
   by_cases h:p y=true
   · exact .inr ⟨0,y,by simp,by rw [if_pos h];rfl,rfl,by rw [List.find?_cons,h]⟩
   · have hf:p y=false:=by simpa using h
     rcases Oi p r (k+1) with ⟨e1,e2⟩|⟨j,x,e1,e2,e3,e4⟩
     · exact .inl ⟨by rw [if_neg h];exact e1,by rw [List.find?_cons,hf];exact e2⟩
     · exact .inr ⟨j+1,x,Nat.succ_lt_succ e1,by rw [if_neg h,e2];congr 1;omega,by rw [List.getElem?_cons_succ];exact e3,by rw [List.find?_cons,hf];exact e4⟩
theorem Wl (h:Ro)(b:Nat)(i:Int)(hb:At h ⟨b,0,none⟩ [.int .i64 i])(p:Fsh×Fct):Val Tryz.prog 154 #[Fc p.1 p.2,.pointer (some ⟨b,0,none⟩)] h (.bool (decide (p.2.ru.inst=i))):=by
 refine Az (args:=[_,_]) ts_ok Go.Proofs.Tryz.func154 rfl rfl fun w0 X0 => ?_
 repeat' (first|apply Ac|apply Aa|apply Ab|(apply Ad;(iterate 3 exact J))|(apply Ai;exact J;exact Av rfl QM rfl;exact J;exact J)|(apply Bd;exact J;exact J;(first|(apply Ar;exact J;first|exact Bh rfl (by assumption) rfl|exact Dc rfl (by assumption) rfl|exact Db rfl (by assumption) rfl|exact Lv_roF3 rfl (by assumption) rfl));exact QA)|(apply Af;(iterate 3 exact J);(first|(apply Ao;exact J;intro b;skip)))|(apply Bb;(iterate 3 exact J)))
 all_goals rw [Hm]
def Qc (rs:List (Fsh×Fct)) (i:Int):Option (Fsh×Fct):=rs.find? fun p=>decide (p.2.ru.inst=i)
def oZ (o:Option (Fsh×Fct)):Fsh×Fct:=o.getD p0
theorem Gja (h:Ro)(x:Cf)(hx:Eu h x)(i:Int):Val Tryz.prog 94 #[Lp x,.int .i64 i] h (.tuple #[Fc (oZ (Qc x.rs i)).1 (oZ (Qc x.rs i)).2,.bool (Qc x.rs i).isSome]):=by
 refine Az (args:=[_,_]) ts_ok Go.Proofs.Tryz.func94 rfl rfl fun w0 X0 => ?_
 have hcl:=hx.cells
 have hrow:=hx.row
 have hsm:=hx.small
 rcases Oi (fun p:Fsh×Fct=>decide (p.2.ru.inst=i)) x.rs 0 with ⟨e1,e2⟩|⟨j,y,e1,e2,e3,e4⟩
 · have e3:Qc x.rs i=none:=e2
   rw [e3]
   have hix:∀ h1 bq,Le h h1→At h1 ⟨bq,0,none⟩ [.int .i64 i]→Val Tryz.prog 91 #[.slice x.A x.rs.length x.c,.func (.func 154) #[] #[.pointer (some ⟨bq,0,none⟩)]] h1 (.int .i64 (-1)):=fun h1 bq hl hb=>by
    have:=Oh h1 x.A x.rs.length x.c x.rs (hrow.le hl) (by omega) 154 [] [.pointer (some ⟨bq,0,none⟩)] (fun p=>decide (p.2.ru.inst=i)) has154 (fun p _=>Wl h1 bq i hb p)
    rw [e1] at this
    exact this
   repeat' (first|apply Ac|apply Aa|apply Ab|(apply Ad;(iterate 3 exact J))|(apply Bd;exact J;exact J;(first|(apply Ar;exact J;first|exact Bh rfl (by assumption) rfl|exact Dc rfl (by assumption) rfl|exact Db rfl (by assumption) rfl|exact Lv_roF3 rfl (by assumption) rfl));exact QA)|(apply Af;(iterate 3 exact J);(first|(apply Ah;(iterate 3 exact J);exact QR;(iterate 3 exact J);skip)|(apply Ao;exact J;intro b;skip)|(apply Ag;exact J;intro b;skip)|(refine Cq (e:=3) QK ?_;intro h1 hle1 hc1;apply Aq;exact J;exact has91;exact hix _ _ hle1 hc1;skip)))|(apply Aj;exact J;all_goals (intro hc;try simp only [hcS,reduceCtorEq] at hc;try (exfalso;omega)))|(apply Ni;(iterate 3 exact J);exact QM;(iterate 3 exact J)))
   all_goals first
    | rfl
 · have e5:Qc x.rs i=some y:=e4
   rw [e5]
   have a1:=hrow.addrD e1
   have c1:=hrow.cellsD p0 e1
   have e6:x.rs.getD j p0=y:=by rw [List.getD_eq_getElem?_getD,e3];rfl
   rw [e6] at c1
   rw [Nat.zero_add] at e2
   have hix:∀ h1 bq,Le h h1→At h1 ⟨bq,0,none⟩ [.int .i64 i]→Val Tryz.prog 91 #[.slice x.A x.rs.length x.c,.func (.func 154) #[] #[.pointer (some ⟨bq,0,none⟩)]] h1 (.int .i64 j):=fun h1 bq hl hb=>by
    have:=Oh h1 x.A x.rs.length x.c x.rs (hrow.le hl) (by omega) 154 [] [.pointer (some ⟨bq,0,none⟩)] (fun p=>decide (p.2.ru.inst=i)) has154 (fun p _=>Wl h1 bq i hb p)
    rw [e2] at this
    exact this
   repeat' (first|apply Ac|apply Au|apply Aa|apply Ab|(apply Ad;(iterate 3 exact J))|(apply Bd;exact J;exact J;(first|(apply Be (j:=j);(iterate 5 exact J);exact a1;(with_reducible exact J);omega)|(apply Ar;exact J;(first|exact Bh rfl (c1.le QL) rfl|exact Dc rfl (hcl.le QL) rfl)));exact QA)|(apply Af;(iterate 3 exact J);(first|(apply Ah;(iterate 3 exact J);exact QR;(iterate 3 exact J);skip)|(apply Ao;exact J;intro b;skip)|(apply Ag;exact J;intro b;skip)|(refine Cq (e:=3) QK ?_;intro h1 hle1 hc1;apply Aq;exact J;exact has91;exact hix _ _ hle1 hc1;skip)))|(apply Aj;exact J;all_goals (intro hc;try simp only [hcS,reduceCtorEq] at hc;try (exfalso;omega)))|(apply Ni;(iterate 3 exact J);exact QM;(iterate 3 exact J)))
   all_goals first
    | rfl
end Go.Hw
namespace Go.Hw
open Go
attribute [local irreducible] GO GOl GDp Val Fn Res At Fx Blk By Dk Cl Has Yl Mn
open Go.Proofs (Tryz.prog)
abbrev My (x:Cf):List Asn:=[Blk x.b 227 (Px x),By 57 82 (.slice x.A x.rs.length x.c) x.rs.length (x.rs.flatMap Bx)]
abbrev Pt (b:Nat):Value:=.pointer (some ⟨b,0,none⟩)
abbrev ekI (i:Int):Value:=.int .i64 i
def Fl (fs:List Cf):List (Int×Nat):=fs.map fun x=>(x.num,x.b)
theorem Ama:∀ {fs:List Cf} {n:Int},(∀ x∈fs,x.num≠n)→Cv n (Fl fs)=none∧∀ b,Jo n b (Fl fs)=Fl fs++[(n,b)]
 | [],n,_=>⟨rfl,fun _=>rfl⟩
 | x::r,n,h=>by
   obtain ⟨h1,h2⟩:=Ama (fs:=r) (n:=n) fun y hy=>h y (List.mem_cons_of_mem _ hy)
   have h3:=h x List.mem_cons_self
   unfold Fl at *
   constructor
   · rw [List.map_cons];unfold Cv;rw [if_neg h3];exact h1
   · intro b;rw [List.map_cons];unfold Jo;rw [if_neg h3,h2 b];rfl
theorem Ala:∀ {pre post:List Cf} {x:Cf},(∀ y∈pre,y.num≠x.num)→Cv x.num (Fl (pre++x::post))=some x.b
 | [],post,x,_=>by unfold Fl;rw [List.nil_append,List.map_cons];unfold Cv;rw [if_pos rfl]
 | y::pre,post,x,h=>by
   have h1:=Ala (pre:=pre) (post:=post) (x:=x) fun z hz=>h z (List.mem_cons_of_mem _ hz)
   have h3:=h y List.mem_cons_self
   unfold Fl at *
   rw [List.cons_append,List.map_cons];unfold Cv;rw [if_neg h3];exact h1
theorem E0a (n:Int):∀ fs:List Cf,(∀ x∈fs,x.num≠n)∨∃ pre x post,fs=pre++x::post∧x.num=n∧∀ y∈pre,y.num≠x.num
 | []=>.inl (by simp)
 | x::r=>by
   by_cases h:x.num=n
   · exact .inr ⟨[],x,r,rfl,h,by simp⟩
   · rcases E0a n r with q|⟨pre,y,post,e,e2,e3⟩
     · exact .inl fun y hy=>by
        rcases List.mem_cons.1 hy with w|w
        · rw [w];exact h
        · exact q y w
     · exact .inr ⟨x::pre,y,post,by rw [e];rfl,e2,fun z hz=>by
        rcases List.mem_cons.1 hz with w|w
        · rw [w,e2];exact h
        · exact e3 z w⟩
theorem get7_c (h:Ro)(bF bm:Nat)(fs:List Cf)(n:Int):Fn Tryz.prog 150 #[.int .i64 n,Pt bF] [Blk bF 224 [.map (some bm)],Dk ekI Pt bm (Fl fs),Mn (fs.flatMap My)] h fun u Es _=>∃ pre x post,u=Lp x∧x.num=n∧((pre++x::post=fs)∨(∃ b,pre=fs∧post=[]∧x=B3a b n∧∀ y∈fs,y.num≠n))∧Es=[Blk x.b 227 (Px x),By 57 82 (.slice x.A x.rs.length x.c) x.rs.length (x.rs.flatMap Bx),Mn (pre.flatMap My++post.flatMap My),Blk bF 224 [.map (some bm)],Dk ekI Pt bm (Fl (pre++x::post))]:=by
 refine Bo (args:=[_,_]) ts_ok Go.Proofs.Tryz.func150 rfl rfl fun w0 X0 => ?_
 rcases E0a n fs with hno|⟨pre,x,post,e,hxn,hpre⟩
 · obtain ⟨hl,hi⟩:=Ama hno
   have hl2:∀ b,Cv n (Fl fs++[(n,b)])=some b:=fun b=>by rw [← hi b,To,if_pos rfl]
   repeat' (first|apply Ac|apply Au|apply Aa|apply Ab|(apply Bd;exact J;exact J;(apply If (ek:=ekI) (ev:=Pt) (b:=bm) (key:=n) (m:=Fl fs) (r:=none) K7;(iterate 5 exact J);exact hl);focus ((repeat' (first|exact trivial|apply And.intro|exact List.Mem.head _|apply List.Mem.tail));done))|(apply Bd;exact J;exact J;(apply If (ek:=ekI) (ev:=Pt) (b:=bm) (key:=n) (m:=Fl fs++[(n,b)]) (r:=some b) K7;(iterate 5 exact J);exact hl2 _);focus ((repeat' (first|exact trivial|apply And.intro|exact List.Mem.head _|apply List.Mem.tail));done))|(apply Ad;(iterate 3 exact J))|(apply Ai;exact J;exact Av rfl QM rfl;exact J;exact J)|(apply Af;(iterate 3 exact J);(first|(apply Ao;exact J;intro b;skip)|(apply Cy (ek:=ekI) (ev:=Pt) (b:=bm) (m:=Fl fs) (key:=n) (u:=b) K7;(iterate 6 exact J);rw [hi];exact QR;skip)))|(apply Aj;exact J;all_goals (intro hc;try simp only [hcS,reduceCtorEq] at hc;try (exfalso;omega))))
   · generalize b=b7
     refine Eh 57 82 ?_
     refine Cs (Es':=[Blk b7 227 (Px (B3a b7 n)),By 57 82 (.slice none 0 0) 0 [],Mn (fs.flatMap My),Blk bF 224 [.map (some bm)],Dk ekI Pt bm (Fl fs++[(n,b7)])]) QT ?_
     have e1:Fl (fs++[B3a b7 n])=Fl fs++[(n,b7)]:=by simp [Fl,B3a]
     have e2:fs.flatMap My++([]:List Cf).flatMap My=fs.flatMap My:=by simp
     exact Ca rfl rfl rfl (List.Sublist.refl _) ⟨fs,B3a b7 n,[],rfl,rfl,.inr ⟨b7,rfl,rfl,rfl,hno⟩,by rw [e1,e2];rfl⟩
   · exfalso;simp at hc
 · subst e
   have hl:=Ala (post:=post) hpre
   rw [hxn] at hl
   repeat' (first|apply Ac|apply Au|apply Aa|apply Ab|(apply Ad;(iterate 3 exact J))|(apply Ai;exact J;exact Av rfl QM rfl;exact J;exact J)|(apply Bd;exact J;exact J;(first|(apply If (ek:=ekI) (ev:=Pt) (key:=n) (m:=Fl (pre++x::post)) (r:=some x.b) K7;(iterate 5 exact J);exact hl));exact QA)|(apply Aj;exact J;all_goals (intro hc;try simp only [hcS,reduceCtorEq] at hc;try (exfalso;omega))))
   refine GO_sepAt (g:=My) (pre:=pre) (post:=post) (x:=x) QK rfl ?_
   refine Cs (Es':=[Blk x.b 227 (Px x),By 57 82 (.slice x.A x.rs.length x.c) x.rs.length (x.rs.flatMap Bx),Mn (pre.flatMap My++post.flatMap My),Blk bF 224 [.map (some bm)],Dk ekI Pt bm (Fl (pre++x::post))]) QT ?_
   exact Ca rfl rfl rfl (List.Sublist.refl _) ⟨pre,x,post,rfl,hxn,.inl rfl,rfl⟩
end Go.Hw
namespace Go.Hw
open Go
attribute [local irreducible] GO GOl GDp Val Fn Res At Fx Blk By Dk Cl Has Yl Mn
open Go.Proofs (Tryz.prog)
abbrev Mi (x:Cf):List Value:=[Lp x]
theorem cmp2_c (h:Ro)(x y:Cf)(hx:Eu h x)(hy:Eu h y):Val Tryz.prog 153 #[Lp x,Lp y] h (.int .i64 (Ey x.num y.num)):=by
 refine Az (args:=[_,_]) ts_ok Go.Proofs.Tryz.func153 rfl rfl fun w0 X0 => ?_
 have c1:=hx.cells
 have c2:=hy.cells
 repeat' (first|apply Ac|apply Aa|apply Ab|(apply Ad;(iterate 3 exact J))|(apply Bf (n:=1) [0,1,2,3,4,5,6,7,8,9] [(0,0),(1,0),(2,0),(3,0),(4,0),(5,0),(6,0),(7,0),(8,1),(9,0)];kernel_rfl)|(apply Ce;exact J;kernel_rfl;(iterate 3 exact J))|(apply De;exact J;kernel_rfl;exact J;exact J;(first|(apply Ar;exact J;(first|exact Bh rfl c1 rfl|exact Bh rfl c2 rfl)));exact QA)|(apply Br;exact J;kernel_rfl;(iterate 3 exact J);(first|(apply Aq;exact J;exact Mca;exact Tu _ _ _;refine ⟨Le.refl _,QN,?_⟩)))|(apply Bm;kernel_rfl;exact J)|(apply Bb;(iterate 3 exact J)))
 all_goals rfl
theorem sorted2_c (h:Ro)(b:Nat)(hb:At h ⟨b,0,none⟩ [.func (.func 153) #[] #[]])(x y:Cf)(hx:Eu h x)(hy:Eu h y):Val Tryz.prog 206 #[Lp x,Lp y,.pointer (some ⟨b,0,none⟩)] h (.bool (decide (x.num=y.num))):=by
 refine Az (args:=[_,_,_]) ts_ok Go.Proofs.Tryz.func206 rfl rfl fun w0 X0 => ?_
 have hv:=cmp2_c h x y hx hy
 repeat' (first|apply Ac|apply Aa|apply Ab|(apply Ad;(iterate 3 exact J))|(apply Bd;exact J;exact J;(first|(apply Ar;exact J;first|exact Bh rfl (by assumption) rfl|exact Dc rfl (by assumption) rfl|exact Db rfl (by assumption) rfl|exact Lv_roF3 rfl (by assumption) rfl));exact QA)|(apply Af;(iterate 3 exact J);(first|(apply Cd (f:=153) (fs:=[]) (cs:=[]);exact J;exact J;exact has153;exact hv;skip)))|(apply Bb;(iterate 3 exact J)))
 all_goals (congr 1;rw [Bool.eq_iff_iff,Kt,decide_eq_true_eq];exact Ko)
theorem sorted1_c (h:Ro)(hG:Kg h)(b:Nat)(hb:At h ⟨b,0,none⟩ [.func (.func 47) #[] #[]])(x y:Fsh×Fct)(hx:FGd h x)(hy:FGd h y):Res Tryz.prog 202 #[Fc x.1 x.2,Fc y.1 y.2,.pointer (some ⟨b,0,none⟩)] h (fun u _=>u=.bool (decide (Jv x.2 y.2=0))):=by
 refine Bq (args:=[_,_,_]) ts_ok Go.Proofs.Tryz.func202 rfl rfl fun w0 X0 => ?_
 have hv:=fun h' (hl:Le h h')=>cmp_c h' (hG.le hl) x y (hx.le hl) (hy.le hl)
 repeat' (first|apply Ac|apply Aa|apply Ab|(apply Ad;(iterate 3 exact J))|(apply Ai;exact J;exact Av rfl QM rfl;exact J;exact J)|(apply Bd;exact J;exact J;(first|(apply Ar;exact J;first|exact Bh rfl (by assumption) rfl|exact Dc rfl (by assumption) rfl|exact Db rfl (by assumption) rfl|exact Lv_roF3 rfl (by assumption) rfl));exact QA)|(apply Af;(iterate 3 exact J);(first|(apply Ao;exact J;intro b;skip)|(apply Gh (f:=47) (fs:=[]) (cs:=[]);exact J;exact J;exact Vh;exact hv _ QL;rintro v1 h3 hle1 rfl;skip)))|(apply Cb;(iterate 3 exact J)))
 all_goals (congr 1;rw [Bool.eq_iff_iff,Kt,decide_eq_true_eq])
theorem ltOfN {h:Ro}(x y : {p:Cf // Eu h p}):Go.Proofs.ltOf (fun (x y : {p:Cf // Eu h p})=>Ey x.1.num y.1.num) x y=decide (x.1.num<y.1.num):=by
 unfold Go.Proofs.ltOf
 rw [decide_eq_decide];exact Yf
theorem cmpN_swo {h:Ro}:Go.Sort.SWO (Go.Proofs.ltOf fun (x y : {p:Cf // Eu h p})=>Ey x.1.num y.1.num) where
 irrefl x:=by rw [ltOfN,decide_eq_false_iff_not];omega
 trans x y z h1 h2:=by rw [ltOfN,decide_eq_true_eq] at *;omega
 ntrans x y z h1 h2:=by rw [ltOfN,decide_eq_false_iff_not] at *;omega
theorem Uv {α:Type}{P:α→Prop}(e:α→List Value):∀ (l:List {x:α // P x}),l.flatMap (fun a=>e a.1)=(l.map (·.1)).flatMap e
 | []=>rfl
 | x::r=>by rw [List.map_cons,List.flatMap_cons,List.flatMap_cons,Uv e r]
theorem sortP_c (h:Ro)(v:Value)(xs:List Cf)(n:Nat)(hn:n≤1000000)(hx:xs.length=n)(hg:∀ p∈xs,Eu h p) :
  Fn Tryz.prog 204 #[v,.func (.func 153) #[] #[]] [By 172 1 v n (xs.flatMap Mi)] h fun u Es _=>u=.tuple #[]∧∃ ys:List Cf,ys.Perm xs∧(ys.Pairwise fun x y=>x.num≤y.num)∧Es=[By 172 1 v n (ys.flatMap Mi)]:=by
 have hN:∀ (p:Option Addr) (cap:Nat) (w:World),Calls Tryz.prog 204 #[.slice p 0 cap,.func (.func 153) #[] #[]] w fun e w'=>e=.returned (.tuple #[])∧w'=w:=fun p cap w=>Go.Proofs.AnyF.slices_SortFunc_none { Go.Proofs.Tryz.sortFiles with } p cap _ w
 cases xs with
 | nil =>
   simp only [List.length_nil] at hx
   subst hx
   unfold Fn
   intro w X0 hl ⟨Ds,ho,hnd,hb⟩
   have H0:=Hp.start (w:=w) (X0:=X0) (h0:=h) hl ⟨Ds,ho,hnd,hb⟩
   obtain ⟨D,hD⟩:=H0.get (List.Mem.head _)
   obtain ⟨A,c,hvv⟩:=Ou hD
   subst hvv
   refine (hN A c w).mono ?_
   rintro e' w' ⟨rfl,rfl⟩
   exact ⟨_,rfl,_,h,⟨rfl,[],.refl _,by simp,rfl⟩,H0⟩
 | cons x r =>
   have hgx:=hg x List.mem_cons_self
   haveI:Inhabited {p:Cf // Eu h p}:=⟨⟨x,hgx⟩⟩
   have hC:∀ (blk off cap:Nat) (d:Array {p:Cf // Eu h p}) (w:World),Go.Proofs.CmpLays1 Tryz.prog 153 #[] (fun a : {p:Cf // Eu h p}=>Lp a.1) (fun x y=>Ey x.1.num y.1.num) blk off d.size w→Go.Sort.Holds (fun a : {p:Cf // Eu h p}=>Lp a.1) w blk off d→blk<w.heap.size→d.size<4611686018427387904 →
    Calls Tryz.prog 204 #[.slice (some ⟨blk,off,none⟩) d.size cap,.func (.func 153) #[] #[]] w fun e w'=>e=.returned (.tuple #[])∧∃ d' n os,Go.Sort.PermIn 0 d.size d d'∧Go.Sort.SortedIn (Go.Proofs.ltOf fun (x y : {p:Cf // Eu h p})=>Ey x.1.num y.1.num) 0 d.size d'∧w'=Go.Proofs.sortWorld (fun a : {p:Cf // Eu h p}=>Lp a.1) w blk off n d' os:=fun blk off cap d w hc hH hb hs =>
    Go.Proofs.Any.slices_SortFunc Go.Proofs.Tryz.sortFiles (fun a : {p:Cf // Eu h p}=>Lp a.1) (fun _=>rfl) (fun x y=>Ey x.1.num y.1.num) cmpN_swo 153 #[] blk off cap d w (Go.Proofs.enters_of Go.Proofs.Tryz.func153 (by kernel_rfl) rfl) hc hH hb hs
   have hcmp:∀ x y : {p:Cf // Eu h p},Res Tryz.prog 153 (#[Lp x.1,Lp y.1]++#[]) h fun u _=>u=.int .i64 (Ey x.1.num y.1.num):=fun x y=>by
    rw [Array.append_empty]
    exact Ug (cmp2_c h x.1 y.1 x.2 y.2)
   have key:=sortFnP1 (α:={p:Cf // Eu h p}) (P:=Tryz.prog) (f:=204) (gf:=153) (cb:=#[]) (fun a=>Lp a.1) (fun x y=>Ey x.1.num y.1.num) h hC hN hcmp 172 v ((x::r).attachWith (Eu h) hg) n (by omega) (by rw [List.length_attachWith];exact hx)
   have e7:∀ l:List {p:Cf // Eu h p},(l.flatMap fun a=>[Lp a.1])=(l.map (·.1)).flatMap Mi:=fun l=>Uv Mi l
   rw [e7,Pn] at key
   refine key.mono ?_
   rintro u Es h' hle ⟨rfl,ys,hp,hso,rfl⟩
   refine ⟨rfl,ys.map (·.1),?_,?_,by rw [e7]⟩
   · rw [← Pn (x::r) hg];exact hp.map _
   · refine List.pairwise_map.2 (hso.imp fun {a b} hab => ?_)
     rw [ltOfN,decide_eq_false_iff_not] at hab
     omega
theorem cloneP_c (h:Ro)(A:Option Addr)(n c:Nat)(l:List Cf)(hx:Cc Mi 1 h A n l)(hn:n≤1000000):Fn Tryz.prog 203 #[.slice A n c] [] h fun u Es _=>Es=[By 172 1 u n (l.flatMap Mi)]:=by
 refine Bo (args:=[_]) ts_ok Go.Proofs.Tryz.func203 rfl rfl fun w0 X0 => ?_
 have hxl:=hx.len
 refine Eh 172 1 ?_
 cases A with
 | none =>
   have hn0:n=0:=by
    rcases Nat.eq_zero_or_pos n with q|q
    · exact q
    · have:=hx.addrD q;cases this
   have hl0:l=[]:=List.eq_nil_of_length_eq_zero (by omega)
   subst hn0;subst hl0
   repeat' (first|apply Ac|apply Au|apply Aa|apply Ab|(apply Ad;(iterate 3 exact J))|(apply Aj;exact J;all_goals (intro hc;try simp only [hcS,reduceCtorEq] at hc;try (exfalso;omega))))
   · exact Ca rfl rfl rfl (List.Sublist.refl _) rfl
   · exfalso;simp at hc
 | some ad =>
   repeat' (first|apply Ac|apply Au|apply Aa|apply Ab|(apply Ad;(iterate 3 exact J))|(apply Af;(iterate 3 exact J);(first|(apply Cz (n:=0);(iterate 3 exact J);exact List.cons_ne_nil _ _;(iterate 6 exact J);intro bo;skip)|(apply Bk (enc:=Mi) (xs:=[]) (ys:=l);(iterate 7 exact J);exact hx;exact fun _=>rfl;exact fun x=>Ci rfl;intro v1;exact QR;omega;exact J;intro A3 c3;skip)))|(apply Aj;exact J;all_goals (intro hc;try simp only [hcS,reduceCtorEq] at hc;try (exfalso;omega))))
   all_goals
    rw [List.nil_append,Nat.zero_add]
    exact Ca rfl rfl rfl (.cons_cons _ (List.nil_sublist _)) rfl
theorem Hza (h:Ro)(bq:Nat)(hb:At h ⟨bq,0,none⟩ [.func (.func 153) #[] #[]])(v:Value)(ys:List Cf)(n:Nat)(hn:n≤1000000)(hl:ys.length=n)(hg:∀ p∈ys,Eu h p)(hs:ys.Pairwise fun x y=>x.num<y.num) :
  Fn Tryz.prog 205 #[v,.func (.func 206) #[] #[.pointer (some ⟨bq,0,none⟩)]] [By 172 1 v n (ys.flatMap Mi)] h fun u Es _=>Es=[By 172 1 u n (ys.flatMap Mi)]:=by
 refine Bo (args:=[_,_]) ts_ok Go.Proofs.Tryz.func205 rfl rfl fun w0 X0 => ?_
 by_cases h2:n<2
 · refine Sy QM ?_
   intro A0 c0 e0
   subst e0
   repeat' (first|apply Ac|apply Aa|apply Ab|(apply Ad;(iterate 3 exact J))|(apply Aj;exact J;all_goals (intro hc;try simp only [hcS,reduceCtorEq] at hc;try (exfalso;omega))))
   all_goals first
    | (exfalso;omega)
    | exact Ca rfl rfl rfl (List.Sublist.refl _) rfl
 · refine Cza QM (by omega) ?_
   intro b c hnc e0
   subst e0
   repeat' (first|apply Ac|apply Au|apply Ak|apply Aa|apply Ab|(apply Ad;(iterate 3 exact J))|(apply Aj;exact J;all_goals (intro hc;try simp only [hcS,reduceCtorEq] at hc;try (exfalso;omega))))
   refine Bt (X:=Nat) (fun x=>1≤x∧x≤n) (fun x=>n-x)
    (fun x=>[(5,.int .i64 x),(0,.slice (some ⟨b,0,none⟩) n c),(1,.func (.func 206) #[] #[.pointer (some ⟨bq,0,none⟩)])])
    (fun x=>[By 172 1 (.slice (some ⟨b,0,none⟩) n c) n (ys.flatMap Mi)]) (fun x=>h) 1 ⟨by omega,by omega⟩ QS QT rfl ?_
   rintro k ⟨hk1,hkn⟩ ih
   by_cases hlt:k<n
   · obtain ⟨x,hx⟩:∃ x,ys[k]? = some x:=⟨_,List.getElem?_eq_getElem (by omega)⟩
     obtain ⟨y,hy⟩:∃ y,ys[k-1]? = some y:=⟨_,List.getElem?_eq_getElem (by omega)⟩
     have hgx:=hg x (List.mem_of_getElem? hx)
     have hgy:=hg y (List.mem_of_getElem? hy)
     have hne:x.num≠y.num:=by
      rw [List.pairwise_iff_getElem] at hs
      have:=hs (k-1) k (by omega) (by omega) (by omega)
      rw [List.getElem?_eq_getElem (by omega)] at hx hy
      have e1:=Option.some.inj hx
      have e2:=Option.some.inj hy
      rw [e1,e2] at this
      omega
     have hv:=sorted2_c h bq hb x y hgx hgy
     rw [decide_eq_false hne] at hv
     have h3:=ih (k+1) ⟨by omega,by omega⟩ (by omega)
     repeat' (first|apply Ac|apply Au|apply Ap|apply Ak|apply Aa|apply Ab|(apply Bg;(iterate 3 exact J);omega;exact J;exact J)|(apply Ad;(iterate 3 exact J))|(apply Bf (n:=6) [0,1,2,3,4,5,6,7,8,9,10] [(0,0),(1,0),(2,0),(3,0),(4,0),(5,0),(6,0),(7,0),(8,0),(9,0),(10,1)];kernel_rfl)|(apply Vb;exact J;kernel_rfl;(iterate 5 exact J);omega)|(apply Ce;exact J;kernel_rfl;(iterate 3 exact J))|(apply De;exact J;kernel_rfl;exact J;exact J;(first|(apply Hz (j:=k);(iterate 5 exact J);(with_reducible exact J);omega)|(apply Hz (j:=k-1);(iterate 5 exact J);omega;omega)|(apply Jx (off:=0) (enc:=Mi) (b:=b) (k:=k) (sz:=1) (n:=n) (c:=c) (xs:=ys) (e:=172);exact J;exact J;exact addE _ _;exact fun _=>rfl;exact hx;exact J)|(apply Jx (off:=0) (enc:=Mi) (b:=b) (k:=k-1) (sz:=1) (n:=n) (c:=c) (xs:=ys) (e:=172);exact J;exact J;exact addE _ _;exact fun _=>rfl;exact hy;exact J));exact QA)|(apply Br;exact J;kernel_rfl;(iterate 3 exact J);(first|(apply Cd (f:=206) (fs:=[]) (cs:=[.pointer (some ⟨bq,0,none⟩)]);exact J;exact J;exact has206;exact hv;refine ⟨Le.refl _,QN,?_⟩)))|(apply Bm;kernel_rfl;exact J)|(apply Aj;exact J;all_goals (intro hc;try simp only [hcS,reduceCtorEq] at hc;try (exfalso;omega))))
     all_goals first
      | (exfalso;omega)
      | (refine Bw QS QT (h3))
   · have hk3:k=n:=by omega
     subst hk3
     clear ih
     repeat' (first|apply Ac|apply Aa|apply Ab|(apply Bn;exact J)|(apply Ad;(iterate 3 exact J))|(apply Aj;exact J;all_goals (intro hc;try simp only [hcS,reduceCtorEq] at hc;try (exfalso;omega))))
     all_goals exact Ca rfl rfl rfl (List.Sublist.refl _) rfl
end Go.Hw
namespace Go.Hw
open Go
attribute [local irreducible] GO GOl GDp Val Fn Res At Fx Blk By Dk Cl Has Yl Mn Naa
open Go.Proofs (Tryz.prog)
theorem Fwa {C:Ctx}{l:Sl}{Es Es':List Asn}{h:Ro}{o:Oper}{G:Value→List Asn→Ro→Prop}{α:Type}{enc:α→List Value}{e sz:Nat}{v:Value}{n:Nat}{xs:List α}(hl:∀ x,(enc x).length=sz)(hn:xs.length=n)(hT:Je Es (By e sz v n (xs.flatMap enc)) Es')
  (g:∀ A c h',Le h h'→v=.slice A n c→n≤c→Cc enc sz h' A n xs→Hq C l Es' h' o G):Hq C l Es h o G:=fun a w hs hp=>by
 obtain ⟨D,h',hle,hD,hp'⟩:=hp.release hT
 obtain ⟨A,c,e1,e2,e3⟩:=Iu hl hn hD
 exact g A c h' hle e1 e2 e3 a w hs hp'
theorem OpTo_stF {C:Ctx}{l:Sl}{Es Es':List Asn}{h:Ro}{G:Value→List Asn→Ro→Prop}{ty:TypeId}{pos:String}{aft:Array Edge}{gd:Option (Nat×Bool)}{t e:TypeId}{x y:Operand}{b n j:Nat}{v:Value}{cs cs':List Value}{T:Ty}
  (hT:Cu t C.ts=some T) (hx:evl l x=some (.pointer (some (((⟨b,0,none⟩:Addr).add n).add (j * 1))))) (hy:evl l y=some v) (hR:Nu Es (Blk b e cs) (Blk b e cs') Es') (hp:Cn v=[v]) (hn:n+j<cs.length) (hc:cs'=cs.set (n+j) v)
  (hl:T.size=1) (h1:Ot [v]=true) (g:G undef Es' h):Hq C l Es h ⟨none,.store t x y,ty,pos,aft,gd⟩ G :=
 Ah (off:=n+j) (cs':=cs') hT (by rw [hx,Ee,Fu,Nat.zero_add,Nat.mul_one]) hy hR (by rw [hp,Bla _ _ _ hn,hc]) (by rw [hp,hl];rfl) (by rw [hp];exact h1) g
theorem Dga {ys:List Cf}(hs:ys.Pairwise fun x y=>x.num≤y.num)(hn:(ys.map (·.num)).Nodup):ys.Pairwise fun x y=>x.num<y.num:=by
 have h2:ys.Pairwise fun x y=>x.num≠y.num:=List.pairwise_map.1 hn
 exact (hs.and h2).imp fun {a b} q=>by have:=q.1;have:=q.2;omega
theorem sortedP_c (h:Ro)(A:Option Addr)(n c:Nat)(l:List Cf)(hx:Cc Mi 1 h A n l)(hn:n≤1000000)(hg:∀ p∈l,Eu h p)(hnd:(l.map (·.num)).Nodup):Fn Tryz.prog 152 #[.slice A n c,.func (.func 153) #[] #[]] [] h fun u Es h'=>∃ (A':Option Addr) (c':Nat) (ys:List Cf),u=.slice A' n c'∧ys.Perm l∧(ys.Pairwise fun x y=>x.num<y.num)∧Es=[By 172 1 (.slice A' n c') n (ys.flatMap Mi)]:=by
 refine Bo (args:=[_,_]) ts_ok Go.Proofs.Tryz.func152 rfl rfl fun w0 X0 => ?_
 have hlen:=hx.len
 repeat' (first|apply Ac|apply Aa|apply Ab|(apply Ad;(iterate 3 exact J))|(apply Ai;exact J;exact Av rfl QM rfl;exact J;exact J)|(apply Af;(iterate 3 exact J);(first|(apply Ao;exact J;intro b;skip)|(apply Bi;exact J;exact has203;exact cloneP_c _ A n c l (hx.le QL) hn;exact QT;rintro vc Ec hc1 hlc rfl;skip)|(apply Bi;exact J;exact has204;exact sortP_c _ _ l n hn hlen (fun p hp=>(hg p hp).le QL);exact QT;rintro vs Es9 hs9 hls ⟨rfl,ys,hpm,hso,rfl⟩;skip)|(refine Cq QK ?_;intro h1 hle1 hc1;apply Bi;exact J;exact has205;exact Hza h1 _ hc1 _ ys n hn (by rw [hpm.length_eq,hlen]) (fun p hp=>(hg p (hpm.mem_iff.1 hp)).le QL) (Dga hso ((hpm.map (·.num)).nodup_iff.2 hnd));exact QT;rintro vk Ek hk9 hlk rfl;skip))))
 all_goals
  refine Sy QM ?_
  intro A0 c0 e0
  subst e0
  exact Ca rfl rfl rfl (.cons_cons _ (List.nil_sublist _)) ⟨A0,c0,ys,rfl,hpm,Dga hso ((hpm.map (·.num)).nodup_iff.2 hnd),rfl⟩
theorem sortedF_c (h:Ro)(hG:Kg h)(A:Option Addr)(n c:Nat)(l:List (Fsh×Fct))(hx:Cc Bx 82 h A n l)(hn:n≤1000000)(hg:∀ p∈l,FGd h p):Fn Tryz.prog 151 #[.slice A n c,.func (.func 47) #[] #[]] [] h fun u Es h'=>∃ A' c' zs,u=.slice A' zs.length c'∧fcs zs=Da (fcs l)∧(∀ p∈zs,p∈l)∧zs.length≤n∧Es=[By 57 82 (.slice A' zs.length c') zs.length (zs.flatMap Bx)]:=by
 refine Bo (args:=[_,_]) ts_ok Go.Proofs.Tryz.func151 rfl rfl fun w0 X0 => ?_
 have hlen:=hx.len
 repeat' (first|apply Ac|apply Aa|apply Ab|(apply Ad;(iterate 3 exact J))|(apply Ai;exact J;exact Av rfl QM rfl;exact J;exact J)|(apply Af;(iterate 3 exact J);(first|(apply Ao;exact J;intro b;skip)|(apply Bi;exact J;exact has199;exact clone_c _ A n c l (hx.le QL) hn;exact QT;rintro vc Ec hc1 hlc rfl;skip)|(apply Bi;exact J;exact has200;exact sortF_c _ (hG.le QL) _ l n hn hlen (fun p hp=>(hg p hp).le QL);exact QT;rintro vs Es9 hs9 hls ⟨rfl,ys,hpm,hso,rfl⟩;skip)|(refine Cq QK ?_;intro h1 hle1 hc1;apply Bi;exact J;exact has201;exact Mua 202 [.pointer (some ⟨_,0,none⟩)] has202 h1 (fun h' hl' x y gx gy=>sorted1_c h' (hG.le QL) _ (hc1.le hl') x y gx gy) _ ys n hn (by rw [hpm.length_eq,hlen]) (fun p hp=>(hg p (hpm.mem_iff.1 hp)).le QL);exact QT;rintro vk Ek hk9 hlk rfl;skip))))
 all_goals
  refine Sy QM ?_
  intro A0 c0 e0
  subst e0
  exact Ca rfl rfl rfl (.cons_cons _ (List.nil_sublist _)) ⟨A0,c0,Ka ys,rfl,Ze hpm (fun z hz=>(hg z hz).in_) hso,fun p hp=>hpm.mem_iff.1 ((E9a ys).subset hp),Nat.le_trans (Faa ys) (by rw [hpm.length_eq,hlen];exact Nat.le_refl _),rfl⟩
end Go.Hw
