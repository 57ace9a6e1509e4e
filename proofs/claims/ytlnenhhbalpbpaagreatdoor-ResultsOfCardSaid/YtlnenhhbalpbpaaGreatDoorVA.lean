import Derived.Test.YtlnenhhbalpbpaaGreatDoorFC
import Derived.Test.YtlnenhhbalpbpaaGreatDoorEB
import Derived.Test.YtlnenhhbalpbpaaGreatDoorNA
import Derived.Test.YtlnenhhbalpbpaaGreatDoorHE
import Derived.Test.YtlnenhhbalpbpaaGreatDoorMSh
set_option linter.all false
namespace Go.Hw
open Go Go.Lib
structure Bt where
 b:Nat
 num:Int
 A:Option Addr
 c:Nat
 rs:List (Fsh×Fct)
 s:List Bool
instance:Inhabited Bt:=⟨⟨0,0,none,0,[],[]⟩⟩
def Ri (C:List Fct) (n:Int) (i:Nat):Prop:=∃ f∈C,f.kind=5∧f.aCase=n∧f.aInst=(i:Int)∧f.aSusp=true
structure Cz (C:List (Fsh×Fct)) (fs:List Bt):Prop where
 nodup:(fs.map (·.num)).Nodup
 rs:∀ x∈fs,x.rs=C.filter fun p=>decide (Bp x.num p.2)
 len:∀ x∈fs,x.s.length=4
 sus:∀ x∈fs,∀ i,i<4→(x.s.getD i false=true↔Ri (fcs C) x.num i)
 ru:∀ p∈C,p.2.kind=4→∃ x∈fs,x.num=p.2.ru.case
 ap:∀ p∈C,p.2.kind=5→p.2.aSusp=true→∃ x∈fs,x.num=p.2.aCase
theorem Cz.nil:Cz [] []:=⟨by simp,by simp,by simp,by simp,by simp,by simp⟩
def Boa (b:Nat) (n:Int):Bt:=⟨b,n,none,0,[],[false,false,false,false]⟩
theorem Cz.get {C:List (Fsh×Fct)}{fs:List Bt}(h:Cz C fs){b:Nat}{n:Int}(hn:∀ x∈fs,x.num≠n):Cz C (fs++[Boa b n]) where
 nodup:=by
  rw [List.map_append,List.nodup_append]
  refine ⟨h.nodup,by simp,fun a ha c hc => ?_⟩
  obtain ⟨x,hx,rfl⟩:=List.mem_map.1 ha
  rw [List.map_cons,List.map_nil,List.mem_singleton] at hc
  subst hc
  exact hn x hx
 rs x hx:=by
  rcases List.mem_append.1 hx with e|e
  · exact h.rs x e
  · rw [List.mem_singleton] at e;subst e
    symm
    show C.filter (fun p=>decide (Bp n p.2))=[]
    rw [List.filter_eq_nil_iff]
    intro p hp q
    have q:=of_decide_eq_true q
    obtain ⟨x,hx,e⟩:=h.ru p hp q.1
    exact hn x hx (e.trans q.2)
 len x hx:=by
  rcases List.mem_append.1 hx with e|e
  · exact h.len x e
  · rw [List.mem_singleton] at e;subst e;rfl
 sus x hx i hi:=by
  rcases List.mem_append.1 hx with e|e
  · exact h.sus x e i hi
  · rw [List.mem_singleton] at e;subst e
    constructor
    · intro q
      exfalso
      have:∀ i,i<4→([false,false,false,false].getD i false)=false:=by decide
      have q2:([false,false,false,false].getD i false)=true:=q
      rw [this i hi] at q2
      cases q2
    · rintro ⟨f,hf,h5,hc,_,hs⟩
      obtain ⟨p,hp,rfl⟩:=List.mem_map.1 hf
      obtain ⟨x,hx,e⟩:=h.ap p hp h5 hs
      exact absurd (e.trans hc) (hn x hx)
 ru p hp hk:=by
  obtain ⟨x,hx,e⟩:=h.ru p hp hk
  exact ⟨x,List.mem_append.2 (.inl hx),e⟩
 ap p hp hk hs:=by
  obtain ⟨x,hx,e⟩:=h.ap p hp hk hs
  exact ⟨x,List.mem_append.2 (.inl hx),e⟩
theorem Dva {pre post:List Bt}{x y:Bt}(h:((pre++x::post).map (·.num)).Nodup)(hy:y∈pre++post):y.num≠x.num:=by
 rw [List.map_append,List.map_cons,List.nodup_append,List.nodup_cons] at h
 obtain ⟨_,⟨h2,_⟩,h3⟩:=h
 rcases List.mem_append.1 hy with e|e
 · exact h3 _ (List.mem_map_of_mem e) _ QAn
 · exact fun q=>h2 (by rw [← q];exact List.mem_map_of_mem e)
theorem Kka {C:List Fct}{f:Fct}(hk:f.kind=4)(n:Int)(i:Nat):Ri (C++[f]) n i↔Ri C n i:=by
 constructor
 · rintro ⟨g,hg,h5,r⟩
   rcases List.mem_append.1 hg with e|e
   · exact ⟨g,e,h5,r⟩
   · rw [List.mem_singleton] at e;subst e;omega
 · rintro ⟨g,hg,r⟩
   exact ⟨g,List.mem_append.2 (.inl hg),r⟩
theorem Cz.ruling {C:List (Fsh×Fct)}{pre post:List Bt}{x:Bt}(h:Cz C (pre++x::post)){p:Fsh×Fct}(hk:p.2.kind=4)(hn:x.num=p.2.ru.case)(A:Option Addr)(c:Nat) :
  Cz (C++[p]) (pre++⟨x.b,x.num,A,c,x.rs++[p],x.s⟩::post):=by
 have hmem:∀ y,y∈pre++(⟨x.b,x.num,A,c,x.rs++[p],x.s⟩:Bt)::post→y=⟨x.b,x.num,A,c,x.rs++[p],x.s⟩∨(y∈pre++post∧y∈pre++x::post):=fun y hy=>by
  rcases List.mem_append.1 hy with e|e
  · exact .inr ⟨List.mem_append.2 (.inl e),List.mem_append.2 (.inl e)⟩
  · rcases List.mem_cons.1 e with e|e
    · exact .inl e
    · exact .inr ⟨List.mem_append.2 (.inr e),List.mem_append.2 (.inr (List.mem_cons_of_mem _ e))⟩
 have hx:x∈pre++x::post:=by simp
 have hback:∀ n,(∃ y∈pre++x::post,y.num=n)→∃ y∈pre++(⟨x.b,x.num,A,c,x.rs++[p],x.s⟩:Bt)::post,y.num=n:=by
  rintro n ⟨y,hy,e⟩
  rcases List.mem_append.1 hy with q|q
  · exact ⟨y,List.mem_append.2 (.inl q),e⟩
  · rcases List.mem_cons.1 q with q|q
    · subst q;exact ⟨_,List.mem_append.2 (.inr List.mem_cons_self),e⟩
    · exact ⟨y,List.mem_append.2 (.inr (List.mem_cons_of_mem _ q)),e⟩
 constructor
 · have:=h.nodup
   rw [List.map_append,List.map_cons] at this ⊢
   exact this
 · intro y hy
   rw [List.filter_append]
   rcases hmem y hy with e|⟨e1,e2⟩
   · subst e
     show x.rs++[p]=_
     rw [h.rs x hx]
     have:Bp x.num p.2:=⟨hk,hn.symm⟩
     simp [this]
   · rw [h.rs y e2]
     have:¬ Bp y.num p.2:=fun q=>Dva h.nodup e1 (q.2.symm.trans hn.symm)
     simp [this]
 · intro y hy
   rcases hmem y hy with e|⟨e1,e2⟩
   · subst e;exact h.len x hx
   · exact h.len y e2
 · intro y hy i hi
   have hf:fcs (C++[p])=fcs C++[p.2]:=by simp [fcs]
   rw [hf,Kka hk]
   rcases hmem y hy with e|⟨e1,e2⟩
   · subst e;exact h.sus x hx i hi
   · exact h.sus y e2 i hi
 · intro q hq hk2
   rcases List.mem_append.1 hq with e|e
   · exact hback _ (h.ru q e hk2)
   · rw [List.mem_singleton] at e;subst e;exact hback _ ⟨x,hx,hn⟩
 · intro q hq hk2 hs
   rcases List.mem_append.1 hq with e|e
   · exact hback _ (h.ap q e hk2 hs)
   · rw [List.mem_singleton] at e;subst e;omega
theorem Yi {C:List Fct}{f:Fct}(n:Int)(i:Nat):Ri (C++[f]) n i↔Ri C n i∨(f.kind=5∧f.aCase=n∧f.aInst=(i:Int)∧f.aSusp=true):=by
 constructor
 · rintro ⟨g,hg,r⟩
   rcases List.mem_append.1 hg with e|e
   · exact .inl ⟨g,e,r⟩
   · rw [List.mem_singleton] at e;subst e;exact .inr r
 · rintro (⟨g,hg,r⟩|r)
   · exact ⟨g,List.mem_append.2 (.inl hg),r⟩
   · exact ⟨f,by simp,r⟩
theorem Cz.appeal {C:List (Fsh×Fct)}{pre post:List Bt}{x:Bt}(h:Cz C (pre++x::post)){p:Fsh×Fct}(hk:p.2.kind=5)(hs:p.2.aSusp=true)(hn:x.num=p.2.aCase){j:Nat}(hj:p.2.aInst=(j:Int))(hj4:j<4) :
  Cz (C++[p]) (pre++⟨x.b,x.num,x.A,x.c,x.rs,x.s.set j true⟩::post):=by
 have hmem:∀ y,y∈pre++(⟨x.b,x.num,x.A,x.c,x.rs,x.s.set j true⟩:Bt)::post→y=⟨x.b,x.num,x.A,x.c,x.rs,x.s.set j true⟩∨(y∈pre++post∧y∈pre++x::post):=fun y hy=>by
  rcases List.mem_append.1 hy with e|e
  · exact .inr ⟨List.mem_append.2 (.inl e),List.mem_append.2 (.inl e)⟩
  · rcases List.mem_cons.1 e with e|e
    · exact .inl e
    · exact .inr ⟨List.mem_append.2 (.inr e),List.mem_append.2 (.inr (List.mem_cons_of_mem _ e))⟩
 have hx:x∈pre++x::post:=by simp
 have hback:∀ n,(∃ y∈pre++x::post,y.num=n)→∃ y∈pre++(⟨x.b,x.num,x.A,x.c,x.rs,x.s.set j true⟩:Bt)::post,y.num=n:=by
  rintro n ⟨y,hy,e⟩
  rcases List.mem_append.1 hy with q|q
  · exact ⟨y,List.mem_append.2 (.inl q),e⟩
  · rcases List.mem_cons.1 q with q|q
    · subst q;exact ⟨_,List.mem_append.2 (.inr List.mem_cons_self),e⟩
    · exact ⟨y,List.mem_append.2 (.inr (List.mem_cons_of_mem _ q)),e⟩
 have hno:∀ n,¬ Bp n p.2:=fun n q=>by have:=q.1;omega
 have hf:fcs (C++[p])=fcs C++[p.2]:=by simp [fcs]
 constructor
 · have:=h.nodup
   rw [List.map_append,List.map_cons] at this ⊢
   exact this
 · intro y hy
   rw [List.filter_append]
   have h9:[p].filter (fun p=>decide (Bp y.num p.2))=[]:=by simp [hno]
   rw [h9,List.append_nil]
   rcases hmem y hy with e|⟨e1,e2⟩
   · subst e
     exact h.rs x hx
   · exact h.rs y e2
 · intro y hy
   rcases hmem y hy with e|⟨e1,e2⟩
   · subst e
     show (x.s.set j true).length=4
     rw [List.length_set];exact h.len x hx
   · exact h.len y e2
 · intro y hy i hi
   rw [hf,Yi]
   rcases hmem y hy with e|⟨e1,e2⟩
   · subst e
     have hl:=h.len x hx
     show (x.s.set j true).getD i false=true↔Ri (fcs C) x.num i∨_
     rw [← h.sus x hx i hi]
     by_cases hij:j=i
     · subst hij
       rw [List.getD_eq_getElem?_getD,List.getElem?_set_self QAd]
       simp [hk,hs,hn,hj]
     · rw [List.getD_eq_getElem?_getD,List.getElem?_set_ne hij,← List.getD_eq_getElem?_getD]
       constructor
       · exact .inl
       · rintro (q|q)
         · exact q
         · exact absurd q.2.2.1 (by rw [hj];omega)
   · rw [h.sus y e2 i hi]
     constructor
     · exact .inl
     · rintro (q|q)
       · exact q
       · exact absurd (hn.trans q.2.1) fun e=>Dva h.nodup e1 e.symm
 · intro q hq hk2
   rcases List.mem_append.1 hq with e|e
   · exact hback _ (h.ru q e hk2)
   · rw [List.mem_singleton] at e;subst e;omega
 · intro q hq hk2 hs2
   rcases List.mem_append.1 hq with e|e
   · exact hback _ (h.ap q e hk2 hs2)
   · rw [List.mem_singleton] at e;subst e;exact hback _ ⟨x,hx,hn⟩
theorem Cz.nop {C:List (Fsh×Fct)}{fs:List Bt}(h:Cz C fs){p:Fsh×Fct}(hk:p.2.kind=5)(hs:p.2.aSusp=false):Cz (C++[p]) fs:=by
 have hno:∀ n,¬ Bp n p.2:=fun n q=>by have:=q.1;omega
 have hf:fcs (C++[p])=fcs C++[p.2]:=by simp [fcs]
 constructor
 · exact h.nodup
 · intro y hy
   rw [List.filter_append]
   have h9:[p].filter (fun p=>decide (Bp y.num p.2))=[]:=by simp [hno]
   rw [h9,List.append_nil]
   exact h.rs y hy
 · exact h.len
 · intro y hy i hi
   rw [hf,Yi,h.sus y hy i hi]
   constructor
   · exact .inl
   · rintro (q|q)
     · exact q
     · rw [hs] at q;exact absurd q.2.2.2 QAn
 · intro q hq hk2
   rcases List.mem_append.1 hq with e|e
   · exact h.ru q e hk2
   · rw [List.mem_singleton] at e;subst e;omega
 · intro q hq hk2 hs2
   rcases List.mem_append.1 hq with e|e
   · exact h.ap q e hk2 hs2
   · rw [List.mem_singleton] at e;subst e;rw [hs] at hs2;cases hs2
theorem Gva {C:List (Fsh×Fct)}{fs ys:List Bt}(h:Cz C fs)(hp:ys.Perm (fs.filter fun x => !x.rs.isEmpty))(hs:ys.Pairwise fun x y=>x.num≤y.num):ys.map (·.num)=Cp (fcs C):=by
 have hnd:(ys.map (·.num)).Nodup:=by
  refine (hp.map (·.num)).nodup_iff.2 (List.Nodup.sublist ?_ h.nodup)
  exact List.Sublist.map _ List.filter_sublist
 refine Sa ?_ (Gx _) fun n => ?_
 · have h1:(ys.map (·.num)).Pairwise (· ≤ ·):=List.pairwise_map.2 hs
   have h2:(ys.map (·.num)).Pairwise (· ≠ ·):=hnd
   exact (h1.and h2).imp fun {a b} q=>by have:=q.1;have:=q.2;omega
 · rw [Ja,List.mem_map]
   constructor
   · rintro ⟨x,hx,rfl⟩
     obtain ⟨h1,h2⟩:=List.mem_filter.1 (hp.mem_iff.1 hx)
     have h3:=h.rs x h1
     cases hr:x.rs with
     | nil=>rw [hr] at h2;simp at h2
     | cons p r =>
       have:p∈C.filter fun p=>decide (Bp x.num p.2):=by rw [← h3,hr];simp
       obtain ⟨q1,q2⟩:=List.mem_filter.1 this
       exact ⟨p.2,List.mem_map_of_mem q1,of_decide_eq_true q2⟩
   · rintro ⟨f,hf,ho⟩
     obtain ⟨p,hp2,rfl⟩:=List.mem_map.1 hf
     obtain ⟨x,hx,e⟩:=h.ru p hp2 ho.1
     have hxn:x.num=n:=e.trans ho.2
     refine ⟨x,hp.mem_iff.2 (List.mem_filter.2 ⟨hx,?_⟩),hxn⟩
     have:p∈x.rs:=by rw [h.rs x hx];exact List.mem_filter.2 ⟨hp2,decide_eq_true (by rw [hxn];exact ho)⟩
     cases hr:x.rs with
     | nil=>rw [hr] at this;cases this
     | cons _ _=>rfl
theorem ind_sum (p:Fsh×Fct):∀ {ns:List Int},ns.Nodup→(ns.map fun n=>if Bp n p.2 then 1 else 0).sum≤1
 | [],_=>by simp
 | n::r,h=>by
   obtain ⟨h1,h2⟩:=List.nodup_cons.1 h
   have ih:=ind_sum p h2
   rw [List.map_cons,List.sum_cons]
   by_cases hq:Bp n p.2
   · have:(r.map fun n=>if Bp n p.2 then 1 else 0)=r.map fun _=>0:=List.map_congr_left fun m hm=>by
      rw [if_neg]
      intro q
      have:m=n:=q.2.symm.trans hq.2
      subst this;exact h1 hm
     rw [if_pos hq,this]
     have h0:∀ r:List Int,(r.map fun _=>(0:Nat)).sum=0:=fun r=>by
      induction r with
      | nil=>rfl
      | cons _ _ ih=>rw [List.map_cons,List.sum_cons,ih]
     rw [h0]
     exact Nat.le_refl _
   · rw [if_neg hq];omega
theorem Vh (f g:Int→Nat):∀ ns:List Int,(ns.map fun n=>f n+g n).sum=(ns.map f).sum+(ns.map g).sum
 | []=>rfl
 | n::r=>by rw [List.map_cons,List.sum_cons,Vh f g r,List.map_cons,List.map_cons,List.sum_cons,List.sum_cons];omega
theorem Ela {ns:List Int}(hn:ns.Nodup):∀ C:List (Fsh×Fct),(ns.map fun n=>(C.filter fun p=>decide (Bp n p.2)).length).sum≤C.length
 | []=>by
   have h0:∀ r:List Int,(r.map fun n=>(([]:List (Fsh×Fct)).filter fun p=>decide (Bp n p.2)).length).sum=0:=fun r=>by
    induction r with
    | nil=>rfl
    | cons _ _ ih=>rw [List.map_cons,List.sum_cons,ih];rfl
   rw [h0];exact Nat.zero_le _
 | p::C=>by
   have h1:(ns.map fun n=>((p::C).filter fun p=>decide (Bp n p.2)).length)=ns.map fun n=>(if Bp n p.2 then 1 else 0)+(C.filter fun p=>decide (Bp n p.2)).length:=List.map_congr_left fun n _=>by
    rw [List.filter_cons]
    by_cases hq:Bp n p.2
    · simp [hq];omega
    · simp [hq]
   rw [h1,Vh,List.length_cons]
   have:=ind_sum p hn
   have:=Ela hn C
   omega
def Uf (rs:List (Fsh×Fct)):Int:=rs.foldl (fun m p=>max m p.2.ru.inst) 0
theorem K7a (rs:List (Fsh×Fct))(p:Fsh×Fct):Uf (rs++[p])=max (Uf rs) p.2.ru.inst:=by unfold Uf;rw [List.foldl_append];rfl
end Go.Hw
set_option maxRecDepth 100000
set_option maxHeartbeats 8000000
namespace Go.Hw
open Go
attribute [local irreducible] GO GOl GDp Val Fn Res Ab Du Blk Bd Cd Bf Has Yl
open Go.Proofs.Tryz (prog)
theorem Lua (gf:FuncId)(cb:List Value)(hhas:Has prog gf)(h:Ro)(hcp:∀ h',Le h h'→∀ x y:Fsh×Fct,FGd h' x→FGd h' y→Res prog gf ([Br x.1 x.2,Br y.1 y.2]++cb).toArray h' fun u _=>u=.bool (decide (Gp x.2 y.2=0)))(v:Value)(ys:List (Fsh×Fct))(n:Nat)(hn:n≤1000000)(hl:ys.length=n)(hg:∀ p∈ys,FGd h p) :
  Fn prog 181 #[v,.func (.func gf) #[] cb.toArray] [Bd 57 82 v n (ys.flatMap Aq)] h fun u Es _=>Es=[Bd 57 82 u (Is ys).length ((Is ys).flatMap Aq)]:=by
 refine QXF Proofs.Tryz.func181 fun w0 X0=>?_
 by_cases h2:n<2
 · refine Ru QM ?_
   intro A0 c0 e0
   subst e0
   rw [To QAd,hl]
   repeat' (first|refine QF ?_|(refine QH ?_ ?_<;>intro hc<;>try omega)|fail)
   all_goals first
    | (exfalso;omega)
    | exact Bi rfl rfl rfl (List.Sublist.refl _) rfl
 · refine Cka QM QAd ?_
   intro b c hnc e0
   subst e0
   repeat' (first|refine QF ?_|(refine QH ?_ ?_<;>intro hc<;>try omega)|fail)
   refine Ai (X:=Nat×Ro) (fun x=>1≤x.1∧x.1≤n∧Le h x.2∧Is (ys.take x.1)=ys.take x.1) (fun x=>n-x.1)
    (fun x=>[(5,.int .i64 x.1),(0,.slice (some ⟨b,0,none⟩) n c),(1,.func (.func gf) #[] cb.toArray)])
    (fun x=>[Bd 57 82 (.slice (some ⟨b,0,none⟩) n c) n (ys.flatMap Aq)]) (fun x=>x.2) (1,h) ⟨by dsimp only;omega,by dsimp only;omega,Le.refl _,To QFf⟩ QS QT rfl ?_
   rintro ⟨k,hh⟩ ⟨hk1,hkn,hle,hI⟩ ih
   dsimp only at hk1 hkn hle hI ih ⊢
   by_cases hlt:k<n
   · obtain ⟨x,hx⟩:∃ x,ys[k]? = some x:=⟨_,List.getElem?_eq_getElem QAd⟩
     obtain ⟨y,hy⟩:∃ y,ys[k-1]? = some y:=⟨_,List.getElem?_eq_getElem QAd⟩
     have hgx:=hg x (List.mem_of_getElem? hx)
     have hgy:=hg y (List.mem_of_getElem? hy)
     have hst:=Rb hk1 QAd hx hy
     by_cases hc9:Gp x.2 y.2=0
     · rw [if_pos hc9,List.append_nil,hI] at hst
       repeat' (first|refine QF ?_|(apply Af;exact J;exact J;(first|(apply Ho (lo:=k);(iterate 5 exact J);(with_reducible exact J);omega));exact QA)|(apply Ad (n:=6) [0,1,2,3,4,5,6,7,8,9,10] [(0,0),(1,0),(2,0),(3,0),(4,0),(5,0),(6,0),(7,0),(8,0),(9,0),(10,1)];kernel_rfl)|(apply Bk;exact J;kernel_rfl;exact J;exact J;(first|exact QA8|exact QFd|exact QDb|exact QC5);exact QA)|(apply Ao;exact J;kernel_rfl;(iterate 3 exact J);(first|(apply Ig (f:=gf) (fs:=[]) (cs:=cb);exact J;exact J;exact hhas;exact hcp _ QAa x y (hgx.le QAa) (hgy.le QAa);rw [decide_eq_true hc9];rintro vr hr1 hle1 rfl;refine ⟨hle1,QN,?_⟩)))|(refine QH ?_ ?_<;>intro hc<;>try omega)|fail)
       rw [Vj (show k<c by omega)]
       refine Ai (X:=Nat×Nat×List (Fsh×Fct)×Ro) (fun x=>1≤x.2.1∧k+x.2.1≤n∧x.1≤k+x.2.1-1∧x.2.2.1.length=n∧Le hr1 x.2.2.2∧x.2.2.1.take x.1=Is (ys.take (k+x.2.1))∧(∀ t,k+x.2.1-1≤t→x.2.2.1[t]? = ys[t]?)) (fun x=>n-(k+x.2.1))
        (fun x=>[(7,.int .i64 x.2.1),(6,.slice (some ⟨b,k * 82,none⟩) (n-k) (c-k)),(5,.int .i64 x.1),(0,.slice (some ⟨b,0,none⟩) n c),(1,.func (.func gf) #[] cb.toArray)])
        (fun x=>[Bd 57 82 (.slice (some ⟨b,0,none⟩) n c) n (x.2.2.1.flatMap Aq)]) (fun x=>x.2.2.2) (k,1,ys,hr1) ⟨by dsimp only;omega,by dsimp only;omega,by dsimp only;omega,hl,Le.refl _,hst.symm,fun t _=>rfl⟩ QS QT rfl ?_
       clear ih
       rintro ⟨kk,k2,zs,hz⟩ ⟨j1,j2,j3,j4,j5,j6,j7⟩ ih2
       dsimp only at j1 j2 j3 j4 j5 j6 j7 ih2 ⊢
       clear hst hgx hgy hx hy hc9
       by_cases hlt2:k+k2<n
       · obtain ⟨x2,hx2⟩:∃ x2,ys[k+k2]? = some x2:=⟨_,List.getElem?_eq_getElem QAd⟩
         obtain ⟨y2,hy2⟩:∃ y2,ys[k+k2-1]? = some y2:=⟨_,List.getElem?_eq_getElem QAd⟩
         have hgx2:=hg x2 (List.mem_of_getElem? hx2)
         have hgy2:=hg y2 (List.mem_of_getElem? hy2)
         have hst2:=Rb (show 1≤k+k2 by omega) QAd hx2 hy2
         have hzx:zs[k+k2]? = some x2:=by rw [j7 _ QAd];exact hx2
         have hzy:zs[k+(k2-1)]? = some y2:=by rw [j7 _ QAd,show k+(k2-1)=k+k2-1 by omega];exact hy2
         by_cases hc8:Gp x2.2 y2.2=0
         · rw [if_pos hc8,List.append_nil,← j6] at hst2
           repeat' (first|refine QF ?_|(apply Ad (n:=11) [0,1,2,3,4,5,6,7,8,9,10,11] [(0,0),(1,0),(2,0),(3,0),(4,0),(5,0),(6,0),(7,0),(8,0),(9,0),(10,1),(11,0)];kernel_rfl)|(apply Bk;exact J;kernel_rfl;exact J;exact J;(first|exact QDy|(apply Oz (j:=k2-1);(iterate 5 exact J);omega;omega)|exact QBk|exact QC1);exact QA)|(apply Ao;exact J;kernel_rfl;(iterate 3 exact J);(first|(apply Ig (f:=gf) (fs:=[]) (cs:=cb);exact J;exact J;exact hhas;exact hcp _ QAa x2 y2 (hgx2.le QAa) (hgy2.le QAa);rw [decide_eq_true hc8];rintro vr hr2 hle2 rfl;refine ⟨hle2,QN,?_⟩)))|(refine QH ?_ ?_<;>intro hc<;>try omega)|fail)
           all_goals
            have h9:=ih2 (kk,k2+1,zs,hr2) ⟨by dsimp only;omega,by dsimp only;omega,by dsimp only;omega,j4,by dsimp only;exact j5.trans hle2,by dsimp only;exact hst2.symm,fun t ht=>j7 t (by dsimp only at ht;omega)⟩ QAh
            dsimp only at h9
            refine Aj QS QT (h9)
         · rw [if_neg hc8,← j6] at hst2
           repeat' (first|refine QF ?_|(apply Af;exact J;exact J;(first|exact QDy|(apply Oz (j:=kk);(iterate 5 exact J);(with_reducible exact J);omega)|exact QBk);exact QA)|(refine QG ?_;first|(apply J3a (b:=b) (enc:=Aq) (sz:=82) (k:=kk) (z:=x2) (xs:=zs);exact J;exact J;exact addE _ _;exact J;exact Bc;exact J;exact QR;omega;exact J;exact J))|(apply Ad (n:=11) [0,1,2,3,4,5,6,7,8,9,10,11] [(0,0),(1,0),(2,0),(3,0),(4,0),(5,0),(6,0),(7,0),(8,0),(9,0),(10,1),(11,0)];kernel_rfl)|(apply Bk;exact J;kernel_rfl;exact J;exact J;(first|exact QDy|(apply Oz (j:=k2-1);(iterate 5 exact J);omega;omega)|exact QBk|exact QC1);exact QA)|(apply Ao;exact J;kernel_rfl;(iterate 3 exact J);(first|(apply Ig (f:=gf) (fs:=[]) (cs:=cb);exact J;exact J;exact hhas;exact hcp _ QAa x2 y2 (hgx2.le QAa) (hgy2.le QAa);rw [decide_eq_false hc8];rintro vr hr2 hle2 rfl;refine ⟨hle2,QN,?_⟩)))|(refine QH ?_ ?_<;>intro hc<;>try omega)|fail)
           all_goals
            have hset:(zs.set kk x2).take (kk+1)=zs.take kk++[x2]:=by
             rw [List.take_add_one,List.getElem?_set_self QAd,List.take_set_of_le (Nat.le_refl _)];rfl
            have h9:=ih2 (kk+1,k2+1,zs.set kk x2,hr2) ⟨by dsimp only;omega,by dsimp only;omega,by dsimp only;omega,by dsimp only;rw [List.length_set];exact j4,by dsimp only;exact j5.trans hle2,by dsimp only;rw [hset];exact hst2.symm,fun t ht=>by
             dsimp only at ht ⊢
             rw [List.getElem?_set_ne QAd];exact j7 t QAd⟩ QAh
            dsimp only at h9
            refine Aj QS QT (h9)
       · have hkn2:k+k2=n:=by omega
         clear ih2
         rw [hkn2,List.take_of_length_le (l:=ys) QAd] at j6
         have hkl:(Is ys).length=kk:=by rw [← j6,List.length_take];omega
         repeat' (first|refine QF ?_|(apply Af;exact J;exact J;(first|(apply Ho (lo:=kk);(iterate 5 exact J);(with_reducible exact J);omega));exact QA)|(refine QH ?_ ?_<;>intro hc<;>try omega)|fail)
         all_goals (try (exfalso;omega))
         rw [Vj (show kk<c by omega)]
         repeat' (first|refine QF ?_|(apply Af;exact J;exact J;(first|(apply Jc (hi:=kk);(iterate 5 exact J);(with_reducible exact J);omega;exact hnc));exact QA)|(refine QG ?_;first|(apply Xf (enc:=Aq) (b:=b) (k:=kk) (m:=n-kk) (n:=n) (c:=c) (xs:=zs);(iterate 3 exact J);exact List.cons_ne_nil _ _;(iterate 4 exact J);exact Bc;omega;omega;exact j4;exact QR))|fail)
         rw [Yo,j6,hkl]
         exact Bi rfl rfl rfl (List.Sublist.refl _) rfl
     · rw [if_neg hc9,hI] at hst
       repeat' (first|refine QF ?_|(apply Ad (n:=6) [0,1,2,3,4,5,6,7,8,9,10] [(0,0),(1,0),(2,0),(3,0),(4,0),(5,0),(6,0),(7,0),(8,0),(9,0),(10,1)];kernel_rfl)|(apply Bk;exact J;kernel_rfl;exact J;exact J;(first|exact QA8|exact QFd|exact QDb|exact QC5);exact QA)|(apply Ao;exact J;kernel_rfl;(iterate 3 exact J);(first|(apply Ig (f:=gf) (fs:=[]) (cs:=cb);exact J;exact J;exact hhas;exact hcp _ QAa x y (hgx.le QAa) (hgy.le QAa);rw [decide_eq_false hc9];rintro vr hr1 hle1 rfl;refine ⟨hle1,QN,?_⟩)))|(refine QH ?_ ?_<;>intro hc<;>try omega)|fail)
       all_goals
        have h9:=ih (k+1,hr1) ⟨by dsimp only;omega,by dsimp only;omega,by dsimp only;exact hle.trans hle1,by dsimp only;rw [hst,List.take_add_one,hx];rfl⟩ QAh
        dsimp only at h9
        refine Aj QS QT (h9)
   · have hk3:k=n:=by omega
     subst hk3
     clear ih
     rw [List.take_of_length_le QAd] at hI
     rw [hI,hl]
     repeat' (first|refine QF ?_|(refine QH ?_ ?_<;>intro hc<;>try omega)|fail)
     all_goals exact Bi rfl rfl rfl (List.Sublist.refl _) rfl
end Go.Hw
namespace Go.Hw
open Go
attribute [local irreducible] GO GOl GDp Val Fn Res Ab Du Blk Bd Cd Bf Has Yl Ik
open Go.Proofs.Tryz (prog)
abbrev Om (x:Bt):List Value:=.int .i64 x.num::.slice x.A x.rs.length x.c::x.s.map .bool
abbrev Kh (x:Bt):Value:=.pointer (some ⟨x.b,0,none⟩)
structure Dq (h:Ro) (x:Bt):Prop where
 cells:Ab h ⟨x.b,0,none⟩ (Om x)
 row:Ar Aq 82 h x.A x.rs.length x.rs
 good:∀ p∈x.rs,FGd h p
 len:x.s.length=4
 small:x.rs.length≤1000000
theorem Dq.le {h h':Ro}{x:Bt}(a:Dq h x)(hl:Le h h'):Dq h' x:=⟨a.cells.le hl,a.row.le hl,fun p hp=>(a.good p hp).le hl,a.len,a.small⟩
theorem Dq.sus {h:Ro}{x:Bt}(a:Dq h x){j:Nat}(hj:j<4):Ab h (((⟨x.b,0,none⟩:Addr).add 2).add (j * 1)) [.bool (x.s.getD j false)]:=by
 have hl:=a.len
 have h1:(Om x)[2+j]? = some (.bool (x.s.getD j false)):=by
  show (Value.int .i64 x.num::Value.slice x.A x.rs.length x.c::x.s.map .bool)[2+j]? = _
  rw [show 2+j=j+1+1 by omega,List.getElem?_cons_succ,List.getElem?_cons_succ,List.getElem?_map,List.getElem?_eq_getElem QAd,Option.map_some,List.getD_eq_getElem?_getD,List.getElem?_eq_getElem QAd,Option.getD_some]
 have:=Bya a.cells (k:=2+j) h1
 rw [Dk,show 2+j * 1=(2+j) * 1 by omega]
 exact this
theorem FGd.inst {h:Ro}{p:Fsh×Fct}(a:FGd h p)(hk:p.2.kind=4):1≤p.2.ru.inst∧p.2.ru.inst≤3:=Bqa a.2.2 hk
theorem lastF_c (h:Ro)(x:Bt)(hx:Dq h x):Val prog 80 #[Kh x] h (.int .i64 (Uf x.rs)):=by
 refine QXV Proofs.Tryz.func80 fun w0 X0=>?_
 have hcl:=hx.cells
 have hrow:=hx.row
 have hsm:=hx.small
 obtain ⟨n,hn⟩:∃ n,n=x.rs.length:=⟨_,rfl⟩
 obtain ⟨b,hb⟩:∃ b,b=x.b:=⟨_,rfl⟩
 show GO _ _ _ _ _ _
 repeat' (first|refine QF ?_|(apply Af;exact J;exact J;(first|exact QAb);exact QA)|fail)
 refine Ai (X:=Nat) (fun k=>k≤x.rs.length) (fun k=>x.rs.length-k) (fun k=>[(11,.int .i64 k),(10,.int .i64 x.rs.length),(9,.slice x.A x.rs.length x.c),(3,.int .i64 (Uf (x.rs.take k)))]) (fun _=>[]) (fun _=>h) 0 QAd QS QT rfl ?_
 rintro k hk ih
 by_cases hkn:k<x.rs.length
 · have a1:=hrow.addrD hkn
   have c1:=hrow.cellsD p0 hkn
   have et:=Cb p0 (xs:=x.rs) rfl hkn
   generalize x.rs.getD k p0=p at *
   have es:Uf (x.rs.take (k+1))=max (Uf (x.rs.take k)) p.2.ru.inst:=by rw [et,K7a]
   repeat' (first|refine QFs ?_|(apply Af;exact J;exact J;(first|exact QAc|exact QAf);exact QA)|(refine QB ?_;intro b)|(refine QH ?_ ?_<;>intro hc<;>try omega)|fail)
   all_goals
    have h3:=ih (k+1) QAd QAd
    rw [es] at h3
    refine Aj QS QT (h3)
 · rw [List.take_of_length_le QAd]
   clear ih
   repeat' (first|refine QF ?_|(refine QH ?_ ?_<;>intro hc<;>try omega)|(apply Ac;(iterate 3 exact J)))
   all_goals rfl
theorem heldF_c (h:Ro)(x:Bt)(hx:Dq h x){j:Nat}(hj:Uf x.rs=(j:Int))(hj4:j<4):Val prog 78 #[Kh x] h (.bool (x.s.getD j false)):=by
 refine QXV Proofs.Tryz.func78 fun w0 X0=>?_
 have hla:=lastF_c h x hx
 rw [hj] at hla
 have hs:=hx.sus hj4
 repeat' (first|refine QF ?_|(apply Ad (n:=1) [0,1,2,3,4,5,6,7] [(0,0),(1,0),(3,0),(4,0),(2,1),(5,0),(6,0),(7,0)];kernel_rfl)|(apply Bk;exact J;kernel_rfl;exact J;exact J;(first|(apply Hc (j:=j);(iterate 5 exact J);(with_reducible exact J);omega)|(apply Aw;exact J;exact Cy rfl hs rfl));exact QA)|(apply Ao;exact J;kernel_rfl;(iterate 3 exact J);(first|(apply Aa;exact J;exact has80;exact hla;refine ⟨Le.refl _,QN,?_⟩)))|(apply Ac;(iterate 3 exact J)))
 all_goals rfl
theorem Mw (h:Ro)(A:Option Addr)(n c:Nat)(l:List (Fsh×Fct))(hx:Ar Aq 82 h A n l)(hn:n≤1000000000)(f:FuncId)(fs cs:List Value)(p:Fsh×Fct→Bool)(hh:Has prog f)
  (hf:∀ x∈l,Val prog f (fs++[Br x.1 x.2]++cs).toArray h (.bool (p x))) :
  Val prog 76 #[.slice A n c,.func (.func f) fs.toArray cs.toArray] h (.int .i64 (Qu p l 0)):=by
 refine QXV Proofs.Tryz.func76 fun w0 X0=>?_
 have hlen:=hx.len
 repeat' (first|refine QF ?_|fail)
 refine Ai (X:=Nat) (fun k=>k≤n∧Qu p (l.drop k) k=Qu p l 0) (fun k=>n-k) (fun k=>[(8,.int .i64 k),(7,.int .i64 n),(0,.slice A n c),(1,.func (.func f) fs.toArray cs.toArray)]) (fun _=>[]) (fun _=>h) 0 ⟨by omega,rfl⟩ QS QT rfl ?_
 rintro k ⟨hk,hI⟩ ih
 by_cases hkn:k<n
 · have a1:=hx.addrD hkn
   have c1:=hx.cellsD p0 hkn
   have hd:=So p0 hlen hkn
   have hv:=hf _ (Qv p0 (show k<l.length by omega))
   generalize l.getD k p0=x at *
   repeat' (first|refine QF ?_|(apply Af;exact J;exact J;(first|exact QAc|exact QAf);exact QA)|(refine QG ?_;first|(refine QB7 ?_))|(refine QH ?_ ?_<;>intro hc<;>try omega)|(apply Ac;(iterate 3 exact J)))
   · rw [← hI,hd,Qu,if_pos hc]
   · have h3:=ih (k+1) ⟨by omega,by rw [← hI,hd,Qu,if_neg (by simp [hc])]⟩ QAd
     refine Aj QS QT (h3)
 · repeat' (first|refine QF ?_|(refine QH ?_ ?_<;>intro hc<;>try omega)|(apply Ac;(iterate 3 exact J)))
   rw [← hI,show k=l.length by omega,List.drop_length];rfl
theorem Kv {α:Type}(p:α→Bool):∀ (l:List α) (k:Nat),(Qu p l k = -1∧l.find? p=none)∨∃ j x,j<l.length∧Qu p l k=((k+j:Nat):Int)∧l[j]? = some x∧l.find? p=some x
 | [],k=>.inl ⟨rfl,rfl⟩
 | y::r,k=>by
   unfold Qu
   by_cases h:p y=true
   · exact .inr ⟨0,y,by simp,by rw [if_pos h];rfl,rfl,by rw [List.find?_cons,h]⟩
   · have hf:p y=false:=by simpa using h
     rcases Kv p r (k+1) with ⟨e1,e2⟩|⟨j,x,e1,e2,e3,e4⟩
     · exact .inl ⟨by rw [if_neg h];exact e1,by rw [List.find?_cons,hf];exact e2⟩
     · exact .inr ⟨j+1,x,Nat.succ_lt_succ e1,by rw [if_neg h,e2];congr 1;omega,by rw [List.getElem?_cons_succ];exact e3,by rw [List.find?_cons,hf];exact e4⟩
theorem Vi (h:Ro)(b:Nat)(i:Int)(hb:Ab h ⟨b,0,none⟩ [.int .i64 i])(p:Fsh×Fct):Val prog 122 #[Br p.1 p.2,.pointer (some ⟨b,0,none⟩)] h (.bool (decide (p.2.ru.inst=i))):=by
 refine QXV Proofs.Tryz.func122 fun w0 X0=>?_
 repeat' (first|refine QF ?_|(apply Af;exact J;exact J;(first|exact QAb);exact QA)|(refine QB ?_;intro b)|(apply Ac;(iterate 3 exact J)))
 all_goals rw [Fe]
def Oq (rs:List (Fsh×Fct)) (i:Int):Option (Fsh×Fct):=rs.find? fun p=>decide (p.2.ru.inst=i)
def oZ (o:Option (Fsh×Fct)):Fsh×Fct:=o.getD p0
theorem F1a (h:Ro)(x:Bt)(hx:Dq h x)(i:Int):Val prog 79 #[Kh x,.int .i64 i] h (.tuple #[Br (oZ (Oq x.rs i)).1 (oZ (Oq x.rs i)).2,.bool (Oq x.rs i).isSome]):=by
 refine QXV Proofs.Tryz.func79 fun w0 X0=>?_
 have hcl:=hx.cells
 have hrow:=hx.row
 have hsm:=hx.small
 rcases Kv (fun p:Fsh×Fct=>decide (p.2.ru.inst=i)) x.rs 0 with ⟨e1,e2⟩|⟨j,y,e1,e2,e3,e4⟩
 · have e3:Oq x.rs i=none:=e2
   rw [e3]
   have hix:∀ h1 bq,Le h h1→Ab h1 ⟨bq,0,none⟩ [.int .i64 i]→Val prog 76 #[.slice x.A x.rs.length x.c,.func (.func 122) #[] #[.pointer (some ⟨bq,0,none⟩)]] h1 (.int .i64 (-1)):=fun h1 bq hl hb=>by
    have:=Mw h1 x.A x.rs.length x.c x.rs (hrow.le hl) QAd 122 [] [.pointer (some ⟨bq,0,none⟩)] (fun p=>decide (p.2.ru.inst=i)) has122 (fun p _=>Vi h1 bq i hb p)
    rw [e1] at this
    exact this
   repeat' (first|refine QFs ?_|(apply Af;exact J;exact J;(first|exact QAb);exact QA)|(refine QB ?_;intro b)|(refine QG ?_;first|(refine Bv (e:=3) QK ?_;intro h1 hle1 hc1;apply Aa;exact J;exact has76;exact hix _ _ hle1 hc1))|(refine QH ?_ ?_<;>intro hc<;>try omega)|(apply Rs;(iterate 3 exact J);exact QM;(iterate 3 exact J))|fail)
   all_goals first
    | rfl
 · have e5:Oq x.rs i=some y:=e4
   rw [e5]
   have a1:=hrow.addrD e1
   have c1:=hrow.cellsD p0 e1
   have e6:x.rs.getD j p0=y:=by rw [List.getD_eq_getElem?_getD,e3];rfl
   rw [e6] at c1
   rw [Nat.zero_add] at e2
   have hix:∀ h1 bq,Le h h1→Ab h1 ⟨bq,0,none⟩ [.int .i64 i]→Val prog 76 #[.slice x.A x.rs.length x.c,.func (.func 122) #[] #[.pointer (some ⟨bq,0,none⟩)]] h1 (.int .i64 j):=fun h1 bq hl hb=>by
    have:=Mw h1 x.A x.rs.length x.c x.rs (hrow.le hl) QAd 122 [] [.pointer (some ⟨bq,0,none⟩)] (fun p=>decide (p.2.ru.inst=i)) has122 (fun p _=>Vi h1 bq i hb p)
    rw [e2] at this
    exact this
   repeat' (first|refine QFs ?_|(apply Af;exact J;exact J;(first|(apply Cg (j:=j);(iterate 5 exact J);exact a1;(with_reducible exact J);omega)|(apply Aw;exact J;(first|exact Cy rfl (c1.le QAa) rfl|exact Jp rfl (hcl.le QAa) rfl)));exact QA)|(refine QB ?_;intro b)|(refine QG ?_;first|(refine Bv (e:=3) QK ?_;intro h1 hle1 hc1;apply Aa;exact J;exact has76;exact hix _ _ hle1 hc1))|(refine QH ?_ ?_<;>intro hc<;>try omega)|(apply Rs;(iterate 3 exact J);exact QM;(iterate 3 exact J))|fail)
   all_goals first
    | rfl
end Go.Hw
namespace Go.Hw
open Go
attribute [local irreducible] GO GOl GDp Val Fn Res Ab Du Blk Bd Cd Bf Has Yl Ik
open Go.Proofs.Tryz (prog)
abbrev Ls (x:Bt):List Asn:=[Blk x.b 181 (Om x),Bd 57 82 (.slice x.A x.rs.length x.c) x.rs.length (x.rs.flatMap Aq)]
abbrev Kr (b:Nat):Value:=.pointer (some ⟨b,0,none⟩)
abbrev ekI (i:Int):Value:=.int .i64 i
def Er (fs:List Bt):List (Int×Nat):=fs.map fun x=>(x.num,x.b)
theorem Zm:∀ {fs:List Bt} {n:Int},(∀ x∈fs,x.num≠n)→Cf n (Er fs)=none∧∀ b,Im n b (Er fs)=Er fs++[(n,b)]
 | [],n,_=>⟨rfl,fun _=>rfl⟩
 | x::r,n,h=>by
   obtain ⟨h1,h2⟩:=Zm (fs:=r) (n:=n) fun y hy=>h y (List.mem_cons_of_mem _ hy)
   have h3:=h x List.mem_cons_self
   unfold Er at *
   constructor
   · rw [List.map_cons];unfold Cf;rw [if_neg h3];exact h1
   · intro b;rw [List.map_cons];unfold Im;rw [if_neg h3,h2 b];rfl
theorem Zl:∀ {pre post:List Bt} {x:Bt},(∀ y∈pre,y.num≠x.num)→Cf x.num (Er (pre++x::post))=some x.b
 | [],post,x,_=>by unfold Er;rw [List.nil_append,List.map_cons];unfold Cf;rw [if_pos rfl]
 | y::pre,post,x,h=>by
   have h1:=Zl (pre:=pre) (post:=post) (x:=x) fun z hz=>h z (List.mem_cons_of_mem _ hz)
   have h3:=h y List.mem_cons_self
   unfold Er at *
   rw [List.cons_append,List.map_cons];unfold Cf;rw [if_neg h3];exact h1
theorem Eka (n:Int):∀ fs:List Bt,(∀ x∈fs,x.num≠n)∨∃ pre x post,fs=pre++x::post∧x.num=n∧∀ y∈pre,y.num≠x.num
 | []=>.inl QAn
 | x::r=>by
   by_cases h:x.num=n
   · exact .inr ⟨[],x,r,rfl,h,by simp⟩
   · rcases Eka n r with q|⟨pre,y,post,e,e2,e3⟩
     · exact .inl fun y hy=>by
        rcases List.mem_cons.1 hy with w|w
        · rw [w];exact h
        · exact q y w
     · exact .inr ⟨x::pre,y,post,by rw [e];rfl,e2,fun z hz=>by
        rcases List.mem_cons.1 hz with w|w
        · rw [w,e2];exact h
        · exact e3 z w⟩
theorem get7_c (h:Ro)(bF bm:Nat)(fs:List Bt)(n:Int):Fn prog 118 #[.int .i64 n,Kr bF] [Blk bF 178 [.map (some bm)],Cd ekI Kr bm (Er fs),Ik (fs.flatMap Ls)] h fun u Es _=>∃ pre x post,u=Kh x∧x.num=n∧((pre++x::post=fs)∨(∃ b,pre=fs∧post=[]∧x=Boa b n∧∀ y∈fs,y.num≠n))∧Es=[Blk x.b 181 (Om x),Bd 57 82 (.slice x.A x.rs.length x.c) x.rs.length (x.rs.flatMap Aq),Ik (pre.flatMap Ls++post.flatMap Ls),Blk bF 178 [.map (some bm)],Cd ekI Kr bm (Er (pre++x::post))]:=by
 refine QXF Proofs.Tryz.func118 fun w0 X0=>?_
 rcases Eka n fs with hno|⟨pre,x,post,e,hxn,hpre⟩
 · obtain ⟨hl,hi⟩:=Zm hno
   have hl2:∀ b,Cf n (Er fs++[(n,b)])=some b:=fun b=>by rw [← hi b,Si,if_pos rfl]
   repeat' (first|refine QC ?_|(apply Af;exact J;exact J;(apply Hb (ek:=ekI) (ev:=Kr) (b:=bm) (key:=n) (m:=Er fs) (r:=none) K7;(iterate 5 exact J);exact hl);focus ((repeat' (first|exact trivial|apply And.intro|exact List.Mem.head _|apply List.Mem.tail));done))|(apply Af;exact J;exact J;(apply Hb (ek:=ekI) (ev:=Kr) (b:=bm) (key:=n) (m:=Er fs++[(n,b)]) (r:=some b) K7;(iterate 5 exact J);exact hl2 _);focus ((repeat' (first|exact trivial|apply And.intro|exact List.Mem.head _|apply List.Mem.tail));done))|refine QD ?_|(refine QB ?_;intro b)|(refine QG ?_;first|(apply Dp (ek:=ekI) (ev:=Kr) (b:=bm) (m:=Er fs) (key:=n) (u:=b) K7;(iterate 6 exact J);rw [hi];exact QR))|(refine QH ?_ ?_<;>intro hc<;>try omega)|fail)
   · generalize b=b7
     refine Fg 57 82 ?_
     refine Ck (Es':=[Blk b7 181 (Om (Boa b7 n)),Bd 57 82 (.slice none 0 0) 0 [],Ik (fs.flatMap Ls),Blk bF 178 [.map (some bm)],Cd ekI Kr bm (Er fs++[(n,b7)])]) QT ?_
     have e1:Er (fs++[Boa b7 n])=Er fs++[(n,b7)]:=by simp [Er,Boa]
     have e2:fs.flatMap Ls++([]:List Bt).flatMap Ls=fs.flatMap Ls:=by simp
     exact Bi rfl rfl rfl (List.Sublist.refl _) ⟨fs,Boa b7 n,[],rfl,rfl,.inr ⟨b7,rfl,rfl,rfl,hno⟩,by rw [e1,e2];rfl⟩
   · exfalso;simp at hc
 · subst e
   have hl:=Zl (post:=post) hpre
   rw [hxn] at hl
   repeat' (first|refine QF ?_|(apply Af;exact J;exact J;(first|(apply Hb (ek:=ekI) (ev:=Kr) (key:=n) (m:=Er (pre++x::post)) (r:=some x.b) K7;(iterate 5 exact J);exact hl));exact QA)|(refine QH ?_ ?_<;>intro hc<;>try omega)|fail)
   refine GO_sepAt (g:=Ls) (pre:=pre) (post:=post) (x:=x) QK rfl ?_
   refine Ck (Es':=[Blk x.b 181 (Om x),Bd 57 82 (.slice x.A x.rs.length x.c) x.rs.length (x.rs.flatMap Aq),Ik (pre.flatMap Ls++post.flatMap Ls),Blk bF 178 [.map (some bm)],Cd ekI Kr bm (Er (pre++x::post))]) QT ?_
   exact Bi rfl rfl rfl (List.Sublist.refl _) ⟨pre,x,post,rfl,hxn,.inl rfl,rfl⟩
end Go.Hw
namespace Go.Hw
open Go
attribute [local irreducible] GO GOl GDp Val Fn Res Ab Du Blk Bd Cd Bf Has Yl Ik
open Go.Proofs.Tryz (prog)
abbrev Ky (x:Bt):List Value:=[Kh x]
theorem cmp2_c (h:Ro)(x y:Bt)(hx:Dq h x)(hy:Dq h y):Val prog 121 #[Kh x,Kh y] h (.int .i64 (Fb x.num y.num)):=by
 refine QXV Proofs.Tryz.func121 fun w0 X0=>?_
 have c1:=hx.cells
 have c2:=hy.cells
 repeat' (first|refine QF ?_|(apply Ad (n:=1) [0,1,2,3,4,5,6,7,8,9] [(0,0),(1,0),(2,0),(3,0),(4,0),(5,0),(6,0),(7,0),(8,1),(9,0)];kernel_rfl)|(apply Bk;exact J;kernel_rfl;exact J;exact J;(first|(apply Aw;exact J;(first|exact Cy rfl c1 rfl|exact Cy rfl c2 rfl)));exact QA)|(apply Ao;exact J;kernel_rfl;(iterate 3 exact J);(first|(apply Aa;exact J;exact has57;exact Wx _ _ _;refine ⟨Le.refl _,QN,?_⟩)))|(apply Ac;(iterate 3 exact J)))
 all_goals rfl
theorem sorted2_c (h:Ro)(b:Nat)(hb:Ab h ⟨b,0,none⟩ [.func (.func 121) #[] #[]])(x y:Bt)(hx:Dq h x)(hy:Dq h y):Val prog 186 #[Kh x,Kh y,.pointer (some ⟨b,0,none⟩)] h (.bool (decide (x.num=y.num))):=by
 refine QXV Proofs.Tryz.func186 fun w0 X0=>?_
 have hv:=cmp2_c h x y hx hy
 repeat' (first|refine QF ?_|(apply Af;exact J;exact J;(first|exact QAb);exact QA)|(refine QG ?_;first|(apply Cr (f:=121) (fs:=[]) (cs:=[]);exact J;exact J;exact has121;exact hv))|(apply Ac;(iterate 3 exact J)))
 all_goals (congr 1;rw [Bool.eq_iff_iff,Ib,decide_eq_true_eq];exact Jl)
theorem sorted1_c (h:Ro)(hG:Iv h)(b:Nat)(hb:Ab h ⟨b,0,none⟩ [.func (.func 41) #[] #[]])(x y:Fsh×Fct)(hx:FGd h x)(hy:FGd h y):Res prog 182 #[Br x.1 x.2,Br y.1 y.2,.pointer (some ⟨b,0,none⟩)] h (fun u _=>u=.bool (decide (Gp x.2 y.2=0))):=by
 refine QXR Proofs.Tryz.func182 fun w0 X0=>?_
 have hv:=fun h' (hl:Le h h')=>cmp_c h' (hG.le hl) x y (hx.le hl) (hy.le hl)
 repeat' (first|refine QF ?_|(apply Af;exact J;exact J;(first|exact QAb);exact QA)|(refine QB ?_;intro b)|(refine QG ?_;first|(apply Ig (f:=41) (fs:=[]) (cs:=[]);exact J;exact J;exact Lga;exact hv _ QAa;rintro v1 h3 hle1 rfl))|(apply Ay;(iterate 3 exact J)))
 all_goals (congr 1;rw [Bool.eq_iff_iff,Ib,decide_eq_true_eq])
theorem ltOfN {h:Ro}(x y : {p:Bt // Dq h p}):Go.Proofs.ltOf (fun (x y : {p:Bt // Dq h p})=>Fb x.1.num y.1.num) x y=decide (x.1.num<y.1.num):=by
 unfold Go.Proofs.ltOf
 rw [decide_eq_decide];exact Ww
theorem cmpN_swo {h:Ro}:Go.Sort.SWO (Go.Proofs.ltOf fun (x y : {p:Bt // Dq h p})=>Fb x.1.num y.1.num) where
 irrefl x:=by rw [ltOfN,decide_eq_false_iff_not];omega
 trans x y z h1 h2:=by rw [ltOfN,decide_eq_true_eq] at *;omega
 ntrans x y z h1 h2:=by rw [ltOfN,decide_eq_false_iff_not] at *;omega
theorem Tq {α:Type}{P:α→Prop}(e:α→List Value):∀ (l:List {x:α // P x}),l.flatMap (fun a=>e a.1)=(l.map (·.1)).flatMap e
 | []=>rfl
 | x::r=>by rw [List.map_cons,List.flatMap_cons,List.flatMap_cons,Tq e r]
theorem sortP_c (h:Ro)(v:Value)(xs:List Bt)(n:Nat)(hn:n≤1000000)(hx:xs.length=n)(hg:∀ p∈xs,Dq h p) :
  Fn prog 184 #[v,.func (.func 121) #[] #[]] [Bd 133 1 v n (xs.flatMap Ky)] h fun u Es _=>u=.tuple #[]∧∃ ys:List Bt,ys.Perm xs∧(ys.Pairwise fun x y=>x.num≤y.num)∧Es=[Bd 133 1 v n (ys.flatMap Ky)]:=by
 have hN:∀ (p:Option Addr) (cap:Nat) (w:World),Calls prog 184 #[.slice p 0 cap,.func (.func 121) #[] #[]] w fun e w'=>e=.returned (.tuple #[])∧w'=w:=fun p cap w=>Go.Proofs.AnyF.slices_SortFunc_none { Go.Proofs.Tryz.sortFiles with } p cap _ w
 cases xs with
 | nil =>
   simp only [List.length_nil] at hx
   subst hx
   unfold Fn
   intro w X0 hl ⟨Ds,ho,hnd,hb⟩
   have H0:=Hp.start (w:=w) (X0:=X0) (h0:=h) hl ⟨Ds,ho,hnd,hb⟩
   obtain ⟨D,hD⟩:=H0.get (List.Mem.head _)
   obtain ⟨A,c,hvv⟩:=Rk hD
   subst hvv
   refine (hN A c w).mono ?_
   rintro e' w' ⟨rfl,rfl⟩
   exact ⟨_,rfl,_,h,⟨rfl,[],.refl _,by simp,rfl⟩,H0⟩
 | cons x r =>
   have hgx:=hg x List.mem_cons_self
   haveI:Inhabited {p:Bt // Dq h p}:=⟨⟨x,hgx⟩⟩
   have hC:∀ (blk off cap:Nat) (d:Array {p:Bt // Dq h p}) (w:World),Go.Proofs.CmpLays1 prog 121 #[] (fun a : {p:Bt // Dq h p}=>Kh a.1) (fun x y=>Fb x.1.num y.1.num) blk off d.size w→Go.Sort.Holds (fun a : {p:Bt // Dq h p}=>Kh a.1) w blk off d→blk<w.heap.size→d.size<4611686018427387904 →
    Calls prog 184 #[.slice (some ⟨blk,off,none⟩) d.size cap,.func (.func 121) #[] #[]] w fun e w'=>e=.returned (.tuple #[])∧∃ d' n os,Go.Sort.PermIn 0 d.size d d'∧Go.Sort.SortedIn (Go.Proofs.ltOf fun (x y : {p:Bt // Dq h p})=>Fb x.1.num y.1.num) 0 d.size d'∧w'=Go.Proofs.sortWorld (fun a : {p:Bt // Dq h p}=>Kh a.1) w blk off n d' os:=fun blk off cap d w hc hH hb hs =>
    Go.Proofs.Any.slices_SortFunc Go.Proofs.Tryz.sortFiles (fun a : {p:Bt // Dq h p}=>Kh a.1) (fun _=>rfl) (fun x y=>Fb x.1.num y.1.num) cmpN_swo 121 #[] blk off cap d w (Go.Proofs.enters_of Go.Proofs.Tryz.func121 QBq rfl) hc hH hb hs
   have hcmp:∀ x y : {p:Bt // Dq h p},Res prog 121 (#[Kh x.1,Kh y.1]++#[]) h fun u _=>u=.int .i64 (Fb x.1.num y.1.num):=fun x y=>by
    rw [Array.append_empty]
    exact Sw (cmp2_c h x.1 y.1 x.2 y.2)
   have key:=sortFnP1 (α:={p:Bt // Dq h p}) (P:=prog) (f:=184) (gf:=121) (cb:=#[]) (fun a=>Kh a.1) (fun x y=>Fb x.1.num y.1.num) h hC hN hcmp 133 v ((x::r).attachWith (Dq h) hg) n QAd (by rw [List.length_attachWith];exact hx)
   have e7:∀ l:List {p:Bt // Dq h p},(l.flatMap fun a=>[Kh a.1])=(l.map (·.1)).flatMap Ky:=fun l=>Tq Ky l
   rw [e7,Of] at key
   refine key.mono ?_
   rintro u Es h' hle ⟨rfl,ys,hp,hso,rfl⟩
   refine ⟨rfl,ys.map (·.1),?_,?_,by rw [e7]⟩
   · rw [← Of (x::r) hg];exact hp.map _
   · refine List.pairwise_map.2 (hso.imp fun {a b} hab => ?_)
     rw [ltOfN,decide_eq_false_iff_not] at hab
     omega
theorem cloneP_c (h:Ro)(A:Option Addr)(n c:Nat)(l:List Bt)(hx:Ar Ky 1 h A n l)(hn:n≤1000000):Fn prog 183 #[.slice A n c] [] h fun u Es _=>Es=[Bd 133 1 u n (l.flatMap Ky)]:=by
 refine QXF Proofs.Tryz.func183 fun w0 X0=>?_
 have hxl:=hx.len
 refine Fg 133 1 ?_
 cases A with
 | none =>
   have hn0:n=0:=by
    rcases Nat.eq_zero_or_pos n with q|q
    · exact q
    · have:=hx.addrD q;cases this
   have hl0:l=[]:=List.eq_nil_of_length_eq_zero QAd
   subst hn0;subst hl0
   repeat' (first|refine QF ?_|(refine QH ?_ ?_<;>intro hc<;>try omega)|fail)
   · exact Bi rfl rfl rfl (List.Sublist.refl _) rfl
   · exfalso;simp at hc
 | some ad =>
   repeat' (first|refine QF ?_|(refine QG ?_;first|(refine QAj ?_;intro bo)|(apply Ap (enc:=Ky) (xs:=[]) (ys:=l);(iterate 7 exact J);exact hx;exact fun _=>rfl;exact fun x=>Bh rfl;intro v1;exact QR;omega;exact J;intro A3 c3))|(refine QH ?_ ?_<;>intro hc<;>try omega)|fail)
   all_goals
    rw [List.nil_append,Nat.zero_add]
    exact Bi rfl rfl rfl (.cons_cons _ (List.nil_sublist _)) rfl
theorem G7a (h:Ro)(bq:Nat)(hb:Ab h ⟨bq,0,none⟩ [.func (.func 121) #[] #[]])(v:Value)(ys:List Bt)(n:Nat)(hn:n≤1000000)(hl:ys.length=n)(hg:∀ p∈ys,Dq h p)(hs:ys.Pairwise fun x y=>x.num<y.num) :
  Fn prog 185 #[v,.func (.func 186) #[] #[.pointer (some ⟨bq,0,none⟩)]] [Bd 133 1 v n (ys.flatMap Ky)] h fun u Es _=>Es=[Bd 133 1 u n (ys.flatMap Ky)]:=by
 refine QXF Proofs.Tryz.func185 fun w0 X0=>?_
 by_cases h2:n<2
 · refine Ru QM ?_
   intro A0 c0 e0
   subst e0
   repeat' (first|refine QF ?_|(refine QH ?_ ?_<;>intro hc<;>try omega)|fail)
   all_goals first
    | (exfalso;omega)
    | exact Bi rfl rfl rfl (List.Sublist.refl _) rfl
 · refine Cka QM QAd ?_
   intro b c hnc e0
   subst e0
   repeat' (first|refine QF ?_|(refine QH ?_ ?_<;>intro hc<;>try omega)|fail)
   refine Ai (X:=Nat) (fun x=>1≤x∧x≤n) (fun x=>n-x)
    (fun x=>[(5,.int .i64 x),(0,.slice (some ⟨b,0,none⟩) n c),(1,.func (.func 186) #[] #[.pointer (some ⟨bq,0,none⟩)])])
    (fun x=>[Bd 133 1 (.slice (some ⟨b,0,none⟩) n c) n (ys.flatMap Ky)]) (fun x=>h) 1 ⟨by omega,by omega⟩ QS QT rfl ?_
   rintro k ⟨hk1,hkn⟩ ih
   by_cases hlt:k<n
   · obtain ⟨x,hx⟩:∃ x,ys[k]? = some x:=⟨_,List.getElem?_eq_getElem QAd⟩
     obtain ⟨y,hy⟩:∃ y,ys[k-1]? = some y:=⟨_,List.getElem?_eq_getElem QAd⟩
     have hgx:=hg x (List.mem_of_getElem? hx)
     have hgy:=hg y (List.mem_of_getElem? hy)
     have hne:x.num≠y.num:=by
      rw [List.pairwise_iff_getElem] at hs
      have:=hs (k-1) k QAd QAd QAd
      rw [List.getElem?_eq_getElem QAd] at hx hy
      have e1:=Option.some.inj hx
      have e2:=Option.some.inj hy
      rw [e1,e2] at this
      omega
     have hv:=sorted2_c h bq hb x y hgx hgy
     rw [decide_eq_false hne] at hv
     have h3:=ih (k+1) ⟨by omega,by omega⟩ QAd
     repeat' (first|refine QF ?_|(apply Ad (n:=6) [0,1,2,3,4,5,6,7,8,9,10] [(0,0),(1,0),(2,0),(3,0),(4,0),(5,0),(6,0),(7,0),(8,0),(9,0),(10,1)];kernel_rfl)|(apply Bk;exact J;kernel_rfl;exact J;exact J;(first|exact QA8|exact QFd|(apply Tz (off:=0) (enc:=Ky) (b:=b) (k:=k) (sz:=1) (n:=n) (c:=c) (xs:=ys) (e:=133);exact J;exact J;exact addE _ _;exact fun _=>rfl;exact hx;exact J)|(apply Tz (off:=0) (enc:=Ky) (b:=b) (k:=k-1) (sz:=1) (n:=n) (c:=c) (xs:=ys) (e:=133);exact J;exact J;exact addE _ _;exact fun _=>rfl;exact hy;exact J));exact QA)|(apply Ao;exact J;kernel_rfl;(iterate 3 exact J);(first|(apply Cr (f:=186) (fs:=[]) (cs:=[.pointer (some ⟨bq,0,none⟩)]);exact J;exact J;exact has186;exact hv;refine ⟨Le.refl _,QN,?_⟩)))|(refine QH ?_ ?_<;>intro hc<;>try omega)|fail)
     all_goals first
      | (exfalso;omega)
      | (refine Aj QS QT (h3))
   · have hk3:k=n:=by omega
     subst hk3
     clear ih
     repeat' (first|refine QF ?_|(refine QH ?_ ?_<;>intro hc<;>try omega)|fail)
     all_goals exact Bi rfl rfl rfl (List.Sublist.refl _) rfl
end Go.Hw
namespace Go.Hw
open Go
attribute [local irreducible] GO GOl GDp Val Fn Res Ab Du Blk Bd Cd Bf Has Yl Ik Cra
open Go.Proofs.Tryz (prog)
theorem E9a {C:Ctx}{l:Sl}{Es Es':List Asn}{h:Ro}{o:Oper}{G:Value→List Asn→Ro→Prop}{α:Type}{enc:α→List Value}{e sz:Nat}{v:Value}{n:Nat}{xs:List α}(hl:∀ x,(enc x).length=sz)(hn:xs.length=n)(hT:Kc Es (Bd e sz v n (xs.flatMap enc)) Es')
  (g:∀ A c h',Le h h'→v=.slice A n c→n≤c→Ar enc sz h' A n xs→Fw C l Es' h' o G):Fw C l Es h o G:=fun a w hs hp=>by
 obtain ⟨D,h',hle,hD,hp'⟩:=hp.release hT
 obtain ⟨A,c,e1,e2,e3⟩:=Lc hl hn hD
 exact g A c h' hle e1 e2 e3 a w hs hp'
theorem OpTo_stF {C:Ctx}{l:Sl}{Es Es':List Asn}{h:Ro}{G:Value→List Asn→Ro→Prop}{ty:TypeId}{pos:String}{aft:Array Edge}{gd:Option (Nat×Bool)}{t e:TypeId}{x y:Operand}{b n j:Nat}{v:Value}{cs cs':List Value}{T:Ty}
  (hT:By t C.ts=some T) (hx:evl l x=some (.pointer (some (((⟨b,0,none⟩:Addr).add n).add (j * 1))))) (hy:evl l y=some v) (hR:Lx Es (Blk b e cs) (Blk b e cs') Es') (hp:Bz v=[v]) (hn:n+j<cs.length) (hc:cs'=cs.set (n+j) v)
  (hl:T.size=1) (h1:Nc [v]=true) (g:G undef Es' h):Fw C l Es h ⟨none,.store t x y,ty,pos,aft,gd⟩ G :=
 Gm (off:=n+j) (cs':=cs') hT (by rw [hx,Dk,Ft,Nat.zero_add,Nat.mul_one]) hy hR (by rw [hp,A4a _ _ _ hn,hc]) (by rw [hp,hl];rfl) (by rw [hp];exact h1) g
theorem Cza {ys:List Bt}(hs:ys.Pairwise fun x y=>x.num≤y.num)(hn:(ys.map (·.num)).Nodup):ys.Pairwise fun x y=>x.num<y.num:=by
 have h2:ys.Pairwise fun x y=>x.num≠y.num:=List.pairwise_map.1 hn
 exact (hs.and h2).imp fun {a b} q=>by have:=q.1;have:=q.2;omega
theorem sortedP_c (h:Ro)(A:Option Addr)(n c:Nat)(l:List Bt)(hx:Ar Ky 1 h A n l)(hn:n≤1000000)(hg:∀ p∈l,Dq h p)(hnd:(l.map (·.num)).Nodup):Fn prog 120 #[.slice A n c,.func (.func 121) #[] #[]] [] h fun u Es h'=>∃ (A':Option Addr) (c':Nat) (ys:List Bt),u=.slice A' n c'∧ys.Perm l∧(ys.Pairwise fun x y=>x.num<y.num)∧Es=[Bd 133 1 (.slice A' n c') n (ys.flatMap Ky)]:=by
 refine QXF Proofs.Tryz.func120 fun w0 X0=>?_
 have hlen:=hx.len
 repeat' (first|refine QF ?_|(refine QB ?_;intro b)|(refine QG ?_;first|(apply Be;exact J;exact has183;exact cloneP_c _ A n c l (hx.le QAa) hn;exact QT;rintro vc Ec hc1 hlc rfl)|(apply Be;exact J;exact has184;exact sortP_c _ _ l n hn hlen (fun p hp=>(hg p hp).le QAa);exact QT;rintro vs Es9 hs9 hls ⟨rfl,ys,hpm,hso,rfl⟩)|(refine Bv QK ?_;intro h1 hle1 hc1;apply Be;exact J;exact has185;exact G7a h1 _ hc1 _ ys n hn (by rw [hpm.length_eq,hlen]) (fun p hp=>(hg p (hpm.mem_iff.1 hp)).le QAa) (Cza hso ((hpm.map (·.num)).nodup_iff.2 hnd));exact QT;rintro vk Ek hk9 hlk rfl))|fail)
 all_goals
  refine Ru QM ?_
  intro A0 c0 e0
  subst e0
  exact Bi rfl rfl rfl (.cons_cons _ (List.nil_sublist _)) ⟨A0,c0,ys,rfl,hpm,Cza hso ((hpm.map (·.num)).nodup_iff.2 hnd),rfl⟩
theorem sortedF_c (h:Ro)(hG:Iv h)(A:Option Addr)(n c:Nat)(l:List (Fsh×Fct))(hx:Ar Aq 82 h A n l)(hn:n≤1000000)(hg:∀ p∈l,FGd h p):Fn prog 119 #[.slice A n c,.func (.func 41) #[] #[]] [] h fun u Es h'=>∃ A' c' zs,u=.slice A' zs.length c'∧fcs zs=Ba (fcs l)∧(∀ p∈zs,p∈l)∧zs.length≤n∧Es=[Bd 57 82 (.slice A' zs.length c') zs.length (zs.flatMap Aq)]:=by
 refine QXF Proofs.Tryz.func119 fun w0 X0=>?_
 have hlen:=hx.len
 repeat' (first|refine QF ?_|(refine QB ?_;intro b)|(refine QG ?_;first|(apply Be;exact J;exact has179;exact clone_c _ A n c l (hx.le QAa) hn;exact QT;rintro vc Ec hc1 hlc rfl)|(apply Be;exact J;exact has180;exact sortF_c _ (hG.le QAa) _ l n hn hlen (fun p hp=>(hg p hp).le QAa);exact QT;rintro vs Es9 hs9 hls ⟨rfl,ys,hpm,hso,rfl⟩)|(refine Bv QK ?_;intro h1 hle1 hc1;apply Be;exact J;exact has181;exact Lua 182 [.pointer (some ⟨_,0,none⟩)] has182 h1 (fun h' hl' x y gx gy=>sorted1_c h' (hG.le QAa) _ (hc1.le hl') x y gx gy) _ ys n hn (by rw [hpm.length_eq,hlen]) (fun p hp=>(hg p (hpm.mem_iff.1 hp)).le QAa);exact QT;rintro vk Ek hk9 hlk rfl))|fail)
 all_goals
  refine Ru QM ?_
  intro A0 c0 e0
  subst e0
  exact Bi rfl rfl rfl (.cons_cons _ (List.nil_sublist _)) ⟨A0,c0,Is ys,rfl,Xx hpm (fun z hz=>(hg z hz).in_) hso,fun p hp=>hpm.mem_iff.1 ((Esa ys).subset hp),Nat.le_trans (Eta ys) (by rw [hpm.length_eq,hlen];exact Nat.le_refl _),rfl⟩
end Go.Hw
