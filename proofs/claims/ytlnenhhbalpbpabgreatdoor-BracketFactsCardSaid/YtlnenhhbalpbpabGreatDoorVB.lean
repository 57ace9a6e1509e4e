import Derived.Test.YtlnenhhbalpbpabGreatDoorVA
import Derived.Test.YtlnenhhbalpbpabGreatDoorFC
set_option linter.all false
set_option maxRecDepth 100000
set_option maxHeartbeats 8000000
namespace Go.Hw
open Go
attribute [local irreducible] GO GOl GDp Val Fn Res At Fx Blk By Dk Cl Has Yl Mn Naa
open Go.Proofs (Tryz.prog)
structure Ii (h:Ro) (C:List Fct) (bs:List Cf):Prop where
 nums:bs.map (·.num)=Gq C
 at_:∀ x∈bs,Eu h x
 rs:∀ x∈bs,fcs x.rs=C.filter fun f=>decide (Cr x.num f)
 sus:∀ x∈bs,∀ i,i<4→(x.s.getD i false=true↔Ss C x.num i)
 small:bs.length≤1000000
 sum:(bs.map fun x=>x.rs.length).sum≤1000000
 ok:∀ f∈C,Cg f
theorem Ii.le {h h':Ro}{C:List Fct}{bs:List Cf}(a:Ii h C bs)(hl:Le h h'):Ii h' C bs:=⟨a.nums,fun x hx=>(a.at_ x hx).le hl,a.rs,a.sus,a.small,a.sum,a.ok⟩
open Classical in
noncomputable def Mc (l:List (Fsh×Fct)):List (Fsh×Fct):=l.filter fun p=>decide (K45 p.2∧Cg p.2)
open Classical in
theorem F8a (l:List (Fsh×Fct))(p:Fsh×Fct):Mc (l++[p])=if K45 p.2∧Cg p.2 then Mc l++[p] else Mc l:=by
 unfold Mc
 rw [List.filter_append]
 by_cases h:K45 p.2∧Cg p.2 <;> simp [h]
open Classical in
theorem Mb {l:List (Fsh×Fct)}{p:Fsh×Fct}:p∈Mc l↔p∈l∧K45 p.2∧Cg p.2:=by
 unfold Mc;rw [List.mem_filter,decide_eq_true_eq]
theorem C9a {l:List (Fsh×Fct)}(h32:Kd (fcs l)):Da (fcs (Mc l))=Oq (Da (fcs l)):=by
 rw [← M2a h32]
 refine Tz (fun f hf => ?_) (fun f hf=>h32 f (List.mem_filter.1 hf).1) fun x hx => ?_
 · obtain ⟨p,hp,rfl⟩:=List.mem_map.1 hf
   exact h32 _ (List.mem_map_of_mem (Mb.1 hp).1)
 · unfold Oq fcs
   rw [List.mem_filter,List.mem_map,List.mem_map]
   constructor
   · rintro ⟨p,hp,rfl⟩
     have:=Mb.1 hp
     exact ⟨⟨p,this.1,rfl⟩,decide_eq_true this.2.1⟩
   · rintro ⟨⟨p,hp,rfl⟩,h45⟩
     exact ⟨p,Mb.2 ⟨hp,of_decide_eq_true h45,hx⟩,rfl⟩
theorem Hla:∀ {R:List Cf} {r1 r2:List (Int×Nat)} {q:Int×Nat},Fl R=r1++q::r2→∃ s1 y s2,R=s1++y::s2∧r1=Fl s1∧q=(y.num,y.b)∧r2=Fl s2:=fun {R r1 r2 q} h=>by
 unfold Fl at *
 obtain ⟨s1,t,e1,e2,e3⟩:=List.map_eq_append_iff.1 h
 obtain ⟨y,s2,e4,e5,e6⟩:=List.map_eq_cons_iff.1 e3
 exact ⟨s1,y,s2,by rw [e1,e4],e2.symm,e5.symm,e6.symm⟩
theorem Mha {fs:List Cf}{D:List Nat}{m:Ro}(h:(Mn (fs.flatMap My)).holds D m):∀ x∈fs,At m ⟨x.b,0,none⟩ (Px x)∧Cc Bx 82 m x.A x.rs.length x.rs:=fun x hx=>by
 have h1:=Mn.each h
 obtain ⟨D1,a1⟩:=h1 (Blk x.b 227 (Px x)) (List.mem_flatMap.2 ⟨x,hx,by simp⟩)
 obtain ⟨D2,a2⟩:=h1 (By 57 82 (.slice x.A x.rs.length x.c) x.rs.length (x.rs.flatMap Bx)) (List.mem_flatMap.2 ⟨x,hx,by simp⟩)
 obtain ⟨A,c,e1,_,e3⟩:=Iu Bv rfl a2
 injection e1 with e1 _ _
 subst e1
 unfold Blk at a1
 exact ⟨Awa a1.2,e3⟩
theorem Du.nums_len {C:List (Fsh×Fct)}{fs:List Cf}(h:Du C fs){x:Cf}(hx:x∈fs):x.rs.length≤C.length:=by
 rw [h.rs x hx];exact List.length_filter_le _ _
def neF (x:Cf):Bool:=!x.rs.isEmpty
theorem neF_pos {x:Cf}:neF x=true↔0<x.rs.length:=by
 unfold neF
 cases x.rs <;> simp
theorem files_out {h:Ro}{zs:List (Fsh×Fct)}{C:List Fct}{fs ys:List Cf}(hz:fcs zs=Oq C)(hi:Du zs fs)(hp:ys.Perm (fs.filter neF))(hs:ys.Pairwise fun x y=>x.num<y.num)(hok:∀ f∈C,Cg f)(hn:zs.length≤1000000)(ha:∀ x∈fs,Eu h x)(hfl:fs.length≤1000000):Ii h C ys where
 nums:=by
  have:=Hma hi hp (hs.imp fun {a b} q=>Int.le_of_lt q)
  rw [this,hz,casesL_45]
 at_ x hx:=ha x (List.mem_filter.1 (hp.mem_iff.1 hx)).1
 rs x hx:=by
  have h1:=hi.rs x (List.mem_filter.1 (hp.mem_iff.1 hx)).1
  rw [h1]
  have h2:fcs (zs.filter fun p=>decide (Cr x.num p.2))=(fcs zs).filter fun f=>decide (Cr x.num f):=by unfold fcs;rw [List.filter_map];rfl
  rw [h2,hz]
  unfold Oq
  rw [List.filter_filter]
  refine List.filter_congr fun f _ => ?_
  by_cases h9:Cr x.num f
  · simp [h9,h9.k45]
  · simp [h9]
 sus x hx i h4:=by
  rw [hi.sus x (List.mem_filter.1 (hp.mem_iff.1 hx)).1 i h4,hz]
  unfold Ss Oq
  exact ⟨fun ⟨f,hf,q⟩=>⟨f,(List.mem_filter.1 hf).1,q⟩,fun ⟨f,hf,q⟩=>⟨f,List.mem_filter.2 ⟨hf,decide_eq_true (.inr q.1)⟩,q⟩⟩
 small:=by
  rw [hp.length_eq]
  exact Nat.le_trans (List.length_filter_le _ _) hfl
 sum:=by
  have e1:(ys.map fun x=>x.rs.length)=(ys.map (·.num)).map fun n=>(zs.filter fun p=>decide (Cr n p.2)).length:=by
   rw [List.map_map]
   refine List.map_congr_left fun x hx => ?_
   show x.rs.length=_
   rw [hi.rs x (List.mem_filter.1 (hp.mem_iff.1 hx)).1];rfl
  have hnd:(ys.map (·.num)).Nodup:=(hs.imp fun {a b} q=>Int.ne_of_lt q) |> List.pairwise_map.2
  rw [e1]
  exact Nat.le_trans (E2a hnd zs) hn
 ok:=hok
end Go.Hw
namespace Go.Hw
open Go
attribute [local irreducible] GO GOl GDp Val Fn Res At Fx Blk By Dk Cl Has Yl Mn Naa Mc Fl neF
open Go.Proofs (Tryz.prog)
theorem Eya (pre post:List Cf)(x y:Cf)(hn:y.num=x.num)(hb:y.b=x.b):Fl (pre++y::post)=Fl (pre++x::post):=by unfold Fl;simp [hn,hb]
theorem fmap7_0:Fl []=[]:=by unfold Fl;rfl
theorem fileC_set (x:Cf)(j:Nat):(Px x).set (2+j) (.bool true)=Px ⟨x.b,x.num,x.A,x.c,x.rs,x.s.set j true⟩:=by
 show (Value.int .i64 x.num::Value.slice x.A x.rs.length x.c::x.s.map .bool).set (2+j) _=Value.int .i64 x.num::Value.slice x.A x.rs.length x.c::(x.s.set j true).map .bool
 rw [show 2+j=j+1+1 by omega,List.set_cons_succ,List.set_cons_succ,List.map_set]
open Classical in
theorem Lca (l:List (Fsh×Fct)):(Mc l).length≤l.length:=by unfold Mc;exact List.length_filter_le _ _
theorem validP_0:Mc []=[]:=by unfold Mc;rfl
theorem Eza (a b:List Cf):Fl (a++b)=Fl a++Fl b:=by unfold Fl;rw [List.map_append]
theorem fmap7_nil {a:List Cf}(h:Fl a=[]):a=[]:=by unfold Fl at h;exact List.map_eq_nil_iff.1 h
theorem perm_y {out s1 s2 T:List Cf}{y:Cf}(h:(out++(s1++y::s2).filter neF).Perm T)(hy:neF y=true):((out++[y])++(s1++s2).filter neF).Perm T:=by
 refine List.Perm.trans ?_ h
 simp only [List.filter_append,List.filter_cons,hy,if_true,List.append_assoc,List.singleton_append]
 exact List.Perm.append_left _ List.perm_middle.symm
theorem perm_n {out s1 s2 T:List Cf}{y:Cf}(h:(out++(s1++y::s2).filter neF).Perm T)(hy:neF y=false):(out++(s1++s2).filter neF).Perm T:=by
 simpa only [List.filter_append,List.filter_cons,hy,Bool.false_eq_true,if_false] using h
theorem OpTo_stN {C:Ctx}{l:Sl}{Es Es':List Asn}{h:Ro}{G:Value→List Asn→Ro→Prop}{ty:TypeId}{pos:String}{aft:Array Edge}{gd:Option (Nat×Bool)}{t e:TypeId}{x y:Operand}{b n:Nat}{v:Value}{cs cs':List Value}{T:Ty}
  (hT:Cu t C.ts=some T) (hx:evl l x=some (.pointer (some ((⟨b,0,none⟩:Addr).add n)))) (hy:evl l y=some v) (hR:Nu Es (Blk b e cs) (Blk b e cs') Es') (hp:Cn v=[v]) (hn:n<cs.length) (hc:cs'=cs.set n v)
  (hl:T.size=1) (h1:Ot [v]=true) (g:G undef Es' h):Hq C l Es h ⟨none,.store t x y,ty,pos,aft,gd⟩ G :=
 Ah (off:=n) (cs':=cs') hT (by rw [hx,Fu,Nat.zero_add]) hy hR (by rw [hp,Bla _ _ _ hn,hc]) (by rw [hp,hl];rfl) (by rw [hp];exact h1) g
theorem files_c (h:Ro)(hG:Kg h)(A:Option Addr)(n c:Nat)(l:List (Fsh×Fct))(hx:Co h A n l):Res Tryz.prog 92 #[.slice A n c] h (fun u h'=>∃ A' c' bs,u=.slice A' bs.length c'∧Cc Mi 1 h' A' bs.length bs∧Ii h' (Da (fcs l)) bs):=by
 refine Bq (args:=[_]) ts_ok Go.Proofs.Tryz.func92 rfl rfl fun w0 X0 => ?_
 have hlen:=hx.row.len
 have hn:=hx.small
 have h32:Kd (fcs l):=fun f hf=>by
  obtain ⟨p,hp,rfl⟩:=List.mem_map.1 hf
  exact (hx.fat p hp).1.void
 refine Eh 57 82 ?_
 repeat' (first|apply Ac|apply Ak|apply Aa|apply Ab|(apply Ad;(iterate 3 exact J)))
 refine Bt (X:=Nat×List (Fsh×Fct)×Option Addr×Nat×Ro) (fun x=>x.1≤n∧Le h x.2.2.2.2∧x.2.1=Mc (l.take x.1)) (fun x=>n-x.1)
  (fun x=>[(16,.int .i64 x.1),(15,.int .i64 n),(14,.slice A n c),(3,.slice x.2.2.1 x.2.1.length x.2.2.2.1)])
  (fun x=>[By 57 82 (.slice x.2.2.1 x.2.1.length x.2.2.2.1) x.2.1.length (x.2.1.flatMap Bx)]) (fun x=>x.2.2.2.2) (0,[],none,0,h) ⟨by dsimp only;omega,Le.refl _,by rw [List.take_zero,validP_0]⟩ QS QT rfl ?_
 rintro ⟨k,out,A4,c4,hh⟩ ⟨hk,hle,ho⟩ ih
 dsimp only at hk hle ho ih ⊢
 have hol:out.length≤k:=by
  have:=Lca (l.take k)
  rw [← ho,List.length_take] at this
  omega
 by_cases hkn:k<n
 · have a1:=hx.row.addrD hkn
   have c1:=(hx.row.cellsD p0 hkn).le hle
   have et:=Fq p0 hlen hkn
   have hme:=mem7 p0 (show k<l.length by omega)
   have hfa:=hx.fat _ hme
   generalize l.getD k p0=p at *
   have hch:=Na hh p.1 p.2 (hfa.1.le hle) hfa.2
   have hsn:=F8a (l.take k) p
   rw [← et,← ho] at hsn
   by_cases hP:K45 p.2∧Cg p.2
   · rw [if_pos hP] at hsn
     rw [if_pos hP.2] at hch
     obtain ⟨hP1,hP2⟩:=hP
     have hP3:p.2.kind=4∨p.2.kind=5:=hP1
     clear hx hlen
     repeat' (first|apply Ac|apply Au|apply Ap|apply Ak|apply Aa|apply Ab|(apply Aw;exact J;exact J)|(apply Bg;(iterate 3 exact J);omega;exact J;exact J)|(apply Ad;(iterate 3 exact J))|(apply Ai;exact J;exact Av rfl QM rfl;exact J;exact J)|(apply Bd;exact J;exact J;(first|(apply Be (j:=k);(iterate 5 exact J);exact a1;(with_reducible exact J);omega)|(apply Ar;exact J;exact Bh rfl c1 rfl));exact QA)|(apply Af;(iterate 3 exact J);(first|(apply Ah;(iterate 3 exact J);exact QR;(iterate 3 exact J);skip)|(apply Ag;exact J;intro b;skip)|(apply Aq;exact J;exact Pv;exact hch;skip)|(apply Bc (enc:=Bx) (n:=1) [p];(iterate 3 exact J);exact List.cons_ne_nil _ _;(iterate 4 exact J);exact Bv;exact J;exact J;intro b5 h5 hle5 hs5;skip)|(apply Bk (enc:=Bx) (xs:=out);(iterate 7 exact J);exact hs5;exact Bv;exact Ft;intro v1;exact QR;omega;exact J;intro A5 c5;skip)))|(apply Aj;exact J;all_goals (intro hc;try simp only [hcS,reduceCtorEq] at hc;try (exfalso;omega)))|(apply Ba;exact J;exact J;all_goals (intro hc;try simp only [hcS,reduceCtorEq] at hc;try (exfalso;omega))))
     all_goals first
      | (exfalso;omega)
      | (have h3:=ih (k+1,out++[p],A5,c5,h5) ⟨by dsimp only;omega,hle.trans hle5,by dsimp only;exact hsn.symm⟩ (by dsimp only;omega)
         dsimp only at h3
         rw [List.length_append] at h3
         refine Bw QS QT (h3))
   · rw [if_neg hP] at hsn
     have h3:=ih (k+1,out,A4,c4,hh) ⟨by dsimp only;omega,hle,by dsimp only;exact hsn.symm⟩ (by dsimp only;omega)
     dsimp only at h3
     by_cases hP3:p.2.kind=4∨p.2.kind=5
     · rw [if_neg (fun q=>hP ⟨hP3,q⟩)] at hch
       repeat' (first|apply Ac|apply Au|apply Ap|apply Ak|apply Aa|apply Ab|(apply Aw;exact J;exact J)|(apply Bg;(iterate 3 exact J);omega;exact J;exact J)|(apply Ad;(iterate 3 exact J))|(apply Ai;exact J;exact Av rfl QM rfl;exact J;exact J)|(apply Bd;exact J;exact J;(first|(apply Be (j:=k);(iterate 5 exact J);exact a1;(with_reducible exact J);omega)|(apply Ar;exact J;exact Bh rfl c1 rfl));exact QA)|(apply Af;(iterate 3 exact J);(first|(apply Ah;(iterate 3 exact J);exact QR;(iterate 3 exact J);skip)|(apply Ag;exact J;intro b;skip)|(apply Aq;exact J;exact Pv;exact hch;skip)))|(apply Aj;exact J;all_goals (intro hc;try simp only [hcS,reduceCtorEq] at hc;try (exfalso;omega)))|(apply Ba;exact J;exact J;all_goals (intro hc;try simp only [hcS,reduceCtorEq] at hc;try (exfalso;omega))))
       all_goals first
        | (exfalso;omega)
        | (refine Bw QS QT (h3))
     · have hP4:p.2.kind≠4∧p.2.kind≠5:=⟨fun q=>hP3 (.inl q),fun q=>hP3 (.inr q)⟩
       repeat' (first|apply Ac|apply Au|apply Ap|apply Ak|apply Aa|apply Ab|(apply Aw;exact J;exact J)|(apply Bg;(iterate 3 exact J);omega;exact J;exact J)|(apply Ad;(iterate 3 exact J))|(apply Ai;exact J;exact Av rfl QM rfl;exact J;exact J)|(apply Bd;exact J;exact J;(first|(apply Be (j:=k);(iterate 5 exact J);exact a1;(with_reducible exact J);omega)|(apply Ar;exact J;exact Bh rfl c1 rfl));exact QA)|(apply Af;(iterate 3 exact J);(first|(apply Ah;(iterate 3 exact J);exact QR;(iterate 3 exact J);skip)|(apply Ag;exact J;intro b;skip)))|(apply Aj;exact J;all_goals (intro hc;try simp only [hcS,reduceCtorEq] at hc;try (exfalso;omega)))|(apply Ba;exact J;exact J;all_goals (intro hc;try simp only [hcS,reduceCtorEq] at hc;try (exfalso;omega))))
       all_goals first
        | (exfalso;omega)
        | (refine Bw QS QT (h3))
 · rw [List.take_of_length_le (by omega)] at ho
   clear ih
   obtain ⟨C,hC⟩:∃ C,C=Da (fcs l):=⟨_,rfl⟩
   have hcv:Da (fcs out)=Oq C:=by rw [ho,C9a h32,hC]
   have hok:∀ f∈C,Cg f:=fun f hf=>(((Gr (fcs l) h32).2 f).1 (hC ▸ hf)).2
   rw [← hC]
   have hgd:∀ p∈out,FGd h p:=fun p hp=>by
    rw [ho] at hp
    obtain ⟨q1,_,q3⟩:=Mb.1 hp
    have:=hx.fat p q1
    exact ⟨this.1,this.2,q3⟩
   have h45:∀ p∈out,p.2.kind=4∨p.2.kind=5:=fun p hp=>by
    rw [ho] at hp
    exact (Mb.1 hp).2.1
   refine Ge (enc:=Bx) (e:=57) (sz:=82) (n:=out.length) (xs:=out) Bv rfl QK ?_
   intro A7 c7 h7 hle7 e7 hnc7 hs7
   cases e7
   have hle77:Le h h7:=QL
   clear ho hx
   repeat' (first|apply Ac|apply Ak|apply Aa|apply Ab|(apply Bn;exact J)|(apply Ad;(iterate 3 exact J))|(apply Af;(iterate 3 exact J);(first|(apply Ah;(iterate 3 exact J);exact QR;(iterate 3 exact J);skip)|(apply Ag;exact J;intro b;skip)|(apply Et ekI Pt;intro bm;skip)|(apply Bi;exact J;exact has151;exact sortedF_c _ (hG.le QL) _ out.length _ out (hs7.le QL) (by omega) (fun p hp=>(hgd p hp).le QL);exact QT;rintro vs Es9 h9 hle9 ⟨A9,c9,zs,rfl,hzc,hzs,hzn,rfl⟩;skip)))|(apply Aj;exact J;all_goals (intro hc;try simp only [hcS,reduceCtorEq] at hc;try (exfalso;omega))))
   generalize b=bF
   have hle79:Le h h9:=QL
   refine Ge (enc:=Bx) (e:=57) (sz:=82) (n:=zs.length) (xs:=zs) Bv rfl QK ?_
   intro A8 c8 h8 hle8 e8 hnc8 hs8
   cases e8
   have hle78:Le h h8:=hle79.trans hle8
   have hzg:∀ p∈zs,FGd h p:=fun p hp=>hgd p (hzs p hp)
   have hz45:∀ p∈zs,p.2.kind=4∨p.2.kind=5:=fun p hp=>h45 p (hzs p hp)
   have hzn2:zs.length≤1000000:=by omega
   rw [hcv] at hzc
   clear hgd h45 hzs hcv hs7 hC
   refine GO_sepNil ?_
   rw [show ([]:List (Int×Nat))=Fl [] from fmap7_0.symm]
   refine Bt (X:=Nat×List Cf×Ro) (fun x=>x.1≤zs.length∧Le h8 x.2.2∧Du (zs.take x.1) x.2.1∧x.2.1.length≤x.1) (fun x=>zs.length-x.1)
    (fun x=>[(43,.int .i64 x.1),(42,.int .i64 zs.length),(41,.slice A9 zs.length c9),(7,.func (.func 150) #[] #[Pt bF]),(6,Pt bF)])
    (fun x=>[Blk bF 224 [.map (some bm)],Dk ekI Pt bm (Fl x.2.1),Mn (x.2.1.flatMap My)]) (fun x=>x.2.2) (0,[],h8) ⟨by dsimp only;omega,Le.refl _,Du.nil,Nat.le_refl _⟩ QS QT rfl ?_
   rintro ⟨i,fs,hq⟩ ⟨hi,hleq,hI,hfl⟩ ih
   dsimp only at hi hleq hI hfl ih ⊢
   by_cases hin:i<zs.length
   · have a1:=hs8.addrD hin
     have c1:=(hs8.cellsD p0 hin).le hleq
     have et:=Fq p0 (xs:=zs) rfl hin
     have hme:=mem7 p0 hin
     have hpg:=hzg _ hme
     have hp45:=hz45 _ hme
     generalize zs.getD i p0=p at *
     have hgn:∀ pre (x:Cf) post nn,((pre++x::post=fs)∨(∃ b,pre=fs∧post=[]∧x=B3a b nn∧∀ y∈fs,y.num≠nn))→Du (zs.take i) (pre++x::post)∧(pre++x::post).length≤i+1∧x.rs.length≤i:=by
      intro pre x post nn hor
      have h1:Du (zs.take i) (pre++x::post)∧(pre++x::post).length≤i+1:=by
       rcases hor with e|⟨b,e1,e2,e3,e4⟩
       · rw [e];exact ⟨hI,by omega⟩
       · subst e1;subst e2;subst e3;exact ⟨hI.get e4,by simp;omega⟩
      refine ⟨h1.1,h1.2,?_⟩
      have:=h1.1.nums_len (x:=x) (by simp)
      rw [List.length_take] at this
      omega
     by_cases hk4:p.2.kind=4
     · repeat' (first|apply Ac|apply Au|apply Ap|apply Ak|apply Aa|apply Ab|(apply Bg;(iterate 3 exact J);omega;exact J;exact J)|(apply Ad;(iterate 3 exact J))|(apply Ai;exact J;exact Av rfl QM rfl;exact J;exact J)|(apply Bd;exact J;exact J;(first|(apply Be (j:=i);(iterate 5 exact J);exact a1;(with_reducible exact J);omega)|(apply Ar;exact J;exact Bh rfl c1 rfl));exact QA)|(apply Af;(iterate 3 exact J);(first|(apply Ah;(iterate 3 exact J);exact QR;(iterate 3 exact J);skip)|(apply Ag;exact J;intro b;skip)|(apply Fp (f:=150) (fs:=[]) (cs:=[Pt bF]);exact J;exact J;exact has150;exact get7_c _ bF bm fs _;exact QT;rintro vg E2 h2 hle2 ⟨pre,⟨bx,nx,Ax,cx,rs,sx⟩,post,rfl,hnx,hor,rfl⟩;skip)))|(apply Bf (n:=15) [0,1,2,3,4,5,6,7,8,9,10] [(0,0),(1,0),(2,0),(3,0),(4,0),(5,0),(6,1),(7,1),(8,0),(9,0),(10,1)];kernel_rfl)|(apply Ce;exact J;kernel_rfl;(iterate 3 exact J))|(apply Bj;exact J;kernel_rfl;(iterate 3 exact J);exact QM;exact J;exact J)|(apply Br;exact J;kernel_rfl;(iterate 3 exact J);(first|(apply Bc (enc:=Bx) (n:=1) [p];(iterate 3 exact J);exact List.cons_ne_nil _ _;(iterate 4 exact J);exact Bv;exact J;exact J;intro b5 h5 hle5 hs5;refine ⟨hle5,QN,?_⟩)|(apply Bk (enc:=Bx) (xs:=rs);(iterate 7 exact J);exact hs5;exact Bv;exact Ft;intro v1;exact QR;(have q7:rs.length≤i:=(hgn _ _ _ _ hor).2.2;exact Nat.le_trans (Nat.add_le_add_right q7 1) (by omega));exact J;intro A5 c5;refine ⟨Le.refl _,QN,?_⟩)|(apply OpTo_stN (b:=bx) (n:=1) (cs:=Px ⟨bx,nx,Ax,cx,rs,sx⟩) (cs':=Px ⟨bx,nx,A5,c5,rs++[p],sx⟩) (e:=227);(iterate 3 exact J);exact QR;exact J;(show 1<(sx.map Value.bool).length+1+1;omega);(show (Value.int .i64 nx::Value.slice A5 (rs++[p]).length c5::sx.map Value.bool)=Value.int .i64 nx::Value.slice A5 (rs.length+1) c5::sx.map Value.bool;rw [List.length_append];rfl);exact J;exact J;refine ⟨Le.refl _,QN,?_⟩)))|(apply Bm;kernel_rfl;exact J)|(apply Aj;exact J;all_goals (intro hc;try simp only [hcS,reduceCtorEq] at hc;try (exfalso;omega))))
       all_goals
        have hgg:=hgn _ _ _ _ hor
        have e9:rs.length+1=(rs++[p]).length:=by simp
        refine Cs (Es':=[Mn (pre.flatMap My++post.flatMap My),Blk bx 227 (Px ⟨bx,nx,A5,c5,rs++[p],sx⟩),By 57 82 (.slice A5 (rs.length+1) c5) (rs.length+1) ((rs++[p]).flatMap Bx),Blk bF 224 [.map (some bm)],Dk ekI Pt bm (Fl (pre++⟨bx,nx,Ax,cx,rs,sx⟩::post))]) QT ?_
        rw [e9,← Eya pre post ⟨bx,nx,Ax,cx,rs,sx⟩ ⟨bx,nx,A5,c5,rs++[p],sx⟩ rfl rfl]
        refine A5a (g:=My) (pre:=pre) (post:=post) (y:=⟨bx,nx,A5,c5,rs++[p],sx⟩) rfl QT ?_
        have h3:=ih (i+1,pre++⟨bx,nx,A5,c5,rs++[p],sx⟩::post,h5) ⟨by dsimp only;omega,hleq.trans (hle2.trans hle5),by dsimp only;rw [et];exact hgg.1.ruling hk4 hnx A5 c5,by
         have:=hgg.2.1
         simp only [List.length_append,List.length_cons] at this ⊢
         omega⟩ (by dsimp only;omega)
        dsimp only at h3
        refine Bw QS QT (h3)
     · have hk5:p.2.kind=5:=hp45.resolve_left hk4
       cases hsp:p.2.aSusp with
       | false =>
         have h3:=ih (i+1,fs,hq) ⟨by dsimp only;omega,hleq,by dsimp only;rw [et];exact hI.nop hk5 hsp,by dsimp only;omega⟩ (by dsimp only;omega)
         dsimp only at h3
         repeat' (first|apply Ac|apply Au|apply Ap|apply Ak|apply Aa|apply Ab|(apply Bg;(iterate 3 exact J);omega;exact J;exact J)|(apply Ad;(iterate 3 exact J))|(apply Ai;exact J;exact Av rfl QM rfl;exact J;exact J)|(apply Bd;exact J;exact J;(first|(apply Be (j:=i);(iterate 5 exact J);exact a1;(with_reducible exact J);omega)|(apply Ar;exact J;exact Bh rfl c1 rfl));exact QA)|(apply Af;(iterate 3 exact J);(first|(apply Ah;(iterate 3 exact J);exact QR;(iterate 3 exact J);skip)|(apply Ag;exact J;intro b;skip)))|(apply Bf (n:=17) [0,1,2,3,4,5,6,7,8,9,10,11] [(0,0),(1,0),(2,0),(3,0),(5,0),(6,0),(7,0),(4,1),(8,0),(9,0),(10,0),(11,1)];kernel_rfl)|(apply Ce;exact J;kernel_rfl;(iterate 3 exact J))|(apply Bj;exact J;kernel_rfl;(iterate 3 exact J);exact QM;exact J;exact J)|(apply Aj;exact J;all_goals (intro hc;try simp only [hcS,reduceCtorEq] at hc;try (exfalso;omega))))
         all_goals first
          | (exfalso;omega)
          | (exfalso;exact absurd (hc.symm.trans hsp) (by decide))
          | (refine Bw QS QT (h3))
       | true =>
         obtain ⟨j,hj,hj4⟩:∃ j:Nat,p.2.aInst=(j:Int)∧j<4:=by
          have h4:=hpg.2.2.2.2.1
          unfold Fb at h4
          rw [if_neg (by omega),if_neg (by omega),if_neg (by omega),if_neg (by omega),if_pos hk5] at h4
          exact ⟨p.2.aInst.toNat,by omega,by omega⟩
         repeat' (first|apply Ac|apply Au|apply Ap|apply Ak|apply Aa|apply Ab|(apply Bg;(iterate 3 exact J);omega;exact J;exact J)|(apply Ad;(iterate 3 exact J))|(apply Ai;exact J;exact Av rfl QM rfl;exact J;exact J)|(apply Bd;exact J;exact J;(first|(apply Be (j:=i);(iterate 5 exact J);exact a1;(with_reducible exact J);omega)|(apply Ar;exact J;exact Bh rfl c1 rfl));exact QA)|(apply Af;(iterate 3 exact J);(first|(apply Ah;(iterate 3 exact J);exact QR;(iterate 3 exact J);skip)|(apply Ag;exact J;intro b;skip)))|(apply Bf (n:=17) [0,1,2,3,4,5,6,7,8,9,10,11] [(0,0),(1,0),(2,0),(3,0),(5,0),(6,0),(7,0),(4,1),(8,0),(9,0),(10,0),(11,1)];kernel_rfl)|(apply Ce;exact J;kernel_rfl;(iterate 3 exact J))|(apply Bj;exact J;kernel_rfl;(iterate 3 exact J);exact QM;exact J;exact J)|(apply De;exact J;kernel_rfl;exact J;exact J;(first|(apply Dj (j:=j);(iterate 5 exact J);exact hj;omega));exact QA)|(apply Br;exact J;kernel_rfl;(iterate 3 exact J);(first|(apply Fp (f:=150) (fs:=[]) (cs:=[Pt bF]);exact J;exact J;exact has150;exact get7_c _ bF bm fs _;exact QT;rintro vg E2 h2 hle2 ⟨pre,⟨bx,nx,Ax,cx,rs,sx⟩,post,rfl,hnx,hor,rfl⟩;refine ⟨hle2,QN,?_⟩)|(apply OpTo_stF (b:=bx) (n:=2) (j:=j) (cs:=Px ⟨bx,nx,Ax,cx,rs,sx⟩) (cs':=Px ⟨bx,nx,Ax,cx,rs,sx.set j true⟩) (e:=227);(iterate 3 exact J);exact QR;exact J;(have q8:sx.length=4:=(hgn _ _ _ _ hor).1.len ⟨bx,nx,Ax,cx,rs,sx⟩ (by simp);show 2+j<(sx.map Value.bool).length+1+1;rw [List.length_map];omega);exact (fileC_set ⟨bx,nx,Ax,cx,rs,sx⟩ j).symm;exact J;exact J;refine ⟨Le.refl _,QN,?_⟩)))|(apply Bm;kernel_rfl;exact J)|(apply Aj;exact J;all_goals (intro hc;try simp only [hcS,reduceCtorEq] at hc;try (exfalso;omega))))
         all_goals (try (exfalso;exact absurd (hc.symm.trans hsp) (by decide)))
         all_goals
          have hgg:=hgn _ _ _ _ hor
          refine Cs (Es':=[Mn (pre.flatMap My++post.flatMap My),Blk bx 227 (Px ⟨bx,nx,Ax,cx,rs,sx.set j true⟩),By 57 82 (.slice Ax rs.length cx) rs.length (rs.flatMap Bx),Blk bF 224 [.map (some bm)],Dk ekI Pt bm (Fl (pre++⟨bx,nx,Ax,cx,rs,sx⟩::post))]) QT ?_
          rw [← Eya pre post ⟨bx,nx,Ax,cx,rs,sx⟩ ⟨bx,nx,Ax,cx,rs,sx.set j true⟩ rfl rfl]
          refine A5a (g:=My) (pre:=pre) (post:=post) (y:=⟨bx,nx,Ax,cx,rs,sx.set j true⟩) rfl QT ?_
          have h3:=ih (i+1,pre++⟨bx,nx,Ax,cx,rs,sx.set j true⟩::post,h2) ⟨by dsimp only;omega,hleq.trans hle2,by dsimp only;rw [et];exact hgg.1.appeal hk5 hsp hnx hj hj4,by
           have:=hgg.2.1
           simp only [List.length_append,List.length_cons] at this ⊢
           omega⟩ (by dsimp only;omega)
          dsimp only at h3
          refine Bw QS QT (h3)
   · rw [List.take_of_length_le (by omega)] at hI
     clear ih
     refine Pp (A:=Mn (fs.flatMap My)) QK ?_
     intro D0 hr hler hA0
     have hfr:=Mha hA0
     have hfl2:fs.length≤1000000:=by omega
     have hleh:Le h hr:=QL
     have hfa:∀ x∈fs,Eu hr x:=fun x hx=>⟨(hfr x hx).1,(hfr x hx).2,fun p hp=>by
      rw [hI.rs x hx] at hp
      exact (hzg p (List.mem_filter.1 hp).1).le hleh,hI.len x hx,Nat.le_trans (hI.nums_len hx) hzn2⟩
     have hfo:∀ {h':Ro} {ys:List Cf},Le hr h'→ys.Perm (fs.filter neF)→(ys.Pairwise fun x y=>x.num<y.num)→Ii h' C ys:=fun hl hp hs=>files_out hzc hI hp hs hok hzn2 (fun x hx=>(hfa x hx).le hl) hfl2
     have hnd:=hI.nodup
     clear hA0 hfr hzg hz45 hs8 hok hzc hI
     refine Eh 172 1 ?_
     repeat' (first|apply Ac|apply Ak|apply Aa|apply Ab|(apply Bn;exact J)|(apply Ad;(iterate 3 exact J))|(apply Ai;exact J;exact Av rfl QM rfl;exact J;exact J)|(apply Af;(iterate 3 exact J);(first|(apply A1a (ek:=ekI) (ev:=Pt);(iterate 3 exact J);intro rr;exact QR;intro rr;skip)))|(apply Aj;exact J;all_goals (intro hc;try simp only [hcS,reduceCtorEq] at hc;try (exfalso;omega))))
     refine Bt (X:=List Cf×List Cf×Option (Int×Nat)×Option Addr×Nat×Ro) (fun x=>Le hr x.2.2.2.2.2∧(x.1++x.2.1.filter neF).Perm (fs.filter neF)∧(∀ y∈x.2.1,y∈fs)∧x.1.length+x.2.1.length≤fs.length) (fun x=>x.2.1.length)
      (fun x=>[(81,.pointer (some ⟨rr,0,none⟩)),(11,.slice x.2.2.2.1 x.1.length x.2.2.2.2.1)])
      (fun x=>[Naa ekI Pt bm rr (Fl fs) (Fl x.2.1) x.2.2.1,By 172 1 (.slice x.2.2.2.1 x.1.length x.2.2.2.2.1) x.1.length (x.1.flatMap Mi)]) (fun x=>x.2.2.2.2.2) ([],fs,none,none,0,hr) ⟨Le.refl _,.refl _,fun _ h=>h,by simp⟩ QS QT rfl ?_
     rintro ⟨out,rem,cur,A6,c6,hk⟩ ⟨hlk,hpm,hsub,hln⟩ ih
     dsimp only at hlk hpm hsub hln ih ⊢
     have hos:∀ p∈out,p∈fs:=fun p hp=>(List.mem_filter.1 (hpm.mem_iff.1 (List.mem_append.2 (.inl hp)))).1
     have hno:(out.map (·.num)).Nodup:=by
      have g1:((fs.filter neF).map (·.num)).Nodup:=List.Nodup.sublist (List.Sublist.map _ List.filter_sublist) hnd
      have g2:=(hpm.map (·.num)).nodup_iff.2 g1
      rw [List.map_append] at g2
      exact (List.nodup_append.1 g2).1
     repeat' (first|apply Ac|apply Au|apply Ap|apply Ak|apply Aa|apply Ab|(apply Bn;exact J)|(apply Ad;(iterate 3 exact J))|(apply Bd;exact J;exact J;(first|(apply Kza (ek:=ekI) (ev:=Pt) (b:=bm) (m:=Fl fs) (rem:=Fl s1++Fl s2) (p:=(y.num,y.b));exact J)|(apply Ar;exact J;first|exact Bh rfl (by assumption) rfl|exact Dc rfl (by assumption) rfl|exact Db rfl (by assumption) rfl|exact Lv_roF3 rfl (by assumption) rfl));exact QA)|(apply Af;(iterate 3 exact J);(first|(apply Fya;exact J;intro rem' cur';exact QR;intro hrem;rotate_left;intro q r1 r2 hrem;(obtain ⟨s1,y,s2,hre,rfl,rfl,rfl⟩:=Hla hrem);(have hym:y∈fs:=hsub y (by rw [hre];simp));(have hyc:=((hfa y hym).le hlk).cells);rotate_left;all_goals skip)|(apply Bc (enc:=Mi) (n:=1) [y];(iterate 3 exact J);exact List.cons_ne_nil _ _;(iterate 4 exact J);exact fun _=>rfl;exact J;exact J;intro b1 h1 hle1 hs1;skip)|(apply Bk (enc:=Mi) (xs:=out);(iterate 7 exact J);exact hs1;exact fun _=>rfl;exact fun x=>Ci rfl;intro v1;exact QR;omega;exact J;intro A1 c1;skip)|(refine Fwa (enc:=Mi) (e:=172) (sz:=1) (xs:=out) (n:=out.length) (fun _=>rfl) rfl QK ?_;intro A2 c2 hz hlz ez hncz hsz;cases ez;apply Bi;exact J;exact has152;exact sortedP_c hz _ _ _ out hsz (by omega) (fun p hp=>(hfa p (hos p hp)).le QL) hno;exact QT;rintro vs Ez hv hlv ⟨A0,c0,ys,rfl,hyp,hys,rfl⟩;skip)))|(apply Aj;exact J;all_goals (intro hc;try simp only [hcS,reduceCtorEq] at hc;try (exfalso;omega))))
     · have hr0:=fmap7_nil hrem
       subst hr0
       rw [List.filter_nil,List.append_nil] at hpm
       refine Ge (enc:=Mi) (e:=172) (sz:=1) (n:=out.length) (xs:=ys) (fun _=>rfl) hyp.length_eq QK ?_
       intro A2 c2 hw hlw ew hncw hsw
       cases ew
       exact Cb rfl rfl rfl ⟨A0,c0,ys,by rw [hyp.length_eq],by rw [hyp.length_eq];exact hsw,hfo QL (hyp.trans hpm) hys⟩
     · have hyt:neF y=true:=neF_pos.2 (by omega)
       have h3:=ih (out++[y],s1++s2,some (y.num,y.b),A1,c1,h1) ⟨hlk.trans hle1,by dsimp only;rw [hre] at hpm;exact perm_y hpm hyt,fun z hz=>hsub z (by
        rw [hre]
        rcases List.mem_append.1 hz with w|w
        · exact List.mem_append.2 (.inl w)
        · exact List.mem_append.2 (.inr (List.mem_cons_of_mem _ w))),by
        rw [hre] at hln
        simp only [List.length_append,List.length_cons,List.length_nil] at hln ⊢
        omega⟩ (by rw [hre];simp only [List.length_append,List.length_cons];omega)
       dsimp only at h3
       rw [Eza,List.length_append] at h3
       refine Bw QS QT (h3)
     · have hyt:neF y=false:=by
        cases hq9:neF y with
        | false=>rfl
        | true=>have:=neF_pos.1 hq9;omega
       have h3:=ih (out,s1++s2,some (y.num,y.b),A6,c6,hk) ⟨hlk,by dsimp only;rw [hre] at hpm;exact perm_n hpm hyt,fun z hz=>hsub z (by
        rw [hre]
        rcases List.mem_append.1 hz with w|w
        · exact List.mem_append.2 (.inl w)
        · exact List.mem_append.2 (.inr (List.mem_cons_of_mem _ w))),by
        rw [hre] at hln
        simp only [List.length_append,List.length_cons] at hln ⊢
        omega⟩ (by rw [hre];simp only [List.length_append,List.length_cons];omega)
       dsimp only at h3
       rw [Eza] at h3
       refine Bw QS QT (h3)
end Go.Hw
