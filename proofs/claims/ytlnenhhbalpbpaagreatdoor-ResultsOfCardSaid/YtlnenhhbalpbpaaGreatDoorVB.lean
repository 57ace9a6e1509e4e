import Derived.Test.YtlnenhhbalpbpaaGreatDoorVA
import Derived.Test.YtlnenhhbalpbpaaGreatDoorFC
set_option linter.all false
set_option maxRecDepth 100000
set_option maxHeartbeats 8000000
namespace Go.Hw
open Go
attribute [local irreducible] GO GOl GDp Val Fn Res Ab Du Blk Bd Cd Bf Has Yl Ik Cra
open Go.Proofs.Tryz (prog)
structure Hd (h:Ro) (C:List Fct) (bs:List Bt):Prop where
 nums:bs.map (·.num)=Cp C
 at_:∀ x∈bs,Dq h x
 rs:∀ x∈bs,fcs x.rs=C.filter fun f=>decide (Bp x.num f)
 sus:∀ x∈bs,∀ i,i<4→(x.s.getD i false=true↔Ri C x.num i)
 small:bs.length≤1000000
 sum:(bs.map fun x=>x.rs.length).sum≤1000000
 ok:∀ f∈C,Bm f
theorem Hd.le {h h':Ro}{C:List Fct}{bs:List Bt}(a:Hd h C bs)(hl:Le h h'):Hd h' C bs:=⟨a.nums,fun x hx=>(a.at_ x hx).le hl,a.rs,a.sus,a.small,a.sum,a.ok⟩
open Classical in
noncomputable def Kp (l:List (Fsh×Fct)):List (Fsh×Fct):=l.filter fun p=>decide (K45 p.2∧Bm p.2)
open Classical in
theorem Fta (l:List (Fsh×Fct))(p:Fsh×Fct):Kp (l++[p])=if K45 p.2∧Bm p.2 then Kp l++[p] else Kp l:=by
 unfold Kp
 rw [List.filter_append]
 by_cases h:K45 p.2∧Bm p.2 <;> simp [h]
open Classical in
theorem Ko {l:List (Fsh×Fct)}{p:Fsh×Fct}:p∈Kp l↔p∈l∧K45 p.2∧Bm p.2:=by
 unfold Kp;rw [List.mem_filter,decide_eq_true_eq]
theorem Cva {l:List (Fsh×Fct)}(h32:Mk (fcs l)):Ba (fcs (Kp l))=Nb (Ba (fcs l)):=by
 rw [← Lya h32]
 refine Lza (fun f hf => ?_) (fun f hf=>h32 f (List.mem_filter.1 hf).1) fun x hx => ?_
 · obtain ⟨p,hp,rfl⟩:=List.mem_map.1 hf
   exact h32 _ (List.mem_map_of_mem (Ko.1 hp).1)
 · unfold Nb fcs
   rw [List.mem_filter,List.mem_map,List.mem_map]
   constructor
   · rintro ⟨p,hp,rfl⟩
     have:=Ko.1 hp
     exact ⟨⟨p,this.1,rfl⟩,decide_eq_true this.2.1⟩
   · rintro ⟨⟨p,hp,rfl⟩,h45⟩
     exact ⟨p,Ko.2 ⟨hp,of_decide_eq_true h45,hx⟩,rfl⟩
theorem Gua:∀ {R:List Bt} {r1 r2:List (Int×Nat)} {q:Int×Nat},Er R=r1++q::r2→∃ s1 y s2,R=s1++y::s2∧r1=Er s1∧q=(y.num,y.b)∧r2=Er s2:=fun {R r1 r2 q} h=>by
 unfold Er at *
 obtain ⟨s1,t,e1,e2,e3⟩:=List.map_eq_append_iff.1 h
 obtain ⟨y,s2,e4,e5,e6⟩:=List.map_eq_cons_iff.1 e3
 exact ⟨s1,y,s2,by rw [e1,e4],e2.symm,e5.symm,e6.symm⟩
theorem Lla {fs:List Bt}{D:List Nat}{m:Ro}(h:(Ik (fs.flatMap Ls)).holds D m):∀ x∈fs,Ab m ⟨x.b,0,none⟩ (Om x)∧Ar Aq 82 m x.A x.rs.length x.rs:=fun x hx=>by
 have h1:=Ik.each h
 obtain ⟨D1,a1⟩:=h1 (Blk x.b 181 (Om x)) (List.mem_flatMap.2 ⟨x,hx,by simp⟩)
 obtain ⟨D2,a2⟩:=h1 (Bd 57 82 (.slice x.A x.rs.length x.c) x.rs.length (x.rs.flatMap Aq)) (List.mem_flatMap.2 ⟨x,hx,by simp⟩)
 obtain ⟨A,c,e1,_,e3⟩:=Lc Bc rfl a2
 injection e1 with e1 _ _
 subst e1
 unfold Blk at a1
 exact ⟨Eza a1.2,e3⟩
theorem Cz.nums_len {C:List (Fsh×Fct)}{fs:List Bt}(h:Cz C fs){x:Bt}(hx:x∈fs):x.rs.length≤C.length:=by
 rw [h.rs x hx];exact List.length_filter_le _ _
def neF (x:Bt):Bool:=!x.rs.isEmpty
theorem neF_pos {x:Bt}:neF x=true↔0<x.rs.length:=by
 unfold neF
 cases x.rs <;> simp
theorem files_out {h:Ro}{zs:List (Fsh×Fct)}{C:List Fct}{fs ys:List Bt}(hz:fcs zs=Nb C)(hi:Cz zs fs)(hp:ys.Perm (fs.filter neF))(hs:ys.Pairwise fun x y=>x.num<y.num)(hok:∀ f∈C,Bm f)(hn:zs.length≤1000000)(ha:∀ x∈fs,Dq h x)(hfl:fs.length≤1000000):Hd h C ys where
 nums:=by
  have:=Gva hi hp (hs.imp fun {a b} q=>Int.le_of_lt q)
  rw [this,hz,casesL_45]
 at_ x hx:=ha x (List.mem_filter.1 (hp.mem_iff.1 hx)).1
 rs x hx:=by
  have h1:=hi.rs x (List.mem_filter.1 (hp.mem_iff.1 hx)).1
  rw [h1]
  have h2:fcs (zs.filter fun p=>decide (Bp x.num p.2))=(fcs zs).filter fun f=>decide (Bp x.num f):=by unfold fcs;rw [List.filter_map];rfl
  rw [h2,hz]
  unfold Nb
  rw [List.filter_filter]
  refine List.filter_congr fun f _ => ?_
  by_cases h9:Bp x.num f
  · simp [h9,h9.k45]
  · simp [h9]
 sus x hx i h4:=by
  rw [hi.sus x (List.mem_filter.1 (hp.mem_iff.1 hx)).1 i h4,hz]
  unfold Ri Nb
  exact ⟨fun ⟨f,hf,q⟩=>⟨f,(List.mem_filter.1 hf).1,q⟩,fun ⟨f,hf,q⟩=>⟨f,List.mem_filter.2 ⟨hf,decide_eq_true (.inr q.1)⟩,q⟩⟩
 small:=by
  rw [hp.length_eq]
  exact Nat.le_trans (List.length_filter_le _ _) hfl
 sum:=by
  have e1:(ys.map fun x=>x.rs.length)=(ys.map (·.num)).map fun n=>(zs.filter fun p=>decide (Bp n p.2)).length:=by
   rw [List.map_map]
   refine List.map_congr_left fun x hx => ?_
   show x.rs.length=_
   rw [hi.rs x (List.mem_filter.1 (hp.mem_iff.1 hx)).1];rfl
  have hnd:(ys.map (·.num)).Nodup:=(hs.imp fun {a b} q=>Int.ne_of_lt q) |> List.pairwise_map.2
  rw [e1]
  exact Nat.le_trans (Ela hnd zs) hn
 ok:=hok
end Go.Hw
namespace Go.Hw
open Go
attribute [local irreducible] GO GOl GDp Val Fn Res Ab Du Blk Bd Cd Bf Has Yl Ik Cra Kp Er neF
open Go.Proofs.Tryz (prog)
theorem Ega (pre post:List Bt)(x y:Bt)(hn:y.num=x.num)(hb:y.b=x.b):Er (pre++y::post)=Er (pre++x::post):=by unfold Er;simp [hn,hb]
theorem fmap7_0:Er []=[]:=by unfold Er;rfl
theorem fileC_set (x:Bt)(j:Nat):(Om x).set (2+j) (.bool true)=Om ⟨x.b,x.num,x.A,x.c,x.rs,x.s.set j true⟩:=by
 show (Value.int .i64 x.num::Value.slice x.A x.rs.length x.c::x.s.map .bool).set (2+j) _=Value.int .i64 x.num::Value.slice x.A x.rs.length x.c::(x.s.set j true).map .bool
 rw [show 2+j=j+1+1 by omega,List.set_cons_succ,List.set_cons_succ,List.map_set]
open Classical in
theorem Kea (l:List (Fsh×Fct)):(Kp l).length≤l.length:=by unfold Kp;exact List.length_filter_le _ _
theorem validP_0:Kp []=[]:=by unfold Kp;rfl
theorem Eha (a b:List Bt):Er (a++b)=Er a++Er b:=by unfold Er;rw [List.map_append]
theorem fmap7_nil {a:List Bt}(h:Er a=[]):a=[]:=by unfold Er at h;exact List.map_eq_nil_iff.1 h
theorem perm_y {out s1 s2 T:List Bt}{y:Bt}(h:(out++(s1++y::s2).filter neF).Perm T)(hy:neF y=true):((out++[y])++(s1++s2).filter neF).Perm T:=by
 refine List.Perm.trans ?_ h
 simp only [List.filter_append,List.filter_cons,hy,if_true,List.append_assoc,List.singleton_append]
 exact List.Perm.append_left _ List.perm_middle.symm
theorem perm_n {out s1 s2 T:List Bt}{y:Bt}(h:(out++(s1++y::s2).filter neF).Perm T)(hy:neF y=false):(out++(s1++s2).filter neF).Perm T:=by
 simpa only [List.filter_append,List.filter_cons,hy,Bool.false_eq_true,if_false] using h
theorem OpTo_stN {C:Ctx}{l:Sl}{Es Es':List Asn}{h:Ro}{G:Value→List Asn→Ro→Prop}{ty:TypeId}{pos:String}{aft:Array Edge}{gd:Option (Nat×Bool)}{t e:TypeId}{x y:Operand}{b n:Nat}{v:Value}{cs cs':List Value}{T:Ty}
  (hT:By t C.ts=some T) (hx:evl l x=some (.pointer (some ((⟨b,0,none⟩:Addr).add n)))) (hy:evl l y=some v) (hR:Lx Es (Blk b e cs) (Blk b e cs') Es') (hp:Bz v=[v]) (hn:n<cs.length) (hc:cs'=cs.set n v)
  (hl:T.size=1) (h1:Nc [v]=true) (g:G undef Es' h):Fw C l Es h ⟨none,.store t x y,ty,pos,aft,gd⟩ G :=
 Gm (off:=n) (cs':=cs') hT (by rw [hx,Ft,Nat.zero_add]) hy hR (by rw [hp,A4a _ _ _ hn,hc]) (by rw [hp,hl];rfl) (by rw [hp];exact h1) g
theorem files_c (h:Ro)(hG:Iv h)(A:Option Addr)(n c:Nat)(l:List (Fsh×Fct))(hx:Au h A n l):Res prog 77 #[.slice A n c] h (fun u h'=>∃ A' c' bs,u=.slice A' bs.length c'∧Ar Ky 1 h' A' bs.length bs∧Hd h' (Ba (fcs l)) bs):=by
 refine QXR Proofs.Tryz.func77 fun w0 X0=>?_
 have hlen:=hx.row.len
 have hn:=hx.small
 have h32:Mk (fcs l):=fun f hf=>by
  obtain ⟨p,hp,rfl⟩:=List.mem_map.1 hf
  exact (hx.fat p hp).1.void
 refine Fg 57 82 ?_
 repeat' (first|refine QF ?_|fail)
 refine Ai (X:=Nat×List (Fsh×Fct)×Option Addr×Nat×Ro) (fun x=>x.1≤n∧Le h x.2.2.2.2∧x.2.1=Kp (l.take x.1)) (fun x=>n-x.1)
  (fun x=>[(16,.int .i64 x.1),(15,.int .i64 n),(14,.slice A n c),(3,.slice x.2.2.1 x.2.1.length x.2.2.2.1)])
  (fun x=>[Bd 57 82 (.slice x.2.2.1 x.2.1.length x.2.2.2.1) x.2.1.length (x.2.1.flatMap Aq)]) (fun x=>x.2.2.2.2) (0,[],none,0,h) ⟨by dsimp only;omega,Le.refl _,by rw [List.take_zero,validP_0]⟩ QS QT rfl ?_
 rintro ⟨k,out,A4,c4,hh⟩ ⟨hk,hle,ho⟩ ih
 dsimp only at hk hle ho ih ⊢
 have hol:out.length≤k:=by
  have:=Kea (l.take k)
  rw [← ho,List.length_take] at this
  omega
 by_cases hkn:k<n
 · have a1:=hx.row.addrD hkn
   have c1:=(hx.row.cellsD p0 hkn).le hle
   have et:=Cb p0 hlen hkn
   have hme:=mem7 p0 (show k<l.length by omega)
   have hfa:=hx.fat _ hme
   generalize l.getD k p0=p at *
   have hch:=Ob hh p.1 p.2 (hfa.1.le hle) hfa.2
   have hsn:=Fta (l.take k) p
   rw [← et,← ho] at hsn
   by_cases hP:K45 p.2∧Bm p.2
   · rw [if_pos hP] at hsn
     rw [if_pos hP.2] at hch
     obtain ⟨hP1,hP2⟩:=hP
     have hP3:p.2.kind=4∨p.2.kind=5:=hP1
     clear hx hlen
     repeat' (first|refine QFs ?_|(apply Af;exact J;exact J;(first|exact QAc|exact QAf);exact QA)|(refine QB ?_;intro b)|(refine QG ?_;first|(refine QDo ?_)|(refine QBu ?_;intro b5 h5 hle5 hs5)|(refine QEt ?_;intro A5 c5))|(refine QH ?_ ?_<;>intro hc<;>try omega)|refine QJ ?_|(refine QI ?_ ?_<;>intro hc<;>try omega)|fail)
     all_goals first
      | (exfalso;omega)
      | (have h3:=ih (k+1,out++[p],A5,c5,h5) ⟨by dsimp only;omega,hle.trans hle5,by dsimp only;exact hsn.symm⟩ QAh
         dsimp only at h3
         rw [List.length_append] at h3
         refine Aj QS QT (h3))
   · rw [if_neg hP] at hsn
     have h3:=ih (k+1,out,A4,c4,hh) ⟨by dsimp only;omega,hle,by dsimp only;exact hsn.symm⟩ QAh
     dsimp only at h3
     by_cases hP3:p.2.kind=4∨p.2.kind=5
     · rw [if_neg (fun q=>hP ⟨hP3,q⟩)] at hch
       repeat' (first|refine QFs ?_|(apply Af;exact J;exact J;(first|exact QAc|exact QAf);exact QA)|(refine QB ?_;intro b)|(refine QG ?_;first|(refine QDo ?_))|(refine QH ?_ ?_<;>intro hc<;>try omega)|refine QJ ?_|(refine QI ?_ ?_<;>intro hc<;>try omega)|fail)
       all_goals first
        | (exfalso;omega)
        | (refine Aj QS QT (h3))
     · have hP4:p.2.kind≠4∧p.2.kind≠5:=⟨fun q=>hP3 (.inl q),fun q=>hP3 (.inr q)⟩
       repeat' (first|refine QFs ?_|(apply Af;exact J;exact J;(first|exact QAc|exact QAf);exact QA)|(refine QB ?_;intro b)|(refine QH ?_ ?_<;>intro hc<;>try omega)|refine QJ ?_|(refine QI ?_ ?_<;>intro hc<;>try omega)|fail)
       all_goals first
        | (exfalso;omega)
        | (refine Aj QS QT (h3))
 · rw [List.take_of_length_le QAd] at ho
   clear ih
   obtain ⟨C,hC⟩:∃ C,C=Ba (fcs l):=⟨_,rfl⟩
   have hcv:Ba (fcs out)=Nb C:=by rw [ho,Cva h32,hC]
   have hok:∀ f∈C,Bm f:=fun f hf=>(((Bx (fcs l) h32).2 f).1 (hC ▸ hf)).2
   rw [← hC]
   have hgd:∀ p∈out,FGd h p:=fun p hp=>by
    rw [ho] at hp
    obtain ⟨q1,_,q3⟩:=Ko.1 hp
    have:=hx.fat p q1
    exact ⟨this.1,this.2,q3⟩
   have h45:∀ p∈out,p.2.kind=4∨p.2.kind=5:=fun p hp=>by
    rw [ho] at hp
    exact (Ko.1 hp).2.1
   refine El (enc:=Aq) (e:=57) (sz:=82) (n:=out.length) (xs:=out) Bc rfl QK ?_
   intro A7 c7 h7 hle7 e7 hnc7 hs7
   cases e7
   have hle77:Le h h7:=QAa
   clear ho hx
   repeat' (first|refine QFs ?_|(refine QB ?_;intro b)|(refine QG ?_;first|(apply Eu ekI Kr;intro bm)|(apply Be;exact J;exact has119;exact sortedF_c _ (hG.le QAa) _ out.length _ out (hs7.le QAa) QAd (fun p hp=>(hgd p hp).le QAa);exact QT;rintro vs Es9 h9 hle9 ⟨A9,c9,zs,rfl,hzc,hzs,hzn,rfl⟩))|(refine QH ?_ ?_<;>intro hc<;>try omega)|fail)
   generalize b=bF
   have hle79:Le h h9:=QAa
   refine El (enc:=Aq) (e:=57) (sz:=82) (n:=zs.length) (xs:=zs) Bc rfl QK ?_
   intro A8 c8 h8 hle8 e8 hnc8 hs8
   cases e8
   have hle78:Le h h8:=hle79.trans hle8
   have hzg:∀ p∈zs,FGd h p:=fun p hp=>hgd p (hzs p hp)
   have hz45:∀ p∈zs,p.2.kind=4∨p.2.kind=5:=fun p hp=>h45 p (hzs p hp)
   have hzn2:zs.length≤1000000:=by omega
   rw [hcv] at hzc
   clear hgd h45 hzs hcv hs7 hC
   refine GO_sepNil ?_
   rw [show ([]:List (Int×Nat))=Er [] from fmap7_0.symm]
   refine Ai (X:=Nat×List Bt×Ro) (fun x=>x.1≤zs.length∧Le h8 x.2.2∧Cz (zs.take x.1) x.2.1∧x.2.1.length≤x.1) (fun x=>zs.length-x.1)
    (fun x=>[(43,.int .i64 x.1),(42,.int .i64 zs.length),(41,.slice A9 zs.length c9),(7,.func (.func 118) #[] #[Kr bF]),(6,Kr bF)])
    (fun x=>[Blk bF 178 [.map (some bm)],Cd ekI Kr bm (Er x.2.1),Ik (x.2.1.flatMap Ls)]) (fun x=>x.2.2) (0,[],h8) ⟨by dsimp only;omega,Le.refl _,Cz.nil,Nat.le_refl _⟩ QS QT rfl ?_
   rintro ⟨i,fs,hq⟩ ⟨hi,hleq,hI,hfl⟩ ih
   dsimp only at hi hleq hI hfl ih ⊢
   by_cases hin:i<zs.length
   · have a1:=hs8.addrD hin
     have c1:=(hs8.cellsD p0 hin).le hleq
     have et:=Cb p0 (xs:=zs) rfl hin
     have hme:=mem7 p0 hin
     have hpg:=hzg _ hme
     have hp45:=hz45 _ hme
     generalize zs.getD i p0=p at *
     have hgn:∀ pre (x:Bt) post nn,((pre++x::post=fs)∨(∃ b,pre=fs∧post=[]∧x=Boa b nn∧∀ y∈fs,y.num≠nn))→Cz (zs.take i) (pre++x::post)∧(pre++x::post).length≤i+1∧x.rs.length≤i:=by
      intro pre x post nn hor
      have h1:Cz (zs.take i) (pre++x::post)∧(pre++x::post).length≤i+1:=by
       rcases hor with e|⟨b,e1,e2,e3,e4⟩
       · rw [e];exact ⟨hI,by omega⟩
       · subst e1;subst e2;subst e3;exact ⟨hI.get e4,by simp;omega⟩
      refine ⟨h1.1,h1.2,?_⟩
      have:=h1.1.nums_len (x:=x) QAn
      rw [List.length_take] at this
      omega
     by_cases hk4:p.2.kind=4
     · repeat' (first|refine QFs ?_|(apply Af;exact J;exact J;(first|exact QAg|exact QAf);exact QA)|(refine QB ?_;intro b)|(refine QG ?_;first|(refine QFo ?_;rintro vg E2 h2 hle2 ⟨pre,⟨bx,nx,Ax,cx,rs,sx⟩,post,rfl,hnx,hor,rfl⟩))|(apply Ad (n:=15) [0,1,2,3,4,5,6,7,8,9,10] [(0,0),(1,0),(2,0),(3,0),(4,0),(5,0),(6,1),(7,1),(8,0),(9,0),(10,1)];kernel_rfl)|(apply Ao;exact J;kernel_rfl;(iterate 3 exact J);(first|(refine QBu ?_;intro b5 h5 hle5 hs5;refine ⟨hle5,QN,?_⟩)|(apply Ap (enc:=Aq) (xs:=rs);(iterate 7 exact J);exact hs5;exact Bc;exact Kz;intro v1;exact QR;(have q7:rs.length≤i:=(hgn _ _ _ _ hor).2.2;exact Nat.le_trans (Nat.add_le_add_right q7 1) QAd);exact J;intro A5 c5;refine ⟨Le.refl _,QN,?_⟩)|(apply OpTo_stN (b:=bx) (n:=1) (cs:=Om ⟨bx,nx,Ax,cx,rs,sx⟩) (cs':=Om ⟨bx,nx,A5,c5,rs++[p],sx⟩) (e:=181);(iterate 3 exact J);exact QR;exact J;(show 1<(sx.map Value.bool).length+1+1;omega);(show (Value.int .i64 nx::Value.slice A5 (rs++[p]).length c5::sx.map Value.bool)=Value.int .i64 nx::Value.slice A5 (rs.length+1) c5::sx.map Value.bool;rw [List.length_append];rfl);exact J;exact J;refine ⟨Le.refl _,QN,?_⟩)))|(refine QH ?_ ?_<;>intro hc<;>try omega)|fail)
       all_goals
        have hgg:=hgn _ _ _ _ hor
        have e9:rs.length+1=(rs++[p]).length:=by simp
        refine Ck (Es':=[Ik (pre.flatMap Ls++post.flatMap Ls),Blk bx 181 (Om ⟨bx,nx,A5,c5,rs++[p],sx⟩),Bd 57 82 (.slice A5 (rs.length+1) c5) (rs.length+1) ((rs++[p]).flatMap Aq),Blk bF 178 [.map (some bm)],Cd ekI Kr bm (Er (pre++⟨bx,nx,Ax,cx,rs,sx⟩::post))]) QT ?_
        rw [e9,← Ega pre post ⟨bx,nx,Ax,cx,rs,sx⟩ ⟨bx,nx,A5,c5,rs++[p],sx⟩ rfl rfl]
        refine Ana (g:=Ls) (pre:=pre) (post:=post) (y:=⟨bx,nx,A5,c5,rs++[p],sx⟩) rfl QT ?_
        have h3:=ih (i+1,pre++⟨bx,nx,A5,c5,rs++[p],sx⟩::post,h5) ⟨by dsimp only;omega,hleq.trans (hle2.trans hle5),by dsimp only;rw [et];exact hgg.1.ruling hk4 hnx A5 c5,by
         have:=hgg.2.1
         simp only [List.length_append,List.length_cons] at this ⊢
         omega⟩ QAh
        dsimp only at h3
        refine Aj QS QT (h3)
     · have hk5:p.2.kind=5:=hp45.resolve_left hk4
       cases hsp:p.2.aSusp with
       | false =>
         have h3:=ih (i+1,fs,hq) ⟨by dsimp only;omega,hleq,by dsimp only;rw [et];exact hI.nop hk5 hsp,by dsimp only;omega⟩ QAh
         dsimp only at h3
         repeat' (first|refine QFs ?_|(apply Af;exact J;exact J;(first|exact QAg|exact QAf);exact QA)|(refine QB ?_;intro b)|(apply Ad (n:=17) [0,1,2,3,4,5,6,7,8,9,10,11] [(0,0),(1,0),(2,0),(3,0),(5,0),(6,0),(7,0),(4,1),(8,0),(9,0),(10,0),(11,1)];kernel_rfl)|(refine QH ?_ ?_<;>intro hc<;>try omega)|fail)
         all_goals first
          | (exfalso;omega)
          | (exfalso;exact absurd (hc.symm.trans hsp) QAs)
          | (refine Aj QS QT (h3))
       | true =>
         obtain ⟨j,hj,hj4⟩:∃ j:Nat,p.2.aInst=(j:Int)∧j<4:=by
          have h4:=hpg.2.2.2.2.1
          unfold Cw at h4
          rw [if_neg QAd,if_neg QAd,if_neg QAd,if_neg QAd,if_pos hk5] at h4
          exact ⟨p.2.aInst.toNat,by omega,by omega⟩
         repeat' (first|refine QFs ?_|(apply Af;exact J;exact J;(first|exact QAg|exact QAf);exact QA)|(refine QB ?_;intro b)|(apply Ad (n:=17) [0,1,2,3,4,5,6,7,8,9,10,11] [(0,0),(1,0),(2,0),(3,0),(5,0),(6,0),(7,0),(4,1),(8,0),(9,0),(10,0),(11,1)];kernel_rfl)|(apply Bk;exact J;kernel_rfl;exact J;exact J;(first|(apply Hc (j:=j);(iterate 5 exact J);exact hj;omega));exact QA)|(apply Ao;exact J;kernel_rfl;(iterate 3 exact J);(first|(refine QFo ?_;rintro vg E2 h2 hle2 ⟨pre,⟨bx,nx,Ax,cx,rs,sx⟩,post,rfl,hnx,hor,rfl⟩;refine ⟨hle2,QN,?_⟩)|(apply OpTo_stF (b:=bx) (n:=2) (j:=j) (cs:=Om ⟨bx,nx,Ax,cx,rs,sx⟩) (cs':=Om ⟨bx,nx,Ax,cx,rs,sx.set j true⟩) (e:=181);(iterate 3 exact J);exact QR;exact J;(have q8:sx.length=4:=(hgn _ _ _ _ hor).1.len ⟨bx,nx,Ax,cx,rs,sx⟩ QAn;show 2+j<(sx.map Value.bool).length+1+1;rw [List.length_map];omega);exact (fileC_set ⟨bx,nx,Ax,cx,rs,sx⟩ j).symm;exact J;exact J;refine ⟨Le.refl _,QN,?_⟩)))|(refine QH ?_ ?_<;>intro hc<;>try omega)|fail)
         all_goals (try (exfalso;exact absurd (hc.symm.trans hsp) QAs))
         all_goals
          have hgg:=hgn _ _ _ _ hor
          refine Ck (Es':=[Ik (pre.flatMap Ls++post.flatMap Ls),Blk bx 181 (Om ⟨bx,nx,Ax,cx,rs,sx.set j true⟩),Bd 57 82 (.slice Ax rs.length cx) rs.length (rs.flatMap Aq),Blk bF 178 [.map (some bm)],Cd ekI Kr bm (Er (pre++⟨bx,nx,Ax,cx,rs,sx⟩::post))]) QT ?_
          rw [← Ega pre post ⟨bx,nx,Ax,cx,rs,sx⟩ ⟨bx,nx,Ax,cx,rs,sx.set j true⟩ rfl rfl]
          refine Ana (g:=Ls) (pre:=pre) (post:=post) (y:=⟨bx,nx,Ax,cx,rs,sx.set j true⟩) rfl QT ?_
          have h3:=ih (i+1,pre++⟨bx,nx,Ax,cx,rs,sx.set j true⟩::post,h2) ⟨by dsimp only;omega,hleq.trans hle2,by dsimp only;rw [et];exact hgg.1.appeal hk5 hsp hnx hj hj4,by
           have:=hgg.2.1
           simp only [List.length_append,List.length_cons] at this ⊢
           omega⟩ QAh
          dsimp only at h3
          refine Aj QS QT (h3)
   · rw [List.take_of_length_le QAd] at hI
     clear ih
     refine Lh (A:=Ik (fs.flatMap Ls)) QK ?_
     intro D0 hr hler hA0
     have hfr:=Lla hA0
     have hfl2:fs.length≤1000000:=by omega
     have hleh:Le h hr:=QAa
     have hfa:∀ x∈fs,Dq hr x:=fun x hx=>⟨(hfr x hx).1,(hfr x hx).2,fun p hp=>by
      rw [hI.rs x hx] at hp
      exact (hzg p (List.mem_filter.1 hp).1).le hleh,hI.len x hx,Nat.le_trans (hI.nums_len hx) hzn2⟩
     have hfo:∀ {h':Ro} {ys:List Bt},Le hr h'→ys.Perm (fs.filter neF)→(ys.Pairwise fun x y=>x.num<y.num)→Hd h' C ys:=fun hl hp hs=>files_out hzc hI hp hs hok hzn2 (fun x hx=>(hfa x hx).le hl) hfl2
     have hnd:=hI.nodup
     clear hA0 hfr hzg hz45 hs8 hok hzc hI
     refine Fg 133 1 ?_
     repeat' (first|refine QF ?_|(refine QG ?_;first|(apply Aha (ek:=ekI) (ev:=Kr);(iterate 3 exact J);intro rr;exact QR;intro rr))|(refine QH ?_ ?_<;>intro hc<;>try omega)|fail)
     refine Ai (X:=List Bt×List Bt×Option (Int×Nat)×Option Addr×Nat×Ro) (fun x=>Le hr x.2.2.2.2.2∧(x.1++x.2.1.filter neF).Perm (fs.filter neF)∧(∀ y∈x.2.1,y∈fs)∧x.1.length+x.2.1.length≤fs.length) (fun x=>x.2.1.length)
      (fun x=>[(81,.pointer (some ⟨rr,0,none⟩)),(11,.slice x.2.2.2.1 x.1.length x.2.2.2.2.1)])
      (fun x=>[Cra ekI Kr bm rr (Er fs) (Er x.2.1) x.2.2.1,Bd 133 1 (.slice x.2.2.2.1 x.1.length x.2.2.2.2.1) x.1.length (x.1.flatMap Ky)]) (fun x=>x.2.2.2.2.2) ([],fs,none,none,0,hr) ⟨Le.refl _,.refl _,fun _ h=>h,by simp⟩ QS QT rfl ?_
     rintro ⟨out,rem,cur,A6,c6,hk⟩ ⟨hlk,hpm,hsub,hln⟩ ih
     dsimp only at hlk hpm hsub hln ih ⊢
     have hos:∀ p∈out,p∈fs:=fun p hp=>(List.mem_filter.1 (hpm.mem_iff.1 (List.mem_append.2 (.inl hp)))).1
     have hno:(out.map (·.num)).Nodup:=by
      have g1:((fs.filter neF).map (·.num)).Nodup:=List.Nodup.sublist (List.Sublist.map _ List.filter_sublist) hnd
      have g2:=(hpm.map (·.num)).nodup_iff.2 g1
      rw [List.map_append] at g2
      exact (List.nodup_append.1 g2).1
     repeat' (first|refine QF ?_|(apply Af;exact J;exact J;(first|(apply J6a (ek:=ekI) (ev:=Kr) (b:=bm) (m:=Er fs) (rem:=Er s1++Er s2) (p:=(y.num,y.b));exact J)|exact QAb);exact QA)|(refine QG ?_;first|(apply Fca;exact J;intro rem' cur';exact QR;intro hrem;rotate_left;intro q r1 r2 hrem;(obtain ⟨s1,y,s2,hre,rfl,rfl,rfl⟩:=Gua hrem);(have hym:y∈fs:=hsub y (by rw [hre];simp));(have hyc:=((hfa y hym).le hlk).cells);rotate_left;all_goals skip)|(apply Ah (enc:=Ky) (n:=1) [y];(iterate 3 exact J);exact List.cons_ne_nil _ _;(iterate 4 exact J);exact fun _=>rfl;exact J;exact J;intro b1 h1 hle1 hs1)|(apply Ap (enc:=Ky) (xs:=out);(iterate 7 exact J);exact hs1;exact fun _=>rfl;exact fun x=>Bh rfl;intro v1;exact QR;omega;exact J;intro A1 c1)|(refine E9a (enc:=Ky) (e:=133) (sz:=1) (xs:=out) (n:=out.length) (fun _=>rfl) rfl QK ?_;intro A2 c2 hz hlz ez hncz hsz;cases ez;apply Be;exact J;exact has120;exact sortedP_c hz _ _ _ out hsz QAd (fun p hp=>(hfa p (hos p hp)).le QAa) hno;exact QT;rintro vs Ez hv hlv ⟨A0,c0,ys,rfl,hyp,hys,rfl⟩))|(refine QH ?_ ?_<;>intro hc<;>try omega)|fail)
     · have hr0:=fmap7_nil hrem
       subst hr0
       rw [List.filter_nil,List.append_nil] at hpm
       refine El (enc:=Ky) (e:=133) (sz:=1) (n:=out.length) (xs:=ys) (fun _=>rfl) hyp.length_eq QK ?_
       intro A2 c2 hw hlw ew hncw hsw
       cases ew
       exact Ay rfl rfl rfl ⟨A0,c0,ys,by rw [hyp.length_eq],by rw [hyp.length_eq];exact hsw,hfo QAa (hyp.trans hpm) hys⟩
     · have hyt:neF y=true:=neF_pos.2 QAd
       have h3:=ih (out++[y],s1++s2,some (y.num,y.b),A1,c1,h1) ⟨hlk.trans hle1,by dsimp only;rw [hre] at hpm;exact perm_y hpm hyt,fun z hz=>hsub z (by
        rw [hre]
        rcases List.mem_append.1 hz with w|w
        · exact List.mem_append.2 (.inl w)
        · exact List.mem_append.2 (.inr (List.mem_cons_of_mem _ w))),by
        rw [hre] at hln
        simp only [List.length_append,List.length_cons,List.length_nil] at hln ⊢
        omega⟩ (by rw [hre];simp only [List.length_append,List.length_cons];omega)
       dsimp only at h3
       rw [Eha,List.length_append] at h3
       refine Aj QS QT (h3)
     · have hyt:neF y=false:=by
        cases hq9:neF y with
        | false=>rfl
        | true=>have:=neF_pos.1 hq9;omega
       have h3:=ih (out,s1++s2,some (y.num,y.b),A6,c6,hk) ⟨hlk,by dsimp only;rw [hre] at hpm;exact perm_n hpm hyt,fun z hz=>hsub z (by
        rw [hre]
        rcases List.mem_append.1 hz with w|w
        · exact List.mem_append.2 (.inl w)
        · exact List.mem_append.2 (.inr (List.mem_cons_of_mem _ w))),by
        rw [hre] at hln
        simp only [List.length_append,List.length_cons] at hln ⊢
        omega⟩ (by rw [hre];simp only [List.length_append,List.length_cons];omega)
       dsimp only at h3
       rw [Eha] at h3
       refine Aj QS QT (h3)
end Go.Hw
