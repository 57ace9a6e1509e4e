import Derived.Test.YtlnenhhbalpbpabGreatDoorBF
import Derived.Test.YtlnenhhbalpbpabGreatDoorBD
import Derived.Test.YtlnenhhbalpbpabGreatDoorFE
set_option linter.all false
set_option maxRecDepth 100000
set_option maxHeartbeats 8000000
namespace Go.Hw
open Go
attribute [local irreducible] GO GOl GDp Val Fn Res At Fx Blk By Dk Cl Has Yl
open Go.Proofs (Tryz.prog)
theorem Lpa (h:Ro)(sp sq:Sli)(d:Bp)(hp:K7a h (sp,d))(hq:K7a h (sq,d))(hn:sp.n≤4611686018427387904):Val Tryz.prog 19 #[Yc sp d,Yc sq d] h (.bool true):=by
 refine Az (args:=[_,_]) ts_ok Go.Proofs.Tryz.func19 rfl rfl fun w0 X0 => ?_
 have hx:=hp.1
 have hy:=hq.1
 dsimp only at hx hy
 have hxl:=hx.len
 have hyl:=hy.len
 have hnn:sp.n=sq.n:=by omega
 repeat' (first|apply Ac|apply Au|apply Ak|apply Aa|apply Ab|((fail_if_success (have:=b2));apply Af;(iterate 3 exact J);apply Ao (e:=62);exact J;intro b2)|(apply Af;(iterate 3 exact J);apply Ao (e:=62);exact J;intro b3)|(apply Ad;(iterate 3 exact J))|(apply Ai;exact J;exact Av rfl QM rfl;exact J;exact J)|(apply Aj;exact J;all_goals (intro hc;try simp only [hcS,reduceCtorEq] at hc;try (exfalso;omega)))|(apply Ba;exact J;exact J;all_goals (intro hc;try simp only [hcS,reduceCtorEq] at hc;try (exfalso;omega))))
 all_goals (try (exfalso;omega))
 refine Bt (X:=Nat) (fun k=>k≤sp.n) (fun k=>sp.n-k) (fun k=>[(5,.int .i64 k),(2,Rf b2),(3,Rf b3)]) (fun _=>[Blk b2 62 (Mra sp d),Blk b3 62 (Mra sq d)]) (fun _=>h) 0 (by omega) QS QT rfl ?_
 rintro k hk ih
 by_cases hkn:k<sp.n
 · have a1:=hx.addrD hkn
   have a2:=hy.addrD (show k<sq.n by omega)
   have c1:At h ((addrD sp.A).add (k * I6a.size)) (Jb (d.ls.getD k Ep)):=hx.cellsD Ep hkn
   have c2:At h ((addrD sq.A).add (k * I6a.size)) (Jb (d.ls.getD k Ep)):=hy.cellsD Ep (show k<sq.n by omega)
   generalize d.ls.getD k Ep=x at *
   have h9:=ih (k+1) (by omega) (by omega)
   clear ih
   repeat' (first|apply Ac|apply Au|apply Ap|apply Ak|apply Aa|apply Ab|(apply Bg;(iterate 3 exact J);omega;exact J;exact J)|(apply Ad;(iterate 3 exact J))|(apply Ai;exact J;exact Av rfl QM rfl;exact J;exact J)|(apply Bf (n:=6) [0,1,2,3,4,5,6,7,8,9,10] [(0,0),(1,0),(2,0),(3,0),(4,0),(5,0),(6,0),(7,0),(8,0),(9,0),(10,0)];kernel_rfl)|(apply Ce;exact J;kernel_rfl;(iterate 3 exact J))|(apply Bj;exact J;kernel_rfl;(iterate 3 exact J);exact QM;exact J;exact J)|(apply De;exact J;kernel_rfl;exact J;exact J;(first|(apply Be (j:=k) (n:=sp.n);(iterate 5 exact J);exact a1;(with_reducible exact J);omega)|(apply Be (j:=k) (n:=sq.n);(iterate 5 exact J);exact a2;(with_reducible exact J);omega)|(apply Ar;exact J;first|exact Bh rfl c1 rfl|exact Bh rfl c2 rfl)|(apply Iqa;(iterate 3 exact J);kernel_rfl;kernel_rfl));exact QA)|(apply Bm;kernel_rfl;exact J)|(apply Aj;exact J;all_goals (intro hc;try simp only [hcS,reduceCtorEq] at hc;try (exfalso;omega))))
   all_goals first
    | (exfalso;omega)
    | (exfalso;simp at hc;done)
    | (refine Bw QS QT (h9))
 · clear ih
   repeat' (first|apply Ac|apply Aa|apply Ab|(apply Bn;exact J)|(apply Ad;(iterate 3 exact J))|(apply Ai;exact J;exact Av rfl QM rfl;exact J;exact J)|(apply Aj;exact J;all_goals (intro hc;try simp only [hcS,reduceCtorEq] at hc;try (exfalso;omega))))
   all_goals first
    | (exfalso;omega)
    | (exact Bb rfl rfl rfl rfl)
theorem Dsa {l:List RdS}{i:Nat}(hi:i<l.length):(rounds l)[i]? = some (Ch (l.getD i rd0).2):=by
 unfold rounds
 rw [List.getElem?_map,List.getD_eq_getElem?_getD,List.getElem?_eq_getElem hi]
 rfl
theorem Gua {l m:List RdS}(e:rounds l=rounds m){i:Nat}(hi:i<l.length):Ch (l.getD i rd0).2=Ch (m.getD i rd0).2:=by
 have hl:l.length=m.length:=by rw [← Fh l,← Fh m,e]
 have h1:=Dsa hi
 have h2:=Dsa (l:=m) (i:=i) (by omega)
 rw [e,h2] at h1
 exact (Option.some.inj h1).symm
theorem Mqa {l m:List DuS}(e:Ch l=Ch m){i:Nat}(hi:i<l.length):(l.getD i du0).2=(m.getD i du0).2:=by
 have hl:l.length=m.length:=by rw [← Em l,← Em m,e]
 have h1:(Ch l)[i]? = some (l.getD i du0).2:=by
  unfold Ch
  rw [List.getElem?_map,List.getD_eq_getElem?_getD,List.getElem?_eq_getElem hi]
  rfl
 have h2:(Ch m)[i]? = some (m.getD i du0).2:=by
  unfold Ch
  rw [List.getElem?_map,List.getD_eq_getElem?_getD,List.getElem?_eq_getElem (show i<m.length by omega)]
  rfl
 rw [e,h2] at h1
 exact (Option.some.inj h1).symm
theorem same21_c (h:Ro)(s s':Sli)(l m:List RdS)(b:FBr)(hb:C2a h s l b)(hb':C2a h s' m b)(hs:BrSm s l):Val Tryz.prog 7 #[brV s b.t,brV s' b.t] h (.bool true):=by
 refine Az (args:=[_,_]) ts_ok Go.Proofs.Tryz.func7 rfl rfl fun w0 X0 => ?_
 have hr1:=hb.rs.row
 have hr2:=hb'.rs.row
 have hl1:=hr1.len
 have hl2:=hr2.len
 have e:rounds l=rounds m:=by rw [← hb.is,← hb'.is]
 have hsn:=hs.few
 have hnn:s.n=s'.n:=by rw [← hl1,← hl2,← Fh l,← Fh m,e]
 generalize b.t=t at *
 repeat' (first|apply Ac|apply Au|apply Ak|apply Aa|apply Ab|((fail_if_success (have:=b2));apply Af;(iterate 3 exact J);apply Ao (e:=30);exact J;intro b2)|(apply Af;(iterate 3 exact J);apply Ao (e:=30);exact J;intro b3)|(apply Ad;(iterate 3 exact J))|(apply Ai;exact J;exact Av rfl QM rfl;exact J;exact J)|(apply Bd;exact J;exact J;(first|(apply Iqa;(iterate 3 exact J);kernel_rfl;kernel_rfl));exact QA)|(apply Aj;exact J;all_goals (intro hc;try simp only [hcS,reduceCtorEq] at hc;try (exfalso;omega))))
 all_goals (try (exfalso;omega))
 all_goals (try (exfalso;simp at hc;done))
 refine Bt (X:=Nat) (fun k=>k≤s.n) (fun k=>s.n-k) (fun k=>[(5,.int .i64 k),(2,Rf b2),(3,Rf b3)]) (fun _=>[Blk b2 30 (brC s t),Blk b3 30 (brC s' t)]) (fun _=>h) 0 (by omega) QS QT rfl ?_
 rintro i hi ih
 by_cases hin:i<s.n
 · have ra:=hr1.addrD hin
   have rb:=hr2.addrD (show i<s'.n by omega)
   have rc:At h ((addrD s.A).add (i * ty59.size)) (Jz (l.getD i rd0)):=hr1.cellsD rd0 hin
   have rd:At h ((addrD s'.A).add (i * ty59.size)) (Jz (m.getD i rd0)):=hr2.cellsD rd0 (show i<s'.n by omega)
   have hm1:=hb.rs.each _ (mem7 rd0 (show i<l.length by omega))
   have hRn:=hs.each _ (mem7 rd0 (show i<l.length by omega))
   have hRg:=hs.legs _ (mem7 rd0 (show i<l.length by omega))
   have hm2:=hb'.rs.each _ (mem7 rd0 (show i<m.length by omega))
   have ed:=Gua e (show i<l.length by omega)
   generalize l.getD i rd0=R at *
   generalize m.getD i rd0=Q at *
   have hRl:=hm1.1.row.len
   have hQl:=hm2.1.row.len
   have hRQ:R.1.n=Q.1.n:=by rw [← hRl,← hQl,← Em R.2,← Em Q.2,ed]
   have ih2:=ih (i+1) (by omega) (by omega)
   clear ih
   repeat' (first|apply Ac|apply Au|apply Ak|apply Aa|apply Ab|(apply Ad;(iterate 3 exact J))|(apply Ai;exact J;exact Av rfl QM rfl;exact J;exact J)|(apply Bf (n:=6) [0,1,2,3,4,5,6,7,8,9,10,11,12] [(0,0),(1,0),(2,0),(3,0),(4,0),(5,0),(6,0),(7,0),(8,0),(9,0),(10,0),(11,0),(12,0)];kernel_rfl)|(apply Ce;exact J;kernel_rfl;(iterate 3 exact J))|(apply Bj;exact J;kernel_rfl;(iterate 3 exact J);exact QM;exact J;exact J)|(apply De;exact J;kernel_rfl;exact J;exact J;(first|(apply Be (j:=i) (n:=s.n);(iterate 5 exact J);exact ra;(with_reducible exact J);omega)|(apply Be (j:=i) (n:=s'.n);(iterate 5 exact J);exact rb;(with_reducible exact J);omega)|(apply Ar;exact J;first|exact Bh rfl rc rfl|exact Bh rfl rd rfl));exact QA)|(apply Bm;kernel_rfl;exact J)|(apply Aj;exact J;all_goals (intro hc;try simp only [hcS,reduceCtorEq] at hc;try (exfalso;omega))))
   all_goals (try (exfalso;omega))
   refine Bt (X:=Nat) (fun k=>k≤R.1.n) (fun k=>R.1.n-k) (fun k=>[(6,.int .i64 k),(5,.int .i64 i),(2,Rf b2),(3,Rf b3)]) (fun _=>[Blk b2 30 (brC s t),Blk b3 30 (brC s' t)]) (fun _=>h) 0 (by omega) QS QT rfl ?_
   rintro k hk ihk
   by_cases hkn:k<R.1.n
   · have a1:=hm1.1.row.addrD hkn
     have a2:=hm2.1.row.addrD (show k<Q.1.n by omega)
     have c1:At h ((addrD R.1.A).add (k * Lea.size)) (Hb (R.2.getD k du0)):=hm1.1.row.cellsD du0 hkn
     have c2:At h ((addrD Q.1.A).add (k * Lea.size)) (Hb (Q.2.getD k du0)):=hm2.1.row.cellsD du0 (show k<Q.1.n by omega)
     have hd1:=hm1.1.each _ (mem7 du0 (show k<R.2.length by omega))
     have hd2:=hm2.1.each _ (mem7 du0 (show k<Q.2.length by omega))
     have hpn:=hRg _ (mem7 du0 (show k<R.2.length by omega))
     have ee:=Mqa ed (show k<R.2.length by omega)
     generalize R.2.getD k du0=p at *
     generalize Q.2.getD k du0=q at *
     obtain ⟨p1,p2⟩:=p
     obtain ⟨q1,q2⟩:=q
     dsimp only at ee
     subst ee
     have hsd:=Lpa h p1 q1 p2 hd1 hd2 hpn
     have h9:=ihk (k+1) (by omega) (by omega)
     clear ihk ih2
     repeat' (first|apply Ac|apply Au|apply Ap|apply Ak|apply Aa|apply Ab|(apply Bg;(iterate 3 exact J);omega;exact J;exact J)|(apply Ad;(iterate 3 exact J))|(apply Ai;exact J;exact Av rfl QM rfl;exact J;exact J)|(apply Bd;exact J;exact J;(first|(apply Be (j:=i) (n:=s.n);(iterate 5 exact J);exact ra;(with_reducible exact J);omega)|(apply Ar;exact J;first|exact Bh rfl rc rfl|exact Bh rfl rd rfl|exact Bh rfl c1 rfl|exact Bh rfl c2 rfl));exact QA)|(apply Bf (n:=11) [0,1,2,3,4,5,6,7,8,9,10,11,12,13,14,15,16,17] [(0,0),(1,0),(2,0),(3,0),(4,0),(5,0),(6,0),(7,0),(8,0),(9,0),(10,0),(11,0),(12,0),(13,0),(14,0),(15,0),(16,1),(17,0)];kernel_rfl)|(apply Ce;exact J;kernel_rfl;(iterate 3 exact J))|(apply Bj;exact J;kernel_rfl;(iterate 3 exact J);exact QM;exact J;exact J)|(apply De;exact J;kernel_rfl;exact J;exact J;(first|(apply Be (j:=i) (n:=s.n);(iterate 5 exact J);exact ra;(with_reducible exact J);omega)|(apply Be (j:=i) (n:=s'.n);(iterate 5 exact J);exact rb;(with_reducible exact J);omega)|(apply Be (j:=k) (n:=R.1.n);(iterate 5 exact J);exact a1;(with_reducible exact J);omega)|(apply Be (j:=k) (n:=Q.1.n);(iterate 5 exact J);exact a2;(with_reducible exact J);omega)|(apply Ar;exact J;first|exact Bh rfl rc rfl|exact Bh rfl rd rfl|exact Bh rfl c1 rfl|exact Bh rfl c2 rfl));exact QA)|(apply Br;exact J;kernel_rfl;(iterate 3 exact J);(first|(apply Aq;exact J;exact has19;exact hsd;refine ⟨Le.refl _,QN,?_⟩)))|(apply Bm;kernel_rfl;exact J)|(apply Aj;exact J;all_goals (intro hc;try simp only [hcS,reduceCtorEq] at hc;try (exfalso;omega))))
     all_goals first
      | (exfalso;omega)
      | (exfalso;simp at hc;done)
      | (refine Bw QS QT (h9))
   · clear ihk
     repeat' (first|apply Ac|apply Ap|apply Aa|apply Ab|(apply Bn;exact J)|(apply Bg;(iterate 3 exact J);omega;exact J;exact J)|(apply Ad;(iterate 3 exact J))|(apply Ai;exact J;exact Av rfl QM rfl;exact J;exact J)|(apply Bd;exact J;exact J;(first|(apply Be (j:=i) (n:=s.n);(iterate 5 exact J);exact ra;(with_reducible exact J);omega)|(apply Ar;exact J;exact Bh rfl rc rfl));exact QA)|(apply Aj;exact J;all_goals (intro hc;try simp only [hcS,reduceCtorEq] at hc;try (exfalso;omega))))
     all_goals first
      | (exfalso;omega)
      | (refine Bw QS QT (ih2))
 · clear ih
   repeat' (first|apply Ac|apply Aa|apply Ab|(apply Bn;exact J)|(apply Ad;(iterate 3 exact J))|(apply Ai;exact J;exact Av rfl QM rfl;exact J;exact J)|(apply Aj;exact J;all_goals (intro hc;try simp only [hcS,reduceCtorEq] at hc;try (exfalso;omega))))
   all_goals first
    | (exfalso;omega)
    | (exact Bb rfl rfl rfl rfl)
end Go.Hw
namespace Go.Hw
open Go
attribute [local irreducible] GO GOl GDp Val Fn Res At Fx Blk By Dk Cl Has Yl
open Go.Proofs (Tryz.prog)
theorem brSm_out {h:Ro}{s:Sli}{l:List RdS}{b:FBr}(hb:C2a h s l b)(k:Ms b∨b.rs=[]):BrSm s l:=by
 rcases k with k|k
 · exact Cha hb k
 · have h1:rounds l=[]:=by rw [← hb.is];exact k
   have h2:l=[]:=by cases l;rfl;cases h1
   subst h2
   have:=hb.rs.row.len
   simp at this
   exact ⟨by omega,fun r hr=>(by cases hr),fun r hr=>(by cases hr)⟩
end Go.Hw
