import Derived.Test.YtlnenhhbalpbpabGreatDoorBC
import Derived.Test.YtlnenhhbalpbpabGreatDoorFE
set_option linter.all false
set_option maxRecDepth 100000
set_option maxHeartbeats 8000000
namespace Go.Hw
open Go
attribute [local irreducible] GO GOl GDp Val Fn Res At Fx Blk By Dk Cl Has Yl
open Go.Proofs (Tryz.prog)
theorem addF (b m f:Nat):((⟨b,0,none⟩:Addr).add m).add f=⟨b,m+f,none⟩:=by rw [Fu,Fu,Nat.zero_add]
theorem addZ (b m:Nat):(⟨b,0,none⟩:Addr).add m=⟨b,m,none⟩:=by rw [Fu,Nat.zero_add]
theorem duels_set (l:List DuS)(i:Nat)(z:DuS):Ch (l.set i z)=(Ch l).set i z.2:=by unfold Ch;exact List.map_set
theorem Gta (l:List RdS)(n:Nat):rounds (l.take n)=(rounds l).take n:=by unfold rounds;exact List.map_take
structure EntI (h:Ro) (s:Sli) (l:List RdS) (t:Dh) (x:Dm) (R:RdS) (m:List Bp) (e:Bp) (i:Nat) (ps:Sli) (d:Bp):Prop where
 rm:R∈l
 at':R.2[i]? = some (ps,d)
 eq:e=⟨d.a,d.b,d.ls++[x]⟩
 set:m=(Ch R.2).set i e
 wait:Py d t x
 pos:0<R.1.n
 dok:Nq d t
theorem EntI.dug {h h':Ro}{s:Sli}{l:List RdS}{t:Dh}{x:Dm}{R:RdS}{m:List Bp}{e:Bp}{i:Nat}{ps:Sli}{d:Bp}(q:EntI h s l t x R m e i ps d)(hx:Hc x)(hdl:d.ls.length=ps.n){A:Option Addr}{c:Nat}(hs:Cc Jb 13 h' A (ps.n+1) (d.ls++[x]))(hc:ps.n+1≤c):DuG h' ⟨A,ps.n+1,c⟩ e:=by
 rw [q.eq]
 refine ⟨⟨hs,hc⟩,?_,fun y hy => ?_⟩
 · have h1:=q.wait.1
   have h2:=q.dok.ok0.1
   unfold Hr at h1
   unfold Ik at h2
   show ps.n+1≤2
   omega
 · rcases List.mem_append.1 hy with w|w
   · exact q.dok.res y w
   · rw [List.mem_singleton.1 w];exact hx
theorem EntI.round {h h':Ro}{s:Sli}{l:List RdS}{t:Dh}{x:Dm}{R:RdS}{m:List Bp}{e:Bp}{i:Nat}{ps:Sli}{d:Bp}(q:EntI h s l t x R m e i ps d)(hR:Iha h' R){z:Sli}(hz:K7a h' (z,e)){A:Option Addr}{c:Nat}(hs:Cc Hb 3 h' A R.1.n (R.2.set i (z,e)))(hc:R.1.n≤c):Iha h' (⟨A,R.1.n,c⟩,R.2.set i (z,e)) :=
 ⟨⟨hs,fun p hp=>by
  rcases List.mem_or_eq_of_mem_set hp with w|w
  · exact hR.1.each p w
  · rw [w];exact hz⟩,hc⟩
theorem entOut {h:Ro}{A:Option Addr}{n c k:Nat}{l q:List RdS}{t:Dh}{m:List (List Bp)}(hl:∀ r∈l,Iha h r)(hq:∀ r∈q,Iha h r)(hs:Cc Jz 1 h A n (l.take k++q))(hc:n≤c)(hm:rounds q=m):Yv h (.tuple #[brV ⟨A,n,c⟩ t,.int .i64 0]) ⟨t,(rounds l).take k++m⟩ 0 :=
 ⟨⟨A,n,c⟩,l.take k++q,rfl,⟨⟨hs,fun r hr=>by
  rcases List.mem_append.1 hr with w|w
  · exact hl r (List.mem_of_mem_take w)
  · exact hq r w⟩,by
    show (rounds l).take k++m=rounds (l.take k++q)
    rw [← hm,← Gta]
    unfold rounds;rw [List.map_append],hc⟩⟩
theorem winV_form (d:Bp)(t:Dh)(h:¬ (Hr d t∧Ke d t=none)):∃ w ok,Laa d t=.tuple #[.int .i64 w,.bool ok]∧(decide (Hr d t)=true→ok=true):=by
 cases hw:Ke d t with
 | none =>
   obtain ⟨q,hq⟩:=Ly hw
   exact ⟨q,false,hq,fun k=>absurd ⟨of_decide_eq_true k,hw⟩ h⟩
 | some w=>exact ⟨w,true,Nw hw,fun _=>rfl⟩
theorem Lba {t:Dh}{x:Dm}{l:List Bp}{i:Nat}(h:Nl t x l 0=((0+i:Nat):Int)):Nl t x l 0=(i:Int):=by rw [h];congr 1;omega
open Classical in
theorem Xx (h:Ro)(s:Sli)(l:List RdS)(t:Dh)(hb:Fua h s.A s.n l)(hnc:s.n≤s.c)(hs:BrSm s l)(x:Dm):Res Tryz.prog 10 #[brV s t,Bga x] h (fun u h'=>Yv h' u (Cw ⟨t,rounds l⟩ x).1 (Cw ⟨t,rounds l⟩ x).2):=by
 refine Bq (args:=[_,_]) ts_ok Go.Proofs.Tryz.func10 rfl rfl fun w0 X0 => ?_
 have hck:=fun h' (hl:Le h h')=>Kfa h' s l t (hb.le hl) hs
 have hrc:=fun h'=>Fea h' x
 by_cases hB:Ms ⟨t,rounds l⟩
 case' neg =>
  simp only [decide_eq_false hB] at hck
  rw [Mma hB]
  dsimp only
  clear hrc
  repeat' (first|apply Ac|apply Aa|apply Ab|(apply Af;(iterate 3 exact J);apply Ao (e:=30);exact J;intro b2)|(apply Af;(iterate 3 exact J);apply Ao (e:=64);exact J;intro b3)|(apply Af;(iterate 3 exact J);apply Ag (e:=30);exact J;intro b4)|(apply Ad;(iterate 3 exact J))|(apply Ai;exact J;exact Av rfl QM rfl;exact J;exact J)|(apply Af;(iterate 3 exact J);(first|(apply Ah;(iterate 3 exact J);exact QR;(iterate 3 exact J);skip)|(apply Ay;exact J;exact Bya;exact hck _ QL;rintro v2 h2 hle2 rfl;skip)))|(apply Aj;exact J;all_goals (intro hc;try simp only [hcS,reduceCtorEq] at hc;try (exfalso;omega))))
  all_goals first
   | (exfalso;simp at hc;done)
   | (exact Ck rfl rfl rfl QM rfl rfl rfl (Ev _ _))
 simp only [decide_eq_true hB] at hck
 by_cases hX:Hc x
 case' neg =>
  simp only [if_neg hX] at hrc
  rw [Mla hB hX]
  dsimp only
  repeat' (first|apply Ac|apply Au|apply Aa|apply Ab|(apply Af;(iterate 3 exact J);apply Ao (e:=30);exact J;intro b2)|(apply Af;(iterate 3 exact J);apply Ao (e:=64);exact J;intro b3)|(apply Af;(iterate 3 exact J);apply Ag (e:=30);exact J;intro b4)|(apply Ad;(iterate 3 exact J))|(apply Ai;exact J;exact Av rfl QM rfl;exact J;exact J)|(apply Af;(iterate 3 exact J);(first|(apply Ah;(iterate 3 exact J);exact QR;(iterate 3 exact J);skip)|(apply Ay;exact J;exact Bya;exact hck _ QL;rintro v2 h2 hle2 rfl;skip)|(apply Ay;exact J;exact Mba;exact hrc _;rintro v3 h3 hle3 rfl;skip)))|(apply Aj;exact J;all_goals (intro hc;try simp only [hcS,reduceCtorEq] at hc;try (exfalso;omega))))
  all_goals first
   | (exfalso;simp at hc;done)
   | (exfalso;omega)
   | (exact Ck rfl rfl rfl QM rfl rfl rfl (Ev _ _))
 simp only [if_pos hX] at hrc
 have hlen:=hb.row.len
 have hrow:=hb.row
 have hrl:(rounds l).length=s.n:=by rw [Fh,hlen]
 have h0:0<s.n:=by
  rcases Nat.eq_zero_or_pos s.n with e|e
  · exact absurd (List.eq_nil_of_length_eq_zero (show (rounds l).length=0 by omega)) hB.some
  · exact e
 obtain ⟨hlast,hdrop⟩:=take_last hrl h0
 have hnn:=hs.few
 have ra:=hrow.addrD (show s.n-1<s.n by omega)
 have rc:At h ((addrD s.A).add ((s.n-1) * ty59.size)) (Jz (l.getD (s.n-1) rd0)):=hrow.cellsD rd0 (show s.n-1<s.n by omega)
 have hRm:=mem7 rd0 (show s.n-1<l.length by omega)
 rw [Kj] at hlast
 have hRa:=hb.each _ hRm
 have hRn:=hs.each _ hRm
 have hRin:=last_in hB
 dsimp only at hRin
 rw [hlast] at hRin
 have hRok:=hB.rounds _ hRin
 have hRpow:=(hB.rnd _ hRin).pow
 dsimp only at hRok
 rw [Em] at hRpow
 have hEn:=Hsa hB hX
 have hEno:=fun m e k c=>enterB_no hB hX (m:=m) (d:=e) k c
 have hEy:=fun m e k c=>Mka hB hX (m:=m) (d:=e) k c
 dsimp only at hEn hEno hEy
 rw [hlast] at hEn hEno hEy
 rw [hdrop] at hEy
 generalize l.getD (s.n-1) rd0=R at *
 have hRl:=hRa.1.row.len
 have hRp:0<R.1.n:=by unfold Sx at hRpow;omega
 have hclo:=fun h' (hl:Le h h')=>Fn.formB hRp (cloneDu_c h' R.1.A R.1.n R.1.c R.2 (hRa.1.row.le hl) (by omega))
 have hidx:=fun h' b7 c7 b2 b3=>Mja h' b7 c7 b2 b3 R.1.n s t x R.2 hRl (by omega) fun p hp=>(hRa.1.each p hp).len
 generalize hEE:Cw ⟨t,rounds l⟩ x=E at *
 cases hen:Hn (Ch R.2) t x with
 | none =>
   rw [hEn hen]
   dsimp only
   rw [Wd 0 hen] at hidx
   clear hEn hEno hEy
   repeat' (first|apply Ac|apply Au|apply Aa|apply Ab|(apply Af;(iterate 3 exact J);apply Ao (e:=30);exact J;intro b2)|(apply Af;(iterate 3 exact J);apply Ao (e:=64);exact J;intro b3)|(apply Af;(iterate 3 exact J);apply Ag (e:=30);exact J;intro b4)|(apply Aw;exact J;exact J)|(apply Lt;(iterate 3 exact J);omega;exact J;exact J)|(apply Ad;(iterate 3 exact J))|(apply Ai;exact J;exact Av rfl QM rfl;exact J;exact J)|(apply Bd;exact J;exact J;(first|(apply Be (j:=s.n-1) (n:=s.n);(iterate 5 exact J);exact ra;omega;omega)|(apply Ar;exact J;exact Bh rfl (rc.le QL) rfl));exact QA)|(apply Af;(iterate 3 exact J);(first|(apply Ah;(iterate 3 exact J);exact QR;(iterate 3 exact J);skip)|(apply Ay;exact J;exact Bya;exact hck _ QL;rintro v2 h2 hle2 rfl;skip)|(apply Ay;exact J;exact Mba;exact hrc _;rintro v3 h3 hle3 rfl;skip)|(apply Bi;exact J;exact has31;exact hclo _ QL;exact QT;rintro v4 E4 h4 hle4 ⟨b7,c7,hc7,rfl,rfl⟩;skip)|(apply Ov;exact J;exact has32;exact hidx _ b7 c7 b2 b3;exact QT;skip)))|(apply Aj;exact J;all_goals (intro hc;try simp only [hcS,reduceCtorEq] at hc;try (exfalso;omega)))|(apply Ba;exact J;exact J;all_goals (intro hc;try simp only [hcS,reduceCtorEq] at hc;try (exfalso;omega))))
   all_goals first
    | (exfalso;simp at hc;done)
    | (exfalso;omega)
    | (exact Ck rfl rfl rfl QM rfl rfl rfl (Ev _ _))
 | some w =>
 obtain ⟨m,e⟩:=w
 obtain ⟨i,d,hi,hw,hld,hwd,hed,hms⟩:=Wc 0 hen
 have hw:=Lba hw
 rw [hw] at hidx
 obtain ⟨ps,hps⟩:∃ ps,R.2[i]? = some (ps,d):=by
  unfold Ch at hld
  rw [List.getElem?_map] at hld
  cases h9:R.2[i]? with
  | none=>rw [h9] at hld;cases hld
  | some p=>rw [h9] at hld;cases hld;exact ⟨p.1,rfl⟩
 have hi2:i<R.1.n:=by rw [Em] at hi;omega
 have hpm:(ps,d)∈R.2:=List.mem_of_getElem? hps
 have hda:=hRa.1.each _ hpm
 have hdl:=hda.len
 dsimp only at hdl
 have hQ:EntI h s l t x R m e i ps d:=⟨hRm,hps,hed,hms,hwd,hRp,(hRok d (List.mem_map.2 ⟨_,hpm,rfl⟩)).1⟩
 have hEno2:=hEno m e hen
 have hEy2:=hEy m e hen
 clear hEn hEno hEy hw hld hi hRin hRpow
 by_cases h8:8≤x.g.c
 case' neg =>
  rw [hEno2 (fun k=>h8 k.1)]
  dsimp only
  clear hEno2 hEy2
  repeat' (first|apply Ac|apply Au|apply Aa|apply Ab|(apply Af;(iterate 3 exact J);apply Ao (e:=30);exact J;intro b2)|(apply Af;(iterate 3 exact J);apply Ao (e:=64);exact J;intro b3)|(apply Af;(iterate 3 exact J);apply Ag (e:=30);exact J;intro b4)|(apply Lt;(iterate 3 exact J);omega;exact J;exact J)|(apply Ad;(iterate 3 exact J))|(apply Ai;exact J;exact Av rfl QM rfl;exact J;exact J)|(apply Bd;exact J;exact J;(first|(apply Be (j:=s.n-1) (n:=s.n);(iterate 5 exact J);exact ra;omega;omega)|(apply Ar;exact J;exact Bh rfl (rc.le QL) rfl));exact QA)|(apply Af;(iterate 3 exact J);(first|(apply Ah;(iterate 3 exact J);exact QR;(iterate 3 exact J);skip)|(apply Ay;exact J;exact Bya;exact hck _ QL;rintro v2 h2 hle2 rfl;skip)|(apply Ay;exact J;exact Mba;exact hrc _;rintro v3 h3 hle3 rfl;skip)|(apply Bi;exact J;exact has31;exact hclo _ QL;exact QT;rintro v4 E4 h4 hle4 ⟨b7,c7,hc7,rfl,rfl⟩;skip)|(apply Ov;exact J;exact has32;exact hidx _ b7 c7 b2 b3;exact QT;skip)))|(apply Aj;exact J;all_goals (intro hc;try simp only [hcS,reduceCtorEq] at hc;try (exfalso;omega)))|(apply Ba;exact J;exact J;all_goals (intro hc;try simp only [hcS,reduceCtorEq] at hc;try (exfalso;omega))))
  all_goals first
   | (exfalso;simp at hc;done)
   | (exfalso;omega)
   | (exact Ck rfl rfl rfl QM rfl rfl rfl (Ev _ _))
 have hEno3:(¬ ∀ y∈Kl (rounds l),Cx y x)→E=(br0,210):=fun k=>hEno2 (fun w=>k w.2.1)
 have hEno4:Hr e t∧Ke e t=none→E=(br0,210):=fun k=>hEno2 (fun w=>w.2.2 k)
 have hEy3:(∀ y∈Kl (rounds l),Cx y x)→¬ (Hr e t∧Ke e t=none)→_:=fun k k2=>hEy2 ⟨h8,k,k2⟩
 have hcu:=hB.cup
 rw [legsL_all] at hcu
 dsimp only at hcu
 clear hEno2 hEy2
 repeat' (first|apply Ac|apply Au|apply Ak|apply Aa|apply Ab|(apply Af;(iterate 3 exact J);apply Ao (e:=30);exact J;intro b2)|(apply Af;(iterate 3 exact J);apply Ao (e:=64);exact J;intro b3)|(apply Af;(iterate 3 exact J);apply Ag (e:=30);exact J;intro b4)|(apply Lt;(iterate 3 exact J);omega;exact J;exact J)|(apply Ad;(iterate 3 exact J))|(apply Ai;exact J;exact Av rfl QM rfl;exact J;exact J)|(apply Bd;exact J;exact J;(first|(apply Be (j:=s.n-1) (n:=s.n);(iterate 5 exact J);exact ra;omega;omega)|(apply Ar;exact J;exact Bh rfl (rc.le QL) rfl));exact QA)|(apply Af;(iterate 3 exact J);(first|(apply Ay;exact J;exact Bya;exact hck _ QL;rintro v2 h2 hle2 rfl;skip)|(apply Ay;exact J;exact Mba;exact hrc _;rintro v3 h3 hle3 rfl;skip)|(apply Bi;exact J;exact has31;exact hclo _ QL;exact QT;rintro v4 E4 h4 hle4 ⟨b7,c7,hc7,rfl,rfl⟩;skip)|(apply Ov;exact J;exact has32;exact hidx _ b7 c7 b2 b3;exact QT;skip)))|(apply Aj;exact J;all_goals (intro hc;try simp only [hcS,reduceCtorEq] at hc;try (exfalso;omega)))|(apply Ba;exact J;exact J;all_goals (intro hc;try simp only [hcS,reduceCtorEq] at hc;try (exfalso;omega))))
 all_goals (try (exfalso;simp at hc;done))
 all_goals (try (exfalso;omega))
 have hl4:Le h h4:=QL
 clear hck hrc hclo hidx rc
 refine Bt (X:=Nat) (fun j=>j≤s.n∧∀ r∈(rounds l).take j,∀ d∈r,d.ls≠[]→Cx (d.ls.headD Ep) x) (fun j=>s.n-j)
  (fun j=>[(53,.int .i64 j),(52,.int .i64 s.n),(51,.slice s.A s.n s.c),(7,.slice (some ⟨b7,0,none⟩) R.1.n c7),(8,.int .i64 i),(6,.int .i64 ((s.n:Int)-1)),(2,Rf b2),(3,Rf b3),(4,Rf b4)])
  (fun _=>[By 62 3 (.slice (some ⟨b7,0,none⟩) R.1.n c7) R.1.n (R.2.flatMap Hb),Blk b2 30 (brC s t),Blk b3 64 (Jb x),Blk b4 30 (Cn ty30.zero)]) (fun _=>h4) 0 ⟨by omega,by simp⟩ QS QT rfl ?_
 rintro j ⟨hj,hJ⟩ ih
 by_cases hjn:j<s.n
 · have ra1:=hrow.addrD hjn
   have rc1:At h4 ((addrD s.A).add (j * ty59.size)) (Jz (l.getD j rd0)):=(hrow.cellsD rd0 hjn).le hl4
   have hm1:=mem7 rd0 (show j<l.length by omega)
   have hr1:=(hb.each _ hm1).le hl4
   have htk:=Wj l (i:=j) (by omega)
   have hin1:Ch (l.getD j rd0).2∈rounds l:=List.mem_map.2 ⟨_,hm1,rfl⟩
   have ih1:=fun (k:∀ d∈Ch (l.getD j rd0).2,d.ls≠[]→Cx (d.ls.headD Ep) x)=>ih (j+1) ⟨by omega,by
    rw [htk]
    intro r hr
    rcases List.mem_append.1 hr with w|w
    · exact hJ r w
    · rw [List.mem_singleton.1 w];exact k⟩ (by omega)
   generalize l.getD j rd0=R1 at *
   have h1l:=hr1.1.row.len
   have h1row:=hr1.1.row
   have h1n:=hs.each _ hm1
   clear ih htk
   repeat' (first|apply Ac|apply Au|apply Ak|apply Aa|apply Ab|(apply Ad;(iterate 3 exact J))|(apply Bd;exact J;exact J;(first|(apply Be (j:=j) (n:=s.n);(iterate 5 exact J);exact ra1;(with_reducible exact J);omega)|(apply Ar;exact J;exact Bh rfl rc1 rfl));exact QA)|(apply Aj;exact J;all_goals (intro hc;try simp only [hcS,reduceCtorEq] at hc;try (exfalso;omega))))
   all_goals (try (exfalso;omega))
   refine Bt (X:=Nat) (fun k=>k≤R1.1.n∧∀ d∈Ch (R1.2.take k),d.ls≠[]→Cx (d.ls.headD Ep) x) (fun k=>R1.1.n-k)
    (fun k=>[(59,.int .i64 k),(58,.int .i64 R1.1.n),(57,.slice R1.1.A R1.1.n R1.1.c),(53,.int .i64 j),(52,.int .i64 s.n),(51,.slice s.A s.n s.c),(7,.slice (some ⟨b7,0,none⟩) R.1.n c7),(8,.int .i64 i),(6,.int .i64 ((s.n:Int)-1)),(2,Rf b2),(3,Rf b3),(4,Rf b4)])
    (fun _=>[By 62 3 (.slice (some ⟨b7,0,none⟩) R.1.n c7) R.1.n (R.2.flatMap Hb),Blk b2 30 (brC s t),Blk b3 64 (Jb x),Blk b4 30 (Cn ty30.zero)]) (fun _=>h4) 0 ⟨by omega,fun d hd=>absurd hd (by rw [List.take_zero];simp [Ch])⟩ QS QT rfl ?_
   rintro k ⟨hk,hK⟩ ihk
   by_cases hkn:k<R1.1.n
   · have a1:=h1row.addrD hkn
     have c1:At h4 ((addrD R1.1.A).add (k * Lea.size)) (Hb (R1.2.getD k du0)):=h1row.cellsD du0 hkn
     have hmk:=mem7 du0 (show k<R1.2.length by omega)
     have hdk:=hr1.1.each _ hmk
     have hsn:=Caa R1.2 (j:=k) (by omega)
     generalize R1.2.getD k du0=p at *
     obtain ⟨qs,qd⟩:=p
     have hql:=hdk.len
     have hqr:=hdk.1
     dsimp only at hql hsn hqr
     have hmd:qd∈Ch R1.2:=List.mem_map.2 ⟨_,hmk,rfl⟩
     have ih2:=fun (w:qd.ls≠[]→Cx (qd.ls.headD Ep) x)=>ihk (k+1) ⟨by omega,by
      rw [hsn]
      intro d' hd'
      rcases List.mem_append.1 hd' with v|v
      · exact hK d' v
      · rw [List.mem_singleton.1 v];exact w⟩ (by omega)
     clear ihk ih1 hsn hK hJ
     by_cases hz:qs.n=0
     · have h9:=ih2 fun w=>absurd (List.eq_nil_of_length_eq_zero (by omega)) w
       clear ih2 hEno3 hEno4 hEy3
       repeat' (first|apply Ac|apply Au|apply Ap|apply Ak|apply Aa|apply Ab|(apply Af;(iterate 3 exact J);apply Ag (e:=62);exact J;intro bX)|(apply Bg;(iterate 3 exact J);omega;exact J;exact J)|(apply Ad;(iterate 3 exact J))|(apply Bd;exact J;exact J;(first|(apply Be (j:=k) (n:=R1.1.n);(iterate 5 exact J);exact a1;(with_reducible exact J);omega)|(apply Ar;exact J;exact Bh rfl c1 rfl));exact QA)|(apply Af;(iterate 3 exact J);(first|(apply Ah;(iterate 3 exact J);exact QR;(iterate 3 exact J);skip)))|(apply Bf (n:=17) [0,1,2,3,4,5,6,7,8,9,10,11,12] [(0,0),(1,0),(2,0),(3,0),(4,0),(5,0),(6,0),(7,0),(8,0),(9,0),(10,1),(11,0),(12,0)];kernel_rfl)|(apply GP_un;exact J;kernel_rfl;exact J;exact J)|(apply Ce;exact J;kernel_rfl;(iterate 3 exact J))|(apply Bj;exact J;kernel_rfl;(iterate 3 exact J);exact QM;exact J;exact J)|(apply Bm;kernel_rfl;exact J)|(apply Ig;(iterate 5 exact J);all_goals (intro hc;try simp only [hcS,reduceCtorEq] at hc;try (exfalso;omega)))|(apply Aj;exact J;all_goals (intro hc;try simp only [hcS,reduceCtorEq] at hc;try (exfalso;omega)))|(apply K2a;exact J;kernel_rfl;exact J;exact J))
       all_goals first
        | (exfalso;omega)
        | (refine Bw QS QT (h9))
     · have a0:=hqr.addrD (show 0<qs.n by omega)
       have c0:At h4 ((addrD qs.A).add (0 * I6a.size)) (Jb (qd.ls.getD 0 Ep)):=hqr.cellsD Ep (show 0<qs.n by omega)
       have e0:qd.ls.getD 0 Ep=qd.ls.headD Ep:=by cases qd.ls <;> rfl
       rw [e0] at c0
       have hne:qd.ls≠[]:=fun w=>hz (by rw [w] at hql;exact hql.symm)
       have hmh:=head_mem hin1 hmd hne
       have hsc:=Wr h4 (qd.ls.headD Ep) x
       generalize qd.ls.headD Ep=y0 at *
       by_cases hS:Cx y0 x
       · have h9:=ih2 fun _=>hS
         rw [decide_eq_true hS] at hsc
         clear ih2 hEno3 hEno4 hEy3
         repeat' (first|apply Ac|apply Au|apply Ap|apply Ak|apply Aa|apply Ab|(apply Af;(iterate 3 exact J);apply Ag (e:=62);exact J;intro bX)|(apply Bg;(iterate 3 exact J);omega;exact J;exact J)|(apply Ad;(iterate 3 exact J))|(apply Bd;exact J;exact J;(first|(apply Be (j:=k) (n:=R1.1.n);(iterate 5 exact J);exact a1;(with_reducible exact J);omega)|(apply Ar;exact J;first|exact Bh rfl c1 rfl|exact Bh rfl c0 rfl));exact QA)|(apply Af;(iterate 3 exact J);(first|(apply Ah;(iterate 3 exact J);exact QR;(iterate 3 exact J);skip)))|(apply Bf (n:=17) [0,1,2,3,4,5,6,7,8,9,10,11,12] [(0,0),(1,0),(2,0),(3,0),(4,0),(5,0),(6,0),(7,0),(8,0),(9,0),(10,1),(11,0),(12,0)];kernel_rfl)|(apply Ce;exact J;kernel_rfl;(iterate 3 exact J))|(apply Bj;exact J;kernel_rfl;(iterate 3 exact J);exact QM;exact J;exact J)|(apply De;exact J;kernel_rfl;exact J;exact J;(first|(apply Be (j:=0) (n:=qs.n);(iterate 5 exact J);exact a0;omega;omega)|(apply Ar;exact J;first|exact Bh rfl c1 rfl|exact Bh rfl c0 rfl));exact QA)|(apply Br;exact J;kernel_rfl;(iterate 3 exact J);(first|(apply Aq;exact J;exact has35;exact hsc;refine ⟨Le.refl _,QN,?_⟩)))|(apply Bm;kernel_rfl;exact J)|(apply Ig;(iterate 5 exact J);all_goals (intro hc;try simp only [hcS,reduceCtorEq] at hc;try (exfalso;omega)))|(apply Aj;exact J;all_goals (intro hc;try simp only [hcS,reduceCtorEq] at hc;try (exfalso;omega))))
         all_goals first
          | (exfalso;omega)
          | (exfalso;simp at hc;done)
          | (refine Bw QS QT (h9))
       · have hE:=hEno3 fun k=>hS (k y0 hmh)
         rw [decide_eq_false hS] at hsc
         rw [hE]
         dsimp only
         clear ih2 hEno3 hEno4 hEy3
         repeat' (first|apply Ac|apply Au|apply Ak|apply Aa|apply Ab|(apply Af;(iterate 3 exact J);apply Ag (e:=62);exact J;intro bX)|(apply Ad;(iterate 3 exact J))|(apply Ai;exact J;exact Av rfl QM rfl;exact J;exact J)|(apply Bd;exact J;exact J;(first|(apply Be (j:=k) (n:=R1.1.n);(iterate 5 exact J);exact a1;(with_reducible exact J);omega)|(apply Ar;exact J;first|exact Bh rfl c1 rfl|exact Bh rfl c0 rfl));exact QA)|(apply Af;(iterate 3 exact J);(first|(apply Ah;(iterate 3 exact J);exact QR;(iterate 3 exact J);skip)))|(apply Bf (n:=17) [0,1,2,3,4,5,6,7,8,9,10,11,12] [(0,0),(1,0),(2,0),(3,0),(4,0),(5,0),(6,0),(7,0),(8,0),(9,0),(10,1),(11,0),(12,0)];kernel_rfl)|(apply Ce;exact J;kernel_rfl;(iterate 3 exact J))|(apply Bj;exact J;kernel_rfl;(iterate 3 exact J);exact QM;exact J;exact J)|(apply De;exact J;kernel_rfl;exact J;exact J;(first|(apply Be (j:=0) (n:=qs.n);(iterate 5 exact J);exact a0;omega;omega)|(apply Ar;exact J;first|exact Bh rfl c1 rfl|exact Bh rfl c0 rfl));exact QA)|(apply Br;exact J;kernel_rfl;(iterate 3 exact J);(first|(apply Aq;exact J;exact has35;exact hsc;refine ⟨Le.refl _,QN,?_⟩)))|(apply Bm;kernel_rfl;exact J)|(apply Ig;(iterate 5 exact J);all_goals (intro hc;try simp only [hcS,reduceCtorEq] at hc;try (exfalso;omega)))|(apply Aj;exact J;all_goals (intro hc;try simp only [hcS,reduceCtorEq] at hc;try (exfalso;omega))))
         all_goals first
          | (exfalso;omega)
          | (exfalso;simp at hc;done)
          | (exact Ck rfl rfl rfl QM rfl rfl rfl (Ev _ _))
   · rw [List.take_of_length_le (by omega)] at hK
     have h9:=ih1 hK
     clear ih1 ihk hEno3 hEno4 hEy3
     repeat' (first|apply Ac|apply Ap|apply Aa|apply Ab|(apply Bn;exact J)|(apply Bg;(iterate 3 exact J);omega;exact J;exact J)|(apply Ad;(iterate 3 exact J))|(apply Aj;exact J;all_goals (intro hc;try simp only [hcS,reduceCtorEq] at hc;try (exfalso;omega))))
     all_goals first
      | (exfalso;omega)
      | (refine Bw QS QT (h9))
 rw [List.take_of_length_le (by omega)] at hJ
 have hcup:=heads_all hcu hJ
 have hEy4:=hEy3 hcup
 clear ih hEno3 hEy3 hJ hcu
 have hla:=hda.1
 dsimp only at hla
 have hdn:ps.n≤2:=by have:=Mj hQ.dok;omega
 have hcr:=fun h' (hl:Le h h')=>Fn.form (cloneRe_c h' ps.A ps.n ps.c d.ls (hla.le hl) (by omega))
 repeat' (first|apply Ac|apply Aa|apply Ab|(apply Bn;exact J)|(apply Ad;(iterate 3 exact J))|(apply Ai;exact J;exact Av rfl QM rfl;exact J;exact J)|(apply Bf (n:=21) [0,1,2,3,4,5,6,7,8,9,10,11,12,13] [(0,0),(1,0),(2,0),(3,0),(4,0),(5,0),(6,0),(8,0),(7,2),(5,9),(9,1),(10,1),(11,0),(12,0),(13,1),(7,1),(10,1),(11,0),(12,0),(13,1)];kernel_rfl)|(apply Bf (n:=22) [0,1,2,3,4,5,6,7,8] [(0,0),(1,0),(2,0),(3,0),(4,0),(5,0),(6,0),(7,1),(8,1)];kernel_rfl)|(apply Ce;exact J;kernel_rfl;(iterate 3 exact J))|(apply Bj;exact J;kernel_rfl;(iterate 3 exact J);exact QM;exact J;exact J)|(apply De;exact J;kernel_rfl;exact J;exact J;(first|(apply Be (j:=i) (n:=R.1.n);(iterate 6 exact J);(with_reducible exact J);omega)|(apply OV_ldSf (enc:=Hb) (f:=2) (k:=i) (sz:=3) (b:=b7) (n:=R.1.n) (c:=c7) (xs:=R.2) (e:=62) (y:=(ps,d));exact J;exact J;exact addF _ _ _;exact Jk;exact hps;exact J)|(apply Jx (off:=0) (enc:=Hb) (k:=i) (sz:=3) (b:=b7) (n:=R.1.n) (c:=c7) (xs:=R.2.set i (⟨A9,ps.n+1,c9⟩,e)) (e:=62) (y:=(⟨A9,ps.n+1,c9⟩,e));exact J;exact J;exact addZ _ _;exact Jk;(rw [List.getElem?_set_self (by omega)]);exact J));exact QA)|(apply Br;exact J;kernel_rfl;(iterate 3 exact J);(first|(apply Yq (enc:=Hb) (f:=2) (k:=i) (sz:=3) (b:=b7) (xs:=R.2) (y0:=(ps,d)) (z:=(⟨A9,ps.n+1,c9⟩,e));exact J;exact J;exact addF _ _ _;exact J;exact Jk;exact hps;(rw [hed];exact J);exact Nat.le_refl 3;exact QR;exact J;exact J;refine ⟨Le.refl _,QN,?_⟩)|(apply Ah;(iterate 3 exact J);exact QR;(iterate 3 exact J);refine ⟨Le.refl _,QN,?_⟩)|(apply Ag;exact J;intro b;refine ⟨Le.refl _,QN,?_⟩)|(apply Bi;exact J;exact has36;exact hcr _ QL;exact QT;rintro v5 E5 h5 hle5 ⟨A5,c5,rfl,rfl⟩;refine ⟨hle5,QN,?_⟩)|(apply Bc (enc:=Jb) (n:=1) [x];(iterate 3 exact J);exact List.cons_ne_nil _ _;(iterate 4 exact J);exact Gl;exact J;exact J;intro b6 h6 hle6 hs6;refine ⟨hle6,QN,?_⟩)|(apply Bk (enc:=Jb) (xs:=d.ls) (ys:=[x]);(iterate 7 exact J);exact hs6.le QL;exact Gl;exact Rs;intro v1;exact QR;omega;exact J;intro A9 c9;refine ⟨Le.refl _,QN,?_⟩)))|(apply Ia;kernel_rfl;exact J;exact J)|(apply Cj;(iterate 4 exact J);(first|(apply Bi;exact J;exact has36;exact hcr _ QL;exact QT;rintro v5 E5 h5 hle5 ⟨A5,c5,rfl,rfl⟩;refine ⟨hle5,QN,?_⟩)|(apply Bc (enc:=Jb) (n:=1) [x];(iterate 3 exact J);exact List.cons_ne_nil _ _;(iterate 4 exact J);exact Gl;exact J;exact J;intro b6 h6 hle6 hs6;refine ⟨hle6,QN,?_⟩)))|(apply Bm;kernel_rfl;exact J)|(apply Aj;exact J;all_goals (intro hc;try simp only [hcS,reduceCtorEq] at hc;try (exfalso;omega))))
 all_goals
  refine K3a (enc:=Jb) (e:=64) (sz:=13) (n:=ps.n+1) (xs:=d.ls++[x]) Gl (by rw [List.length_append,hdl];rfl) QK ?_
  intro A10 c10 h10 hle10 e10 hnc10 hs10
  cases e10
  have hl10:Le h h10:=QL
  have hdg:=hQ.dug hX hdl hs10 hnc10
  have hfu:=fun h'=>full_c h' ⟨A9,ps.n+1,c9⟩ e t hdg.at'.len
  have hwn:=fun h' (hl:Le h10 h')=>Ri h' ⟨A9,ps.n+1,c9⟩ e t (hdg.le hl)
  by_cases hbad:Hr e t∧Ke e t=none
  · rw [hEno4 hbad]
    dsimp only
    simp only [decide_eq_true hbad.1] at hfu
    obtain ⟨w,hw⟩:=Ly hbad.2
    rw [hw] at hwn
    clear hEno4 hEy4
    repeat' (first|apply Ac|apply Aa|apply Ab|(apply Ad;(iterate 3 exact J))|(apply Ai;exact J;exact Av rfl QM rfl;exact J;exact J)|(apply Af;(iterate 3 exact J);(first|(apply Ah;(iterate 3 exact J);exact QR;(iterate 3 exact J);skip)|(apply Ay;exact J;exact Xn;exact hwn _ QL;rintro v11 h11 hle11 rfl;skip)|(apply Aq;exact J;exact Maa;exact hfu _;skip)))|(apply Aj;exact J;all_goals (intro hc;try simp only [hcS,reduceCtorEq] at hc;try (exfalso;omega))))
    all_goals first
     | (exfalso;simp at hc;done)
     | (exact Ck rfl rfl rfl QM rfl rfl rfl (Ev _ _))
  · rw [hEy4 hbad]
    dsimp only
    obtain ⟨w,ok,hwv,hfo⟩:=winV_form e t hbad
    rw [hwv] at hwn
    generalize decide (Hr e t)=fu at *
    have hcrd:=fun h' (hl:Le h h')=>Fn.form (cloneRd_c h' (Nm s.A s.c 1) (s.n-1) s.c (l.take (s.n-1)) ((hrow.high (hi:=s.n-1) (c:=s.c) (by omega) hnc).le hl) (by omega))
    clear hEno4 hEy4 hbad
    repeat' (first|apply Ac|apply Au|apply Aa|apply Ab|(apply Aw;exact J;exact J)|(apply Ad;(iterate 3 exact J))|(apply Ai;exact J;exact Av rfl QM rfl;exact J;exact J)|(apply Bd;exact J;exact J;(first|(apply Mp (hi:=s.n-1) (n:=s.n) (c:=s.c);(iterate 5 exact J);omega;omega;exact hnc));exact QA)|(apply Af;(iterate 3 exact J);(first|(apply Ah;(iterate 3 exact J);exact QR;(iterate 3 exact J);skip)|(apply Ay;exact J;exact Xn;exact hwn _ QL;rintro v11 h11 hle11 rfl;skip)|(apply Aq;exact J;exact Maa;exact hfu _;skip)|(apply Bi;exact J;exact has39;exact hcrd _ QL;exact QT;rintro v12 E12 h12 hle12 ⟨A12,c12,rfl,rfl⟩;skip)|(apply Bc (enc:=Jz) (n:=1) [(((⟨some ⟨b7,0,none⟩,R.1.n,c7⟩:Sli),R.2.set i (⟨A9,ps.n+1,c9⟩,e)):RdS)];(iterate 3 exact J);exact List.cons_ne_nil _ _;(iterate 4 exact J);exact Kn;exact J;exact J;intro b13 h13 hle13 hs13;skip)|(apply Bk (enc:=Jz) (xs:=l.take (s.n-1));(iterate 7 exact J);exact hs13.le QL;exact Kn;exact Xz;intro v1;exact QR;omega;exact J;intro A14 c14;skip)))|(apply Aj;exact J;all_goals (intro hc;try simp only [hcS,reduceCtorEq] at hc;try (exfalso;omega)))|(apply Ba;exact J;exact J;all_goals (intro hc;try simp only [hcS,reduceCtorEq] at hc;try (exfalso;omega))))
    all_goals (try (exfalso;exact absurd (hfo (by assumption)) (by rw [show ok=false by assumption];decide)))
    all_goals
     refine K3a (enc:=Hb) (e:=62) (sz:=3) (n:=R.1.n) (xs:=R.2.set i (⟨A9,ps.n+1,c9⟩,e)) Jk (by rw [List.length_set];exact hRl) QK ?_
     intro A15 c15 h15 hle15 e15 hnc15 hs15
     cases e15
     have hl15:Le h h15:=QL
     have hl1015:Le h10 h15:=QL
     have hr':=hQ.round (hRa.le hl15) (hdg.at'.le hl1015) hs15 hnc15
     have hdm:Ch (R.2.set i (⟨A9,ps.n+1,c9⟩,e))=m:=by rw [duels_set,hms]
     have hfol:=J2a h15 (some ⟨b7,0,none⟩) R.1.n c7 (R.2.set i (⟨A9,ps.n+1,c9⟩,e)) t hr'.1 hRn (fun p hp=>by
      rcases List.mem_or_eq_of_mem_set hp with w9|w9
      · exact DuG.of ((hRa.1.each p w9).le hl15) (hRok p.2 (List.mem_map.2 ⟨p,w9,rfl⟩)).1
      · rw [w9];exact hdg.le hl1015)
     rw [hdm] at hfol
     have hll:(l.take (s.n-1)).length=s.n-1:=by rw [List.length_take];omega
     have heach:∀ h',Le h15 h'→∀ r∈l,Iha h' r:=fun h' hl r hr=>(hb.each r hr).le (hl15.trans hl)
     have hdS:=hdm
     generalize R.2.set i (⟨A9,ps.n+1,c9⟩,e)=S at *
     clear hfu hwn hdg hcrd hQ hRok hms hdm hs15 hcr hs6 hs10
     cases hnx:Gb m t with
     | none =>
       rw [hnx] at hfol
       rw [show (none:Option (List Bp)).isSome=false from rfl] at hfol
       repeat' (first|apply Ac|apply Au|apply Aa|apply Ab|(apply Ad;(iterate 3 exact J))|(apply Ai;exact J;exact Av rfl QM rfl;exact J;exact J)|(apply Af;(iterate 3 exact J);(first|(apply Ah;(iterate 3 exact J);exact QR;(iterate 3 exact J);skip)|(apply Ay;exact J;exact Hfa;exact hfol;rintro v16 h16 hle16 ⟨r2,rfl,hr2,hrd2⟩;skip)))|(apply Aj;exact J;all_goals (intro hc;try simp only [hcS,reduceCtorEq] at hc;try (exfalso;omega))))
       all_goals (try (exfalso;simp at hc;done))
       refine Ge (enc:=Jz) (e:=59) (sz:=1) (n:=s.n-1+1) (xs:=l.take (s.n-1)++[(((⟨some ⟨b7,0,none⟩,R.1.n,c7⟩:Sli),S):RdS)]) Kn (by rw [List.length_append,hll];rfl) QK ?_
       intro A17 c17 h17 hle17 e17 hnc17 hs17
       cases e17
       exact Ck rfl rfl rfl QM rfl rfl rfl (entOut (heach _ QL) (fun r hr=>by rw [List.mem_singleton.1 hr];exact hr'.le QL) hs17 hnc17 (by show [Ch S]=m::[] ;rw [hdS]))
     | some nx =>
       rw [hnx] at hfol
       rw [show (some nx).isSome=true from rfl] at hfol
       repeat' (first|apply Ac|apply Aa|apply Ab|(apply Ad;(iterate 3 exact J))|(apply Ai;exact J;exact Av rfl QM rfl;exact J;exact J)|(apply Af;(iterate 3 exact J);(first|(apply Ah;(iterate 3 exact J);exact QR;(iterate 3 exact J);skip)|(apply Ay;exact J;exact Hfa;exact hfol;rintro v16 h16 hle16 ⟨r2,rfl,hr2,hrd2⟩;skip)|(apply Bc (enc:=Jz) (n:=1) [r2];(iterate 3 exact J);exact List.cons_ne_nil _ _;(iterate 4 exact J);exact Kn;exact J;exact J;intro b18 h18 hle18 hs18;skip)|(apply Bk (enc:=Jz) (xs:=l.take (s.n-1)++[(((⟨some ⟨b7,0,none⟩,R.1.n,c7⟩:Sli),S):RdS)]);(iterate 7 exact J);exact hs18.le QL;exact Kn;exact Xz;intro v1;exact QR;omega;exact J;intro A19 c19;skip)))|(apply Aj;exact J;all_goals (intro hc;try simp only [hcS,reduceCtorEq] at hc;try (exfalso;omega))))
       all_goals (try (exfalso;simp at hc;done))
       refine Ge (enc:=Jz) (e:=59) (sz:=1) (n:=s.n-1+1+1) (xs:=l.take (s.n-1)++[(((⟨some ⟨b7,0,none⟩,R.1.n,c7⟩:Sli),S):RdS)]++[r2]) Kn (by rw [List.length_append,List.length_append,hll];rfl) QK ?_
       intro A17 c17 h17 hle17 e17 hnc17 hs17
       cases e17
       rw [List.append_assoc] at hs17
       exact Ck rfl rfl rfl QM rfl rfl rfl (entOut (heach _ QL) (fun r hr=>by
        rcases List.mem_append.1 hr with w9|w9
        · rw [List.mem_singleton.1 w9];exact hr'.le QL
        · rw [List.mem_singleton.1 w9];exact hr2.le QL) hs17 hnc17 (by show [Ch S,Ch r2.2]=m::[nx];rw [hdS,hrd2 nx rfl]))
end Go.Hw
namespace Go.Hw
open Go
attribute [local irreducible] GO GOl GDp Val Fn Res At Fx Blk By Dk Cl Has Yl
open Go.Proofs (Tryz.prog)
theorem won21_c (h:Ro)(a b x y:Int):Val Tryz.prog 11 #[.int .i64 a,.int .i64 b,.int .i64 x,.int .i64 y] h (Bga (A7a a b x y 0 0)):=by
 refine Az (args:=[_,_,_,_]) ts_ok Go.Proofs.Tryz.func11 rfl rfl fun w0 X0 => ?_
 repeat' (first|apply Ac|apply Aa|apply Ab|(apply Ad;(iterate 3 exact J))|(apply Af;(iterate 3 exact J);(first|(apply Ah;(iterate 3 exact J);exact QR;(iterate 3 exact J);skip)|(apply Ag;exact J;intro b;skip)))|(apply Ih;(iterate 3 exact J);exact QM;exact J;exact J))
 all_goals rfl
theorem C6a (h:Ro)(bq:Nat)(d:Bp)(t:Dh)(n:Nat)(hn:d.ls.length=n)(u:Int×Int)(hu:Kh d t=u) :
  Fx Tryz.prog 12 #[Yc ⟨some ⟨bq,0,none⟩,n,n⟩ d,Gca t] [By 64 13 (.slice (some ⟨bq,0,none⟩) n n) n (d.ls.flatMap Jb)] h (.tuple #[.int .i64 u.1,.int .i64 u.2]) :=
 Yn fun h1 Ds hl ho=>by
  obtain ⟨A,c,e1,e2,hs⟩:=Iia Gl hn ho
  cases e1
  have:=Zj h1 ⟨some ⟨bq,0,none⟩,n,n⟩ d t ⟨hs,Nat.le_refl _⟩
  rw [hu] at this
  exact A0a this
theorem du0_at (h:Ro)(a b:Int):K7a h (Ja,⟨a,b,[]⟩):=⟨Cc.nil,Nat.le_refl _⟩
theorem brSm_nil:BrSm Ja []:=⟨Nat.zero_le _,fun r hr=>(by cases hr),fun r hr=>(by cases hr)⟩
theorem Cha {h:Ro}{s:Sli}{l:List RdS}{b:FBr}(hb:C2a h s l b)(ho:Ms b):BrSm s l:=by
 have hrl:(rounds l).length=s.n:=by rw [Fh,hb.rs.row.len]
 have his:=hb.is
 have hch:=ho.chain
 have hrn:=ho.rnd
 have hro:=ho.rounds
 rw [his] at hch hrn hro
 have hin:∀ r∈l,Ch r.2∈rounds l:=fun r hr=>List.mem_map.2 ⟨r,hr,rfl⟩
 refine ⟨?_,fun r hr => ?_,fun r hr p hp => ?_⟩
 · rw [← hrl]
   by_cases h7:7<(rounds l).length
   · have h1:=Fha hch hrn 7 h7
     have hm:(rounds l).getD 7 []∈rounds l:=mem7 [] h7
     have h2:=(hrn _ hm).pow
     cases e:rounds l with
     | nil=>rw [e] at h7;simp at h7
     | cons a r =>
       have h3:=(hrn a (by rw [e];simp)).pow
       rw [e] at h1 h2
       simp only [List.headD_cons] at h1
       unfold Sx at h2 h3
       omega
   · omega
 · have h3:=(hrn _ (hin r hr)).pow
   rw [Em,(hb.rs.each r hr).1.row.len] at h3
   unfold Sx at h3
   omega
 · have h3:=Mj (hro _ (hin r hr) p.2 (List.mem_map.2 ⟨p,hp,rfl⟩)).1
   have h4:=((hb.rs.each r hr).1.each p hp).len
   omega
theorem sane21_c (h:Ro):Val Tryz.prog 4 #[] h (.bool true):=by
 refine Az (args:=[]) ts_ok Go.Proofs.Tryz.func4 rfl rfl fun w0 X0 => ?_
 have w1:=fun h' bq=>C6a h' bq (exD 0 0) tie2 2 rfl _ ex_draw
 have w2:=fun h' bq=>C6a h' bq (exD 4 3) tie2 2 rfl _ ex_pens
 have w3:∀ h',Res Tryz.prog 12 #[Yc Ja ⟨1,2,[]⟩,Gca Yz] h' (fun u _=>u=.tuple #[.int .i64 0,.int .i64 210]):=fun h'=>by
  have:=Zj h' Ja ⟨1,2,[]⟩ Yz (du0_at h' 1 2)
  rw [ex_openD] at this;exact this
 have n1:∀ h' b,Cc Ex 1 h' (some ⟨b,0,none⟩) 3 [1,2,3]→Res Tryz.prog 13 #[.slice (some ⟨b,0,none⟩) 3 3,Gca Yz] h' (fun u h2=>Yv h2 u br0 190):=fun h' b hs=>by
  have:=new_c h' (some ⟨b,0,none⟩) 3 3 [1,2,3] Yz hs (Nat.le_refl _)
  rw [ex_three] at this;exact this
 have n2:∀ h' b,Cc Ex 1 h' (some ⟨b,0,none⟩) 2 [1,2]→Res Tryz.prog 13 #[.slice (some ⟨b,0,none⟩) 2 2,Gca ⟨3,false⟩] h' (fun u h2=>Yv h2 u br0 210):=fun h' b hs=>by
  have:=new_c h' (some ⟨b,0,none⟩) 2 2 [1,2] ⟨3,false⟩ hs (Nat.le_refl _)
  rw [ex_rules] at this;exact this
 have n3:∀ h' b,Cc Ex 1 h' (some ⟨b,0,none⟩) 2 [5,3]→Res Tryz.prog 13 #[.slice (some ⟨b,0,none⟩) 2 2,Gca Yz] h' (fun u h2=>Yv h2 u exB 0):=fun h' b hs=>by
  have:=new_c h' (some ⟨b,0,none⟩) 2 2 [5,3] Yz hs (Nat.le_refl _)
  rw [ex_new] at this;exact this
 have c1:∀ h',Res Tryz.prog 14 #[brV Ja tie0] h' (fun u _=>u=.tuple #[.int .i64 0,.bool false,.int .i64 210]):=fun h'=>by
  have:=champ_c h' Ja [] tie0 (C2a.zero h').rs brSm_nil
  rw [show (⟨tie0,rounds []⟩:FBr)=br0 from rfl,ex_empty] at this;exact this
 have hbo:Ms exB:=(Hra (b:=exB) (x:=A7a 5 3 0 1 0 0) (by rw [Pi])).1
 have e1:∀ h' s l,C2a h' s l exB→Res Tryz.prog 10 #[brV s Yz,Bga (A7a 5 3 0 1 0 0)] h' (fun u h2=>Yv h2 u exY 0):=fun h' s l hb=>by
  have:=Xx h' s l Yz hb.rs hb.nc (Cha hb hbo) (A7a 5 3 0 1 0 0)
  rw [show (⟨Yz,rounds l⟩:FBr)=exB by rw [← hb.is];rfl,Pi] at this;exact this
 have hyo:Ms exY:=by have:=(La (b:=exB) (x:=A7a 5 3 0 1 0 0) (by rw [Pi])).2.ok;rw [Pi] at this;exact this
 have c2:∀ h' s l,C2a h' s l exY→Res Tryz.prog 14 #[brV s Yz] h' (fun u _=>u=.tuple #[.int .i64 3,.bool true,.int .i64 0]):=fun h' s l hb=>by
  have:=champ_c h' s l Yz hb.rs (Cha hb hyo)
  rw [show (⟨Yz,rounds l⟩:FBr)=exY by rw [← hb.is];rfl,ex_champ] at this;exact this
 have v1:=fun h'=>view0_c h' 0 8 Yz (.inl rfl)
 repeat' (first|apply Ac|apply Aa|apply Ab|(apply Af;(iterate 3 exact J);apply Ag (e:=24);exact J;intro bt)|(apply Ad;(iterate 3 exact J))|(apply Ai;exact J;exact Av rfl QM rfl;exact J;exact J)|(apply Af;(iterate 3 exact J);(first|(apply Ah;(iterate 3 exact J);exact QR;(iterate 3 exact J);skip)|(apply Ag;exact J;intro b;skip)|(apply Aq;exact J;exact has11;exact won21_c _ _ _ _ _;skip)|(apply Cz (n:=2) (cs:=(exD 0 0).ls.flatMap Jb);(iterate 3 exact J);exact List.cons_ne_nil _ _;(iterate 6 exact J);intro bq;skip)|(apply Ov;exact J;exact has12;exact w1 _ bq;apply Uf;(first|exact Je.here|exact Je.there Je.here|exact Je.there (Je.there Je.here));exact Jn;skip)|(apply Ov;exact J;exact has12;exact w2 _ bq;apply Uf;(first|exact Je.here|exact Je.there Je.here|exact Je.there (Je.there Je.here));exact Jn;skip)|(apply Bc (enc:=Ex) (n:=3) [1,2,3];(iterate 3 exact J);exact List.cons_ne_nil _ _;(iterate 4 exact J);exact (fun _=>rfl);exact J;exact J;intro c3 h3 hle3 hs3;skip)|(apply Ay;exact J;exact Hga;exact n1 _ _ hs3;rintro v4 h4 hle4 ⟨s4,l4,rfl,hb4⟩;skip)|(apply Bc (enc:=Ex) (n:=2) [1,2];(iterate 3 exact J);exact List.cons_ne_nil _ _;(iterate 4 exact J);exact (fun _=>rfl);exact J;exact J;intro c5 h5 hle5 hs5;skip)|(apply Ay;exact J;exact Hga;exact n2 _ _ hs5;rintro v6 h6 hle6 ⟨s6,l6,rfl,hb6⟩;skip)|(apply Ay;exact J;exact has12;exact w3 _;rintro v7 h7 hle7 rfl;skip)|(apply Ay;exact J;exact has14;exact c1 _;rintro v8 h8 hle8 rfl;skip)|(apply Aq;exact J;exact has6;exact v1 _;skip)|(apply Bc (enc:=Ex) (n:=2) [5,3];(iterate 3 exact J);exact List.cons_ne_nil _ _;(iterate 4 exact J);exact (fun _=>rfl);exact J;exact J;intro c9 h9 hle9 hs9;skip)|(apply Ay;exact J;exact Hga;exact n3 _ _ hs9;rintro v10 h10 hle10 ⟨s10,l10,rfl,hb10⟩;skip)|(apply Ay;exact J;exact has14;exact c2 _ _ _ hb11;rintro v12 h12 hle12 rfl;skip)))|(apply Bf (n:=4) [0,1,4,5,6,2,3,7,8,9] [(0,0),(1,0),(2,0),(3,0),(4,0),(5,0),(6,1),(7,0),(8,0),(9,1)];kernel_rfl)|(apply Bf (n:=12) [0,1,2,3,4,6,5,7] [(0,0),(1,1),(2,1),(3,0),(4,0),(5,0),(6,1),(7,0)];kernel_rfl)|(apply Ce;exact J;kernel_rfl;(iterate 3 exact J))|(apply Bj;exact J;kernel_rfl;(iterate 3 exact J);exact QM;exact J;exact J)|(apply De;exact J;kernel_rfl;exact J;exact J;(first|(apply Be (j:=1);(iterate 6 exact J);omega;omega));exact QA)|(apply Br;exact J;kernel_rfl;(iterate 3 exact J);(first|(apply Yq (enc:=Jb) (f:=6) (k:=1) (sz:=13) (b:=bq) (xs:=(exD 0 0).ls) (y0:=A7a 2 1 1 2 0 0) (z:=A7a 2 1 1 2 4 0);(iterate 4 exact J);exact Gl;exact J;exact J;exact Nat.le_of_ble_eq_true rfl;exact QR;exact J;exact J;refine ⟨Le.refl _,QN,?_⟩)|(apply Yq (enc:=Jb) (f:=7) (k:=1) (sz:=13) (b:=bq) (xs:=[A7a 1 2 1 2 0 0,A7a 2 1 1 2 4 0]) (y0:=A7a 2 1 1 2 4 0) (z:=A7a 2 1 1 2 4 3);(iterate 4 exact J);exact Gl;exact J;exact J;exact Nat.le_of_ble_eq_true rfl;exact QR;exact J;exact J;refine ⟨Le.refl _,QN,?_⟩)|(apply Ah;(iterate 3 exact J);exact QR;(iterate 3 exact J);refine ⟨Le.refl _,QN,?_⟩)|(apply Aq;exact J;exact has11;exact won21_c _ _ _ _ _;refine ⟨Le.refl _,QN,?_⟩)|(apply Ay;exact J;exact Hha;exact e1 _ _ _ hb10;rintro v11 h11 hle11 ⟨s11,l11,rfl,hb11⟩;refine ⟨hle11,QN,?_⟩)))|(apply Bm;kernel_rfl;exact J)|(apply Ba;exact J;exact J;all_goals (intro hc;try simp only [hcS,reduceCtorEq] at hc;try (exfalso;omega))))
 all_goals first
  | (exact Bb rfl rfl rfl (congrArg Value.bool ((Kt 3 3).mpr rfl)))
  | (exact Bb rfl rfl rfl (congrArg Value.bool ((Kt 3 3).mpr rfl)).symm)
end Go.Hw
