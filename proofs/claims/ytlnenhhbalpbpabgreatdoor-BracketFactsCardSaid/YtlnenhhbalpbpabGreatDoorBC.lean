import Derived.Test.YtlnenhhbalpbpabGreatDoorBB
import Derived.Test.YtlnenhhbalpbpabGreatDoorFE
import Derived.Test.YtlnenhhbalpbpabGreatDoorHF
set_option linter.all false
set_option maxRecDepth 100000
set_option maxHeartbeats 8000000
namespace Go.Hw
open Go
attribute [local irreducible] GO GOl GDp Val Fn Res At Fx Blk By Dk Cl Has Yl
open Go.Proofs (Tryz.prog)
structure BrSm (s:Sli) (l:List RdS):Prop where
 few:s.n≤100
 each:∀ r∈l,r.1.n≤128
 legs:∀ r∈l,∀ p∈r.2,p.1.n≤4611686018427387904
theorem Kj (l:List RdS)(i:Nat):(rounds l).getD i []=Ch (l.getD i rd0).2:=by
 unfold rounds
 rw [List.getD_eq_getElem?_getD,List.getElem?_map,List.getD_eq_getElem?_getD]
 cases l[i]? <;> rfl
theorem Gva (l:List RdS):(rounds l).headD []=Ch (l.getD 0 rd0).2:=by cases l <;> rfl
theorem check1B_c (h:Ro)(s s':Sli)(d e:Bp):Val Tryz.prog 68 #[Yc s d,Yc s' e] h (.bool (decide (d.a=e.a∧d.b=e.b))):=by
 refine Az (args:=[_,_]) ts_ok Go.Proofs.Tryz.func68 rfl rfl fun w0 X0 => ?_
 repeat' (first|apply Ac|apply Aa|apply Ab|(apply Aw;exact J;exact J)|(apply Ad;(iterate 3 exact J))|(apply Ai;exact J;exact Av rfl QM rfl;exact J;exact J)|(apply Af;(iterate 3 exact J);(first|(apply Ao;exact J;intro b;skip)))|(apply Ba;exact J;exact J;all_goals (intro hc;try simp only [hcS,reduceCtorEq] at hc;try (exfalso;omega)))|(apply Bb;(iterate 3 exact J)))
 all_goals (refine Dg ?_;(try rw [Kt]);grind)
theorem equalDu_c (h:Ro)(A B:Option Addr)(n c m e:Nat)(x y:List DuS)(hx:Cc Hb 3 h A n x)(hy:Cc Hb 3 h B m y)(hn:n≤1000000)(hm:m≤1000000) :
  Val Tryz.prog 69 #[.slice A n c,.slice B m e,.func (.func 68) #[] #[]] h (.bool (decide (Lk (Ch x) (Ch y)))):=by
 refine Az (args:=[_,_,_]) ts_ok Go.Proofs.Tryz.func69 rfl rfl fun w0 X0 => ?_
 have hxl:=hx.len
 have hyl:=hy.len
 by_cases hnm:n=m
 · subst hnm
   repeat' (first|apply Ac|apply Au|apply Ak|apply Aa|apply Ab|(apply Ad;(iterate 3 exact J))|(apply Aj;exact J;all_goals (intro hc;try simp only [hcS,reduceCtorEq] at hc;try (exfalso;omega))))
   all_goals (try (exfalso;omega))
   refine Bt (X:=Nat) (fun k=>k≤n∧Lk (Ch (x.take k)) (Ch (y.take k))) (fun k=>n-k) (fun k=>[(17,.int .i64 k),(16,.int .i64 n),(15,.slice A n c),(1,.slice B n e),(2,.func (.func 68) #[] #[])]) (fun _=>[]) (fun _=>h) 0 ⟨by omega,rfl⟩ QS QT rfl ?_
   rintro k ⟨hk,hI⟩ ih
   by_cases hkn:k<n
   · have a1:=hx.addrD hkn
     have a2:=hy.addrD hkn
     have c1:At h ((addrD A).add (k * Lea.size)) (Hb (x.getD k du0)):=hx.cellsD du0 hkn
     have c2:At h ((addrD B).add (k * Lea.size)) (Hb (y.getD k du0)):=hy.cellsD du0 hkn
     have et1:=Fq du0 (xs:=x) hxl hkn
     have et2:=Fq du0 (xs:=y) hyl hkn
     have hne:¬ ((x.getD k du0).2.a=(y.getD k du0).2.a∧(x.getD k du0).2.b=(y.getD k du0).2.b)→¬ Lk (Ch x) (Ch y):=fun q w=>q (by
      unfold Lk Ch at w
      rw [List.map_map,List.map_map] at w
      have:(x.map ((fun d:Bp=>(d.a,d.b)) ∘ fun p=>p.2))[k]? = (y.map ((fun d:Bp=>(d.a,d.b)) ∘ fun p=>p.2))[k]?:=by rw [w]
      rw [List.getElem?_map,List.getElem?_map,List.getElem?_eq_getElem (show k<x.length by omega),List.getElem?_eq_getElem (show k<y.length by omega)] at this
      rw [List.getD_eq_getElem?_getD,List.getD_eq_getElem?_getD,List.getElem?_eq_getElem (show k<x.length by omega),List.getElem?_eq_getElem (show k<y.length by omega)]
      simpa using this)
     generalize x.getD k du0=u at *
     generalize y.getD k du0=v at *
     have hv:=check1B_c h u.1 v.1 u.2 v.2
     by_cases he:u.2.a=v.2.a∧u.2.b=v.2.b
     · rw [decide_eq_true he] at hv
       have h3:=ih (k+1) ⟨by omega,by
        rw [et1,et2,Pj,Pj]
        unfold Lk at hI ⊢
        rw [List.map_append,List.map_append,hI]
        simp [he.1,he.2]⟩ (by omega)
       clear ih hne
       repeat' (first|apply Ac|apply Au|apply Ap|apply Ak|apply Aa|apply Ab|(apply Af;(iterate 3 exact J);apply Ag (e:=62);exact J;intro bX)|(apply Bg;(iterate 3 exact J);omega;exact J;exact J)|(apply Ad;(iterate 3 exact J))|(apply Ai;exact J;exact Av rfl QM rfl;exact J;exact J)|(apply Bd;exact J;exact J;(first|(apply Be (j:=k);(iterate 5 exact J);(first|exact a1|exact a2);(with_reducible exact J);omega)|(apply Ar;exact J;first|exact Bh rfl c1 rfl|exact Bh rfl c2 rfl));exact QA)|(apply Af;(iterate 3 exact J);(first|(apply Ah;(iterate 3 exact J);exact QR;(iterate 3 exact J);skip)|(apply Cd (f:=68) (fs:=[]) (cs:=[]);exact J;exact J;exact has68;exact hv;skip)))|(apply Aj;exact J;all_goals (intro hc;try simp only [hcS,reduceCtorEq] at hc;try (exfalso;omega))))
       all_goals first
        | (exfalso;omega)
        | (exfalso;simp at hc;done)
        | (refine Bw QS QT (h3))
     · rw [decide_eq_false he] at hv
       rw [decide_eq_false (hne he)]
       clear ih hne
       repeat' (first|apply Ac|apply Au|apply Ak|apply Aa|apply Ab|(apply Af;(iterate 3 exact J);apply Ag (e:=62);exact J;intro bX)|(apply Ad;(iterate 3 exact J))|(apply Ai;exact J;exact Av rfl QM rfl;exact J;exact J)|(apply Bd;exact J;exact J;(first|(apply Be (j:=k);(iterate 5 exact J);(first|exact a1|exact a2);(with_reducible exact J);omega)|(apply Ar;exact J;first|exact Bh rfl c1 rfl|exact Bh rfl c2 rfl));exact QA)|(apply Af;(iterate 3 exact J);(first|(apply Ah;(iterate 3 exact J);exact QR;(iterate 3 exact J);skip)|(apply Cd (f:=68) (fs:=[]) (cs:=[]);exact J;exact J;exact has68;exact hv;skip)))|(apply Aj;exact J;all_goals (intro hc;try simp only [hcS,reduceCtorEq] at hc;try (exfalso;omega))))
       all_goals first
        | (exfalso;omega)
        | (exfalso;simp at hc;done)
        | (exact Bb rfl rfl rfl rfl)
   · rw [List.take_of_length_le (by omega),List.take_of_length_le (by omega)] at hI
     rw [decide_eq_true hI]
     clear ih
     repeat' (first|apply Ac|apply Aa|apply Ab|(apply Bn;exact J)|(apply Ad;(iterate 3 exact J))|(apply Aj;exact J;all_goals (intro hc;try simp only [hcS,reduceCtorEq] at hc;try (exfalso;omega))))
     all_goals first
      | (exfalso;omega)
      | (exact Bb rfl rfl rfl rfl)
 · rw [decide_eq_false (fun k=>hnm (by have:=Wq k;rw [Em,Em] at this;omega))]
   repeat' (first|apply Ac|apply Aa|apply Ab|(apply Ad;(iterate 3 exact J))|(apply Aj;exact J;all_goals (intro hc;try simp only [hcS,reduceCtorEq] at hc;try (exfalso;omega))))
   all_goals first
    | (exfalso;omega)
    | (exact Bb rfl rfl rfl rfl)
theorem idxFRe_c (h:Ro)(A:Option Addr)(n c:Nat)(l:List Dm)(hx:Cc Jb 13 h A n l)(hn:n≤1000000000)(f:FuncId)(fs cs:List Value)(p:Dm→Bool)(hh:Has Tryz.prog f)
  (hf:∀ x∈l,Val Tryz.prog f (fs++[Bga x]++cs).toArray h (.bool (p x))) :
  Val Tryz.prog 117 #[.slice A n c,.func (.func f) fs.toArray cs.toArray] h (.int .i64 (Jy p l 0)):=by
 refine Az (args:=[_,_]) ts_ok Go.Proofs.Tryz.func117 rfl rfl fun w0 X0 => ?_
 have hlen:=hx.len
 repeat' (first|apply Ac|apply Ak|apply Aa|apply Ab|(apply Ad;(iterate 3 exact J)))
 refine Bt (X:=Nat) (fun k=>k≤n∧Jy p (l.drop k) k=Jy p l 0) (fun k=>n-k) (fun k=>[(8,.int .i64 k),(7,.int .i64 n),(0,.slice A n c),(1,.func (.func f) fs.toArray cs.toArray)]) (fun _=>[]) (fun _=>h) 0 ⟨by omega,rfl⟩ QS QT rfl ?_
 rintro k ⟨hk,hI⟩ ih
 by_cases hkn:k<n
 · have a1:=hx.addrD hkn
   have c1:At h ((addrD A).add (k * I6a.size)) (Jb (l.getD k Ep)):=hx.cellsD Ep hkn
   have hd:=Zd Ep hlen hkn
   have hv:=hf _ (mem7 Ep (show k<l.length by omega))
   generalize l.getD k Ep=x at *
   repeat' (first|apply Ac|apply Au|apply Ap|apply Ak|apply Aa|apply Ab|(apply Bg;(iterate 3 exact J);omega;exact J;exact J)|(apply Ad;(iterate 3 exact J))|(apply Bd;exact J;exact J;(first|(apply Be (j:=k);(iterate 5 exact J);exact a1;(with_reducible exact J);omega)|(apply Ar;exact J;exact Bh rfl c1 rfl));exact QA)|(apply Af;(iterate 3 exact J);(first|(apply Cd (f:=f) (fs:=fs) (cs:=cs);exact J;exact J;exact hh;exact hv;skip)))|(apply Aj;exact J;all_goals (intro hc;try simp only [hcS,reduceCtorEq] at hc;try (exfalso;omega)))|(apply Bb;(iterate 3 exact J)))
   · rw [← hI,hd,Jy,if_pos hc]
   · have h3:=ih (k+1) ⟨by omega,by rw [← hI,hd,Jy,if_neg (by simp [hc])]⟩ (by omega)
     refine Bw QS QT (h3)
 · repeat' (first|apply Ac|apply Aa|apply Ab|(apply Bn;exact J)|(apply Ad;(iterate 3 exact J))|(apply Aj;exact J;all_goals (intro hc;try simp only [hcS,reduceCtorEq] at hc;try (exfalso;omega)))|(apply Bb;(iterate 3 exact J)))
   rw [← hI,show k=l.length by omega,List.drop_length];rfl
theorem conFRe_c (h:Ro)(A:Option Addr)(n c:Nat)(l:List Dm)(hx:Cc Jb 13 h A n l)(hn:n≤1000000000)(f:FuncId)(fs cs:List Value)(p:Dm→Bool)(hh:Has Tryz.prog f)
  (hf:∀ x∈l,Val Tryz.prog f (fs++[Bga x]++cs).toArray h (.bool (p x))) :
  Val Tryz.prog 70 #[.slice A n c,.func (.func f) fs.toArray cs.toArray] h (.bool (l.any p)):=by
 refine Az (args:=[_,_]) ts_ok Go.Proofs.Tryz.func70 rfl rfl fun w0 X0 => ?_
 repeat' (first|apply Ac|apply Aa|apply Ab|(apply Ad;(iterate 3 exact J))|(apply Af;(iterate 3 exact J);(first|(apply Aq;exact J;exact has117;exact idxFRe_c _ _ _ _ _ hx hn f fs cs p hh hf;skip)))|(apply Bb;(iterate 3 exact J)))
 rw [Up];congr 1;rw [Bool.eq_iff_iff,decide_eq_true_eq];exact Iq _ _ _
theorem check2B_c (h:Ro)(bl:Nat)(A:Option Addr)(n c:Nat)(l:List Dm)(hx:Cc Jb 13 h A n l)(h0:0<n)(hb:At h ⟨bl,0,none⟩ [.slice A n c])(x:Dm):Val Tryz.prog 71 #[Bga x,.pointer (some ⟨bl,0,none⟩)] h (.bool (!decide (Cx x (l.headD Ep)))):=by
 refine Az (args:=[_,_]) ts_ok Go.Proofs.Tryz.func71 rfl rfl fun w0 X0 => ?_
 have a1:=hx.addrD h0
 have c1:At h ((addrD A).add (0 * I6a.size)) (Jb (l.getD 0 Ep)):=hx.cellsD Ep h0
 have e0:l.getD 0 Ep=l.headD Ep:=by cases l <;> rfl
 rw [e0] at c1
 generalize l.headD Ep=y at *
 have hsc:=Wr h x y
 repeat' (first|apply Ac|apply Aa|apply Ab|(apply Ad;(iterate 3 exact J))|(apply Af;(iterate 3 exact J);(first|(apply Ao;exact J;intro b;skip)))|(apply Bf (n:=1) [0,1,2,3,4,5,6] [(0,0),(1,0),(2,0),(3,0),(4,1),(5,0),(6,0)];kernel_rfl)|(apply Ce;exact J;kernel_rfl;(iterate 3 exact J))|(apply Bj;exact J;kernel_rfl;(iterate 3 exact J);exact QM;exact J;exact J)|(apply De;exact J;kernel_rfl;exact J;exact J;(first|(apply Ar;exact J;exact Bh rfl hb rfl)|(apply Be (j:=0);(iterate 5 exact J);exact a1;omega;omega)|(apply Ar;exact J;exact Bh rfl c1 rfl));exact QA)|(apply Br;exact J;kernel_rfl;(iterate 3 exact J);(first|(apply Aq;exact J;exact has35;exact hsc;refine ⟨Le.refl _,QN,?_⟩)))|(apply Bm;kernel_rfl;exact J)|(apply Bb;(iterate 3 exact J)))
 all_goals rfl
end Go.Hw
namespace Go.Hw
open Go
attribute [local irreducible] GO GOl GDp Val Fn Res At Fx Blk By Dk Cl Has Yl
open Go.Proofs (Tryz.prog)
theorem Wj (l:List RdS){i:Nat}(h:i<l.length):(rounds l).take (i+1)=(rounds l).take i++[Ch (l.getD i rd0).2]:=by
 rw [List.take_add_one,List.getElem?_eq_getElem (by rw [Fh];exact h)]
 congr 1
 rw [← Kj,List.getD_eq_getElem?_getD,List.getElem?_eq_getElem (by rw [Fh];exact h)];rfl
theorem Caa (l:List DuS){j:Nat}(h:j<l.length):Ch (l.take (j+1))=Ch (l.take j)++[(l.getD j du0).2]:=by
 rw [List.take_add_one,List.getElem?_eq_getElem h,List.getD_eq_getElem?_getD,List.getElem?_eq_getElem h]
 exact Pj _ _
theorem legs_few {t:Dh}{l:List RdS}{s:Sli}(hs:BrSm s l){A:Option Addr}{h:Ro}(hb:Fua h A s.n l){i:Nat}(hi:∀ r∈(rounds l).take i,Lr r t):(Kl ((rounds l).take i)).length≤25600:=by
 have h1:=legsL_len (rs:=(rounds l).take i) (m:=128) (fun r hr d hd=>Mj (hi r hr d hd).1) (fun r hr=>by
  obtain ⟨q,hq,e⟩:=List.mem_map.1 (List.mem_of_mem_take hr)
  rw [← e,Em,(hb.each q hq).1.row.len]
  exact hs.each q hq)
 have h2:((rounds l).take i).length≤100:=by
  rw [List.length_take,Fh,hb.row.len]
  have:=hs.few
  omega
 have:2 * 128 * ((rounds l).take i).length≤2 * 128 * 100:=Nat.mul_le_mul_left _ h2
 omega
theorem legsR_few {t:Dh}{l:List Bp}(hl:∀ d∈l,Ixa t d)(hn:l.length≤128):(Od l).length≤256:=by
 have:=Eka (l:=l) fun d hd=>Mj (hl d hd).1
 omega
theorem H2a (l:List Bp)(d:Bp):Eo (l++[d])=Eo l++[d.a,d.b]:=by unfold Eo;rw [List.flatMap_append];simp
structure ChkI (t:Dh) (l:List RdS) (i:Nat):Prop where
 rounds:∀ r∈(rounds l).take i,Lr r t
 chain:∀ j,j<i→Oy t (Hw.rounds l) j
open Classical in
theorem Kfa (h:Ro)(s:Sli)(l:List RdS)(t:Dh)(hb:Fua h s.A s.n l)(hs:BrSm s l):Res Tryz.prog 29 #[brV s t] h (fun u _=>u=.bool (decide (Ms ⟨t,rounds l⟩))):=by
 refine Bq (args:=[_]) ts_ok Go.Proofs.Tryz.func29 rfl rfl fun w0 X0 => ?_
 have hrow:=hb.row
 have hlen:=hrow.len
 have hn:=hs.few
 have hrl:(rounds l).length=s.n:=by rw [Fh,hlen]
 obtain ⟨q,hqe⟩:∃ q:Bool,q=decide (Ms ⟨t,rounds l⟩):=⟨_,rfl⟩
 rw [← hqe]
 have hiff:=fun (_:Unit)=>brOk_iff ⟨t,rounds l⟩
 dsimp only at hiff
 have hF:¬ Ms ⟨t,rounds l⟩→q=false:=fun k=>by rw [hqe,decide_eq_false k]
 have hT:Ms ⟨t,rounds l⟩→q=true:=fun k=>by rw [hqe,decide_eq_true k]
 clear hqe
 have hr:=Og h t
 by_cases ht:Ik t
 case' neg =>
  rw [decide_eq_false ht] at hr
  have e:=hF fun k=>ht ((hiff ()).1 k).1
  clear hiff hF hT
  repeat' (first|apply Ac|apply Aa|apply Ab|(apply Cwa)|(apply Aw;exact J;exact J)|(apply Ad;(iterate 3 exact J))|(apply Ai;exact J;exact Av rfl QM rfl;exact J;exact J)|(apply Af;(iterate 3 exact J);(first|(apply Ao;exact J;intro b;skip)|(apply Aq;exact J;exact Pw;exact hr;skip)))|(apply Aj;exact J;all_goals (intro hc;try simp only [hcS,reduceCtorEq] at hc;try (exfalso;omega))))
  all_goals first
   | (exfalso;simp at hc;done)
   | (exact Cb rfl rfl rfl (by rw [e]))
 rw [decide_eq_true ht] at hr
 by_cases h0:s.n=0
 · have e:=hF fun k=>((hiff ()).1 k).2.1 (List.eq_nil_of_length_eq_zero (by omega))
   clear hiff hF hT
   repeat' (first|apply Ac|apply Aa|apply Ab|(apply Cwa)|(apply Ad;(iterate 3 exact J))|(apply Ai;exact J;exact Av rfl QM rfl;exact J;exact J)|(apply Af;(iterate 3 exact J);(first|(apply Ao;exact J;intro b;skip)|(apply Aq;exact J;exact Pw;exact hr;skip)))|(apply Aj;exact J;all_goals (intro hc;try simp only [hcS,reduceCtorEq] at hc;try (exfalso;omega))))
   all_goals first
    | (exfalso;simp at hc;done)
    | (exfalso;omega)
    | (exact Cb rfl rfl rfl (by rw [e]))
 have hh:=Gva l
 have ra:=hrow.addrD (show 0<s.n by omega)
 have rc:At h ((addrD s.A).add (0 * ty59.size)) (Jz (l.getD 0 rd0)):=hrow.cellsD rd0 (show 0<s.n by omega)
 have hrm:=mem7 rd0 (show 0<l.length by omega)
 have hr0:=hb.each _ hrm
 have hr0n:=hs.each _ hrm
 rw [hh] at hiff
 generalize l.getD 0 rd0=R0 at *
 have h0row:=hr0.1.row
 have h0len:=h0row.len
 refine Eh 3 1 ?_
 repeat' (first|apply Ac|apply Au|apply Ak|apply Aa|apply Ab|(apply Cwa)|(apply Af;(iterate 3 exact J);apply Ao (e:=30);exact J;intro b1)|(apply Ad;(iterate 3 exact J))|(apply Ai;exact J;exact Av rfl QM rfl;exact J;exact J)|(apply Bd;exact J;exact J;(first|(apply Be (j:=0) (n:=s.n);(iterate 5 exact J);exact ra;omega;omega)|(apply Ar;exact J;exact Bh rfl rc rfl));exact QA)|(apply Af;(iterate 3 exact J);(first|(apply Aq;exact J;exact Pw;exact hr;skip)))|(apply Aj;exact J;all_goals (intro hc;try simp only [hcS,reduceCtorEq] at hc;try (exfalso;omega))))
 all_goals (try (exfalso;omega))
 all_goals (try (exfalso;simp at hc;done))
 refine Bt (X:=Nat×Option Addr×Nat×Ro) (fun x=>x.1≤R0.1.n∧Le h x.2.2.2) (fun x=>R0.1.n-x.1)
  (fun x=>[(33,.int .i64 x.1),(32,.int .i64 R0.1.n),(31,.slice R0.1.A R0.1.n R0.1.c),(3,.slice x.2.1 (2 * x.1) x.2.2.1),(1,Rf b1)])
  (fun x=>[Blk b1 30 (brC s t),By 3 1 (.slice x.2.1 (2 * x.1) x.2.2.1) (2 * x.1) ((Eo (Ch (R0.2.take x.1))).flatMap Ex)]) (fun x=>x.2.2.2) (0,none,0,h) ⟨by dsimp only;omega,Le.refl _⟩ QS QT rfl ?_
 rintro ⟨k,A1,c1,h1⟩ ⟨hk,hle⟩ ih
 dsimp only at hk hle ih ⊢
 have hcl:(Eo (Ch (R0.2.take k))).length=2 * k:=by rw [Tw,Em,List.length_take];omega
 by_cases hkn:k<R0.1.n
 · have a1:=h0row.addrD hkn
   have c7:At h1 ((addrD R0.1.A).add (k * Lea.size)) (Hb (R0.2.getD k du0)):=(h0row.cellsD du0 hkn).le hle
   have hsn:=Caa R0.2 (j:=k) (by omega)
   generalize R0.2.getD k du0=p at *
   have h3:=fun A5 c5 h' (hl:Le h1 h')=>ih (k+1,A5,c5,h') ⟨by dsimp only;omega,hle.trans hl⟩ (by dsimp only;omega)
   dsimp only at h3
   rw [hsn,H2a] at h3
   rw [show 2 * (k+1)=2 * k+2 by omega] at h3
   generalize Eo (Ch (R0.2.take k))=cs at *
   clear ih hiff hF hT hsn
   repeat' (first|apply Ac|apply Au|apply Ap|apply Ak|apply Aa|apply Ab|(apply Af;(iterate 3 exact J);apply Ag (e:=62);exact J;intro bX)|(apply Bg;(iterate 3 exact J);omega;exact J;exact J)|(apply Ad;(iterate 3 exact J))|(apply Ai;exact J;exact Av rfl QM rfl;exact J;exact J)|(apply Bd;exact J;exact J;(first|(apply Be (j:=k) (n:=R0.1.n);(iterate 5 exact J);exact a1;(with_reducible exact J);omega)|(apply Ar;exact J;exact Bh rfl c7 rfl));exact QA)|(apply Af;(iterate 3 exact J);(first|(apply Ah;(iterate 3 exact J);exact QR;(iterate 3 exact J);skip)|(apply Bc (enc:=Ex) (n:=2) [p.2.a,p.2.b];(iterate 3 exact J);exact List.cons_ne_nil _ _;(iterate 4 exact J);exact fun _=>rfl;exact J;exact J;intro b5 h5 hle5 hs5;skip)|(apply Bk (enc:=Ex) (xs:=cs);(iterate 7 exact J);exact hs5;exact fun _=>rfl;exact fun x=>Ci rfl;intro v1;exact QR;omega;exact J;intro A5 c5;skip)))|(apply Aj;exact J;all_goals (intro hc;try simp only [hcS,reduceCtorEq] at hc;try (exfalso;omega))))
   all_goals first
    | (exfalso;omega)
    | (have h4:=h3 A5 c5 h5 hle5
       refine Bw QS QT (h4))
 rw [List.take_of_length_le (by omega)] at hcl ⊢
 have ek:k=R0.1.n:=by omega
 subst ek
 clear ih
 generalize hcse:Eo (Ch R0.2)=cs at *
 refine Ge (enc:=Ex) (e:=3) (sz:=1) (n:=2 * R0.1.n) (xs:=cs) (fun _=>rfl) hcl QK ?_
 intro A7 c7 h7 hle7 e7 hnc7 hs7
 cases e7
 have hnew:=fun h' (hl:Le h7 h')=>new_c h' A1 (2 * R0.1.n) c1 cs t (hs7.le hl) hnc7
 have hle07:Le h h7:=hle.trans hle7
 generalize Ob cs t=nb at *
 by_cases hnb:nb.2=0
 case' neg =>
  have e:=hF fun k=>hnb ((hiff ()).1 k).2.2.1
  clear hiff hF hT
  repeat' (first|apply Ac|apply Aa|apply Ab|(apply Bn;exact J)|(apply Af;(iterate 3 exact J);apply Ag (e:=30);exact J;intro bN)|(apply Ad;(iterate 3 exact J))|(apply Ai;exact J;exact Av rfl QM rfl;exact J;exact J)|(apply Af;(iterate 3 exact J);(first|(apply Ah;(iterate 3 exact J);exact QR;(iterate 3 exact J);skip)|(apply Ay;exact J;exact Hga;exact hnew _ QL;rintro v2 h2 hle2 ⟨s2,l2,rfl,hbr2⟩;skip)))|(apply Aj;exact J;all_goals (intro hc;try simp only [hcS,reduceCtorEq] at hc;try (exfalso;omega))))
  all_goals first
   | (exfalso;omega)
   | (exact Cb rfl rfl rfl (by rw [e]))
 have hT2:=fun a b c=>hT ((hiff ()).2 ⟨ht,fun k=>h0 (by rw [k] at hrl;exact hrl.symm),hnb,a,b,c⟩)
 have hF2:∀ i,i<s.n→¬ Lr ((rounds l).getD i []) t→q=false:=fun i hi k=>hF fun w=>k (((hiff ()).1 w).2.2.2.1 _ (by
  rw [List.getD_eq_getElem?_getD,List.getElem?_eq_getElem (show i<(rounds l).length by omega)]
  exact List.getElem_mem _))
 have hF3:∀ i,i<s.n→¬ Oy t (rounds l) i→q=false:=fun i hi k=>hF fun w=>k (((hiff ()).1 w).2.2.2.2.1 i (by omega))
 have hF4:∀ x∈Kl (rounds l),¬ Cx x ((Kl (rounds l)).headD Ep)→q=false:=fun x hx k=>hF fun w=>k (((hiff ()).1 w).2.2.2.2.2 x hx)
 clear hiff hF hT hh hs7 hcse hr0 h0row h0len rc ra hrm hr0n hcl hk hkn
 refine Eh 64 13 ?_
 repeat' (first|apply Ac|apply Au|apply Ak|apply Aa|apply Ab|(apply Bn;exact J)|(apply Af;(iterate 3 exact J);apply Ag (e:=30);exact J;intro bN)|(apply Af;(iterate 3 exact J);apply Ag (e:=60);exact J;intro bl)|(apply GO_label)|(apply Ad;(iterate 3 exact J))|(apply Ai;exact J;exact Av rfl QM rfl;exact J;exact J)|(apply Af;(iterate 3 exact J);(first|(apply Ah;(iterate 3 exact J);exact QR;(iterate 3 exact J);skip)|(apply Ay;exact J;exact Hga;exact hnew _ QL;rintro v2 h2 hle2 ⟨s2,l2,rfl,hbr2⟩;skip)))|(apply Aj;exact J;all_goals (intro hc;try simp only [hcS,reduceCtorEq] at hc;try (exfalso;omega))))
 all_goals (try (exfalso;omega))
 have hle2h:Le h h2:=hle07.trans hle2
 clear hnew hbr2 hnb
 refine Bt (X:=Nat×Option Addr×Nat×Ro) (fun x=>x.1≤s.n∧Le h x.2.2.2∧ChkI t l x.1) (fun x=>s.n-x.1)
  (fun x=>[(57,.int .i64 x.1),(56,.int .i64 s.n),(55,.slice s.A s.n s.c),(8,Rf bl),(1,Rf b1)])
  (fun x=>[Blk b1 30 (brC s t),Blk bl 60 [.slice x.2.1 (Kl ((rounds l).take x.1)).length x.2.2.1],By 64 13 (.slice x.2.1 (Kl ((rounds l).take x.1)).length x.2.2.1) (Kl ((rounds l).take x.1)).length ((Kl ((rounds l).take x.1)).flatMap Jb)])
  (fun x=>x.2.2.2) (0,none,0,h2) ⟨by dsimp only;omega,hle2h,⟨by simp,fun j hj=>absurd hj (by dsimp only;omega)⟩⟩ QS QT rfl ?_
 rintro ⟨i,A3,c3,h3⟩ ⟨hi,hle3,hI⟩ ih
 dsimp only at hi hle3 hI ih ⊢
 have hfew:=legs_few hs hb hI.rounds
 by_cases hin:i<s.n
 case' neg =>
  rw [List.take_of_length_le (by omega)] at hfew ⊢
  have ei:i=s.n:=by omega
  have e1:∀ r∈rounds l,Lr r t:=fun r hr=>hI.rounds r (by rw [List.take_of_length_le (by omega)];exact hr)
  have e2:∀ j,j<(rounds l).length→Oy t (rounds l) j:=fun j hj=>hI.chain j (by omega)
  have hT3:=hT2 e1 e2
  clear ih hI hF2 hF3 hT2 e1 e2
  generalize Kl (rounds l)=L at *
  refine Ge (enc:=Jb) (e:=64) (sz:=13) (n:=L.length) (xs:=L) Gl rfl QK ?_
  intro A9 c9 h9 hle9 e9 hnc9 hs9
  cases e9
  refine Gf (b:=bl) (e:=60) (cs:=[.slice A3 L.length c3]) QK ?_
  intro h10 hle10 hc10
  have hcon:∀ h',Le h10 h'→Val Tryz.prog 70 #[.slice A3 L.length c3,.func (.func 71) #[] #[.pointer (some ⟨bl,0,none⟩)]] h' (.bool (L.any fun x => !decide (Cx x (L.headD Ep)))):=fun h' hl =>
   conFRe_c h' A3 L.length c3 L ((hs9.le hle10).le hl) (by omega) 71 [] [.pointer (some ⟨bl,0,none⟩)] _ has71 fun x hx=>check2B_c h' bl A3 L.length c3 L ((hs9.le hle10).le hl) (List.length_pos_of_mem hx) (hc10.le hl) x
  have hqq:q = !(L.any fun x => !decide (Cx x (L.headD Ep))):=by
   by_cases hall:∀ x∈L,Cx x (L.headD Ep)
   · rw [hT3 hall]
     symm
     rw [Bool.not_eq_true',List.any_eq_false]
     intro x hx
     rw [decide_eq_true (hall x hx)];simp
   · obtain ⟨x,hx⟩:=Classical.not_forall.1 hall
     obtain ⟨hx1,hx2⟩:=Classical.not_imp.1 hx
     rw [hF4 x hx1 hx2]
     symm
     rw [Bool.not_eq_false',List.any_eq_true]
     exact ⟨x,hx1,by rw [decide_eq_false hx2];rfl⟩
  rw [hqq]
  generalize (L.any fun x => !decide (Cx x (L.headD Ep)))=qa at *
  repeat' (first|apply Ac|apply Aa|apply Ab|(apply Bn;exact J)|(apply Ad;(iterate 3 exact J))|(apply Bd;exact J;exact J;(first|(apply Ar;exact J;first|exact Bh rfl (by assumption) rfl|exact Dc rfl (by assumption) rfl|exact Db rfl (by assumption) rfl|exact Lv_roF3 rfl (by assumption) rfl));exact QA)|(apply Af;(iterate 3 exact J);(first|(apply Aq;exact J;exact has70;exact hcon _ QL;skip)))|(apply Aj;exact J;all_goals (intro hc;try simp only [hcS,reduceCtorEq] at hc;try (exfalso;omega))))
  all_goals first
   | (exfalso;omega)
   | (exact Cb rfl rfl rfl rfl)
 have ra:=hrow.addrD hin
 have rc:At h3 ((addrD s.A).add (i * ty59.size)) (Jz (l.getD i rd0)):=(hrow.cellsD rd0 hin).le hle3
 have hrm:=mem7 rd0 (show i<l.length by omega)
 have hri:=(hb.each _ hrm).le hle3
 have hrn:=hs.each _ hrm
 have hgd:=Kj l i
 have hgd1:=Kj l (i+1)
 have htk:=Wj l (i:=i) (by omega)
 have hF2i:=hF2 i hin
 have hF3i:=hF3 i hin
 rw [hgd] at hF2i
 generalize l.getD i rd0=R at *
 have hRl:=hri.1.row.len
 have hRrow:=hri.1.row
 have ih1:=fun A5 c5 h' (hl:Le h3 h') (hro:Lr (Ch R.2) t) (hch:Oy t (rounds l) i)=>ih (i+1,A5,c5,h') ⟨by dsimp only;omega,hle3.trans hl,⟨fun r hr=>by
  dsimp only at hr
  rw [htk,List.mem_append,List.mem_singleton] at hr
  rcases hr with hr|hr
  · exact hI.rounds r hr
  · rw [hr];exact hro,fun j hj=>by
  dsimp only at hj
  by_cases e:j=i
  · rw [e];exact hch
  · exact hI.chain j (by omega)⟩⟩ (by dsimp only;omega)
 dsimp only at ih1
 rw [htk,L3a] at ih1
 generalize Kl ((rounds l).take i)=P at *
 clear ih hI hT2 hF2 hF3 hF4 htk
 repeat' (first|apply Ac|apply Au|apply Ak|apply Aa|apply Ab|(apply Ad;(iterate 3 exact J))|(apply Bd;exact J;exact J;(first|(apply Be (j:=i) (n:=s.n);(iterate 5 exact J);exact ra;(with_reducible exact J);omega)|(apply Ar;exact J;exact Bh rfl rc rfl));exact QA)|(apply Aj;exact J;all_goals (intro hc;try simp only [hcS,reduceCtorEq] at hc;try (exfalso;omega))))
 all_goals (try (exfalso;omega))
 refine Bt (X:=Nat×Option Addr×Nat×Ro) (fun x=>x.1≤R.1.n∧Le h3 x.2.2.2∧∀ d∈Ch (R.2.take x.1),Ixa t d) (fun x=>R.1.n-x.1)
  (fun x=>[(64,.int .i64 x.1),(63,.int .i64 R.1.n),(62,.slice R.1.A R.1.n R.1.c),(9,.int .i64 i),(10,.slice R.1.A R.1.n R.1.c),(57,.int .i64 i),(56,.int .i64 s.n),(55,.slice s.A s.n s.c),(8,Rf bl),(1,Rf b1)])
  (fun x=>[Blk b1 30 (brC s t),Blk bl 60 [.slice x.2.1 (P++Od (Ch (R.2.take x.1))).length x.2.2.1],By 64 13 (.slice x.2.1 (P++Od (Ch (R.2.take x.1))).length x.2.2.1) (P++Od (Ch (R.2.take x.1))).length ((P++Od (Ch (R.2.take x.1))).flatMap Jb)])
  (fun x=>x.2.2.2) (0,A3,c3,h3) ⟨by dsimp only;omega,Le.refl _,fun d hd=>absurd hd (by dsimp only;rw [List.take_zero];simp [Ch])⟩ QS (by rw [show Od (Ch (R.2.take 0))=[] from rfl,List.append_nil];exact QT) rfl ?_
 rintro ⟨j,A4,c4,h4⟩ ⟨hj,hle4,hD⟩ ihj
 dsimp only at hj hle4 hD ihj ⊢
 have hqf:=legsR_few hD (by rw [Em,List.length_take];omega)
 by_cases hjn:j<R.1.n
 · have a1:=hRrow.addrD hjn
   have c7:At h4 ((addrD R.1.A).add (j * Lea.size)) (Hb (R.2.getD j du0)):=(hRrow.cellsD du0 hjn).le hle4
   have hm:=mem7 du0 (show j<R.2.length by omega)
   have hda:=(hri.1.each _ hm).le hle4
   have hsn:=Caa R.2 (j:=j) (by omega)
   generalize R.2.getD j du0=p at *
   obtain ⟨ps,pd⟩:=p
   have hck:=Fda h4 ps pd t hda
   have hz:=checkD_zero (d:=pd) (t:=t)
   have hmd:pd∈Ch R.2:=List.mem_map.2 ⟨_,hm,rfl⟩
   have hdl:=hda.len
   dsimp only at hdl hsn
   generalize Jw pd t=E at *
   by_cases hE:E=0
   case' neg =>
    have e:=hF2i fun k=>hE (hz.2 (k pd hmd).1)
    clear ihj ih1 hz hF2i hF3i
    repeat' (first|apply Ac|apply Au|apply Ak|apply Aa|apply Ab|(apply Af;(iterate 3 exact J);apply Ag (e:=62);exact J;intro bX)|(apply Ad;(iterate 3 exact J))|(apply Ai;exact J;exact Av rfl QM rfl;exact J;exact J)|(apply Bd;exact J;exact J;(first|(apply Be (j:=j) (n:=R.1.n);(iterate 5 exact J);exact a1;(with_reducible exact J);omega)|(apply Ar;exact J;exact Bh rfl c7 rfl));exact QA)|(apply Af;(iterate 3 exact J);(first|(apply Ah;(iterate 3 exact J);exact QR;(iterate 3 exact J);skip)|(apply Ay;exact J;exact Hea;exact hck;rintro v5 h5 hle5 rfl;skip)))|(apply Aj;exact J;all_goals (intro hc;try simp only [hcS,reduceCtorEq] at hc;try (exfalso;omega))))
    all_goals first
     | (exfalso;omega)
     | (exact Cb rfl rfl rfl (by rw [e]))
   have ho:=hz.1 hE
   subst hE
   have hwn:=fun h' (hl:Le h4 h')=>Ri h' ps pd t ((DuG.of hda ho).le hl)
   have hp2:=Mj ho
   have hsl:=hda.1
   dsimp only at hsl
   have h5:=fun A5 c5 h' (hl:Le h4 h') (hfit:Ixa t pd)=>ihj (j+1,A5,c5,h') ⟨by dsimp only;omega,hle4.trans hl,fun d hd=>by
    dsimp only at hd
    rw [hsn,List.mem_append,List.mem_singleton] at hd
    rcases hd with hd|rfl
    · exact hD d hd
    · exact hfit⟩ (by dsimp only;omega)
   dsimp only at h5
   rw [hsn,L2a,← List.append_assoc] at h5
   have hQ:(P++Od (Ch (R.2.take j))).length≤30000:=by rw [List.length_append];omega
   generalize P++Od (Ch (R.2.take j))=Q at *
   have e9:(Q++pd.ls).length=Q.length+ps.n:=by rw [List.length_append,hdl]
   rw [e9] at h5
   have hq63:Q.length+ps.n≤1000000000:=by omega
   cases hwd:Ke pd t with
   | none =>
     obtain ⟨w,hw⟩:=Ly hwd
     rw [hw] at hwn
     by_cases hfu:(ps.n:Int)=t.legs
     · have e:=hF2i fun k=>(k pd hmd).2 (by unfold Hr;omega) (by omega) hwd
       clear ihj ih1 hz hF2i hF3i h5
       repeat' (first|apply Ac|apply Au|apply Ak|apply Aa|apply Ab|(apply Af;(iterate 3 exact J);apply Ag (e:=62);exact J;intro bX)|(apply Ad;(iterate 3 exact J))|(apply Ai;exact J;exact Av rfl QM rfl;exact J;exact J)|(apply Bd;exact J;exact J;(first|(apply Be (j:=j) (n:=R.1.n);(iterate 5 exact J);exact a1;(with_reducible exact J);omega)|(apply Ar;exact J;exact Bh rfl c7 rfl));exact QA)|(apply Af;(iterate 3 exact J);(first|(apply Ah;(iterate 3 exact J);exact QR;(iterate 3 exact J);skip)|(apply Ay;exact J;exact Hea;exact hck;rintro v5 h6 hle5 rfl;skip)|(apply Ay;exact J;exact Xn;exact hwn _ QL;rintro v6 h8 hle6 rfl;skip)))|(apply Aj;exact J;all_goals (intro hc;try simp only [hcS,reduceCtorEq] at hc;try (exfalso;omega))))
       all_goals first
        | (exfalso;omega)
        | (exfalso;simp at hc;done)
        | (exact Cb rfl rfl rfl (by rw [e]))
     · have h7:=fun A5 c5 h' hl=>h5 A5 c5 h' hl ⟨ho,fun _ k=>absurd k (by omega)⟩
       clear ihj ih1 hz hF2i hF3i h5
       repeat' (first|apply Ac|apply Au|apply Ap|apply Ak|apply Aa|apply Ab|(apply Af;(iterate 3 exact J);apply Ag (e:=62);exact J;intro bX)|(apply Bg;(iterate 3 exact J);omega;exact J;exact J)|(apply Ad;(iterate 3 exact J))|(apply Ai;exact J;exact Av rfl QM rfl;exact J;exact J)|(apply Bd;exact J;exact J;(first|(apply Be (j:=j) (n:=R.1.n);(iterate 5 exact J);exact a1;(with_reducible exact J);omega)|(apply Ar;exact J;exact Bh rfl c7 rfl));exact QA)|(apply Af;(iterate 3 exact J);(first|(apply Ah;(iterate 3 exact J);exact QR;(iterate 3 exact J);skip)|(apply Ay;exact J;exact Hea;exact hck;rintro v5 h6 hle5 rfl;skip)|(apply Ay;exact J;exact Xn;exact hwn _ QL;rintro v6 h8 hle6 rfl;skip)|(apply Bk (enc:=Jb) (xs:=Q) (ys:=pd.ls);(iterate 7 exact J);exact hsl.le QL;exact Gl;exact Rs;intro v1;exact QR;exact hq63;exact J;intro A5 c5;skip)))|(apply Aj;exact J;all_goals (intro hc;try simp only [hcS,reduceCtorEq] at hc;try (exfalso;omega))))
       all_goals first
        | (exfalso;omega)
        | (exfalso;simp at hc;done)
        | (have h9:=h7 A5 c5 h8 QL
           refine Bw QS QT (h9))
   | some w =>
     rw [Nw hwd] at hwn
     have h7:=fun A5 c5 h' hl=>h5 A5 c5 h' hl ⟨ho,fun _ _ k=>by rw [hwd] at k;cases k⟩
     clear ihj ih1 hz hF2i hF3i h5
     repeat' (first|apply Ac|apply Au|apply Ap|apply Ak|apply Aa|apply Ab|(apply Af;(iterate 3 exact J);apply Ag (e:=62);exact J;intro bX)|(apply Aw;exact J;exact J)|(apply Bg;(iterate 3 exact J);omega;exact J;exact J)|(apply Ad;(iterate 3 exact J))|(apply Ai;exact J;exact Av rfl QM rfl;exact J;exact J)|(apply Bd;exact J;exact J;(first|(apply Be (j:=j) (n:=R.1.n);(iterate 5 exact J);exact a1;(with_reducible exact J);omega)|(apply Ar;exact J;exact Bh rfl c7 rfl));exact QA)|(apply Af;(iterate 3 exact J);(first|(apply Ah;(iterate 3 exact J);exact QR;(iterate 3 exact J);skip)|(apply Ay;exact J;exact Hea;exact hck;rintro v5 h6 hle5 rfl;skip)|(apply Ay;exact J;exact Xn;exact hwn _ QL;rintro v6 h8 hle6 rfl;skip)|(apply Bk (enc:=Jb) (xs:=Q) (ys:=pd.ls);(iterate 7 exact J);exact hsl.le QL;exact Gl;exact Rs;intro v1;exact QR;exact hq63;exact J;intro A5 c5;skip)))|(apply Aj;exact J;all_goals (intro hc;try simp only [hcS,reduceCtorEq] at hc;try (exfalso;omega))))
     all_goals first
      | (exfalso;omega)
      | (exfalso;simp at hc;done)
      | (have h9:=h7 A5 c5 h8 QL
         refine Bw QS QT (h9))
 rw [List.take_of_length_le (by omega)] at hD hqf ⊢
 clear ihj hF2i rc
 have hfo:=J2a h4 R.1.A R.1.n R.1.c R.2 t (hri.1.le hle4) hrn fun p hp=>DuG.of ((hri.1.each p hp).le hle4) (hD p.2 (List.mem_map.2 ⟨p,hp,rfl⟩)).1
 have ih2:=fun A5 c5 h' (hl:Le h4 h') hch=>ih1 A5 c5 h' (hle4.trans hl) hD hch
 generalize P++Od (Ch R.2)=Q at *
 clear ih1 hD hqf hfew
 have hca:∀ x,Gb (Ch R.2) t=x→(Oy t (rounds l) i↔if i+1<s.n then ∃ n,x=some n∧Lk n (Ch (l.getD (i+1) rd0).2) else x=none):=fun x e=>by
  unfold Oy
  rw [hrl,hgd,hgd1,e]
 cases hnx:Gb (Ch R.2) t with
 | none =>
   have hca:=hca none hnx
   rw [hnx] at hfo
   rw [show (none:Option (List Bp)).isSome=false from rfl] at hfo
   by_cases hi1:i+1<s.n
   · rw [if_pos hi1] at hca
     have e:=hF3i fun k=>by obtain ⟨m,h1,_⟩:=hca.1 k;cases h1
     have hx7:¬ ((false == ltI ((i:Int)+1) (s.n:Int))=true):=by rw [(ltI_t _ _).mpr (by omega)];simp
     clear ih2 hF3i hca
     repeat' (first|apply Ac|apply Au|apply Aa|apply Ab|(apply Bn;exact J)|(apply Bg;(iterate 3 exact J);omega;exact J;exact J)|(apply Ad;(iterate 3 exact J))|(apply Ai;exact J;exact Av rfl QM rfl;exact J;exact J)|(apply Af;(iterate 3 exact J);(first|(apply Ay;exact J;exact Hfa;exact hfo;rintro v5 h5 hle5 ⟨r,rfl,hr5,hrm5⟩;skip)))|(apply Aj;exact J;all_goals (intro hc;try simp only [hcS,reduceCtorEq] at hc;try (exfalso;omega))))
     all_goals first
      | (exfalso;omega)
      | (exfalso;exact hx7 (by assumption))
      | (exact Cb rfl rfl rfl (by rw [e]))
   · rw [if_neg hi1] at hca
     have h7:=fun A5 c5 h' (hl:Le h4 h')=>ih2 A5 c5 h' hl (hca.2 rfl)
     clear ih2 hF3i hca
     repeat' (first|apply Ac|apply Au|apply Aa|apply Ab|(apply Bn;exact J)|(apply Bg;(iterate 3 exact J);omega;exact J;exact J)|(apply Ad;(iterate 3 exact J))|(apply Ai;exact J;exact Av rfl QM rfl;exact J;exact J)|(apply Af;(iterate 3 exact J);(first|(apply Ay;exact J;exact Hfa;exact hfo;rintro v5 h5 hle5 ⟨r,rfl,hr5,hrm5⟩;skip)))|(apply Aj;exact J;all_goals (intro hc;try simp only [hcS,reduceCtorEq] at hc;try (exfalso;omega))))
     all_goals first
      | (exfalso;omega)
      | (have h9:=h7 A4 c4 h5 hle5
         refine Bw QS QT (h9))
      | (exfalso;simp [Xe] at hc;omega)
 | some m =>
   have hca:=hca (some m) hnx
   have hml:m.length≤128:=by
    obtain ⟨cs9,k1,_,k3⟩:=Kf hnx
    have k4:=Rh k1
    rw [Em] at k4
    rw [k3,Rv];omega
   rw [hnx] at hfo
   rw [show (some m).isSome=true from rfl] at hfo
   by_cases hi1:i+1<s.n
   · rw [if_pos hi1] at hca
     have rc1:At h4 ((addrD s.A).add ((i+1) * ty59.size)) (Jz (l.getD (i+1) rd0)):=((hrow.cellsD rd0 hi1).le hle3).le hle4
     have hrm1:=mem7 rd0 (show i+1<l.length by omega)
     have hri1:=((hb.each _ hrm1).le hle3).le hle4
     have hrn1:=hs.each _ hrm1
     generalize l.getD (i+1) rd0=R1 at *
     have heq:=fun h' (hl:Le h4 h') (r:RdS) (hr5:Iha h' r) (hd:Ch r.2=m)=>equalDu_c h' r.1.A R1.1.A r.1.n r.1.c R1.1.n R1.1.c r.2 R1.2 hr5.1.row (hri1.1.row.le hl) (by have:=hr5.1.row.len;rw [← Em,hd] at this;omega) (by omega)
     by_cases hsa:Lk m (Ch R1.2)
     · have h7:=fun A5 c5 h' (hl:Le h4 h')=>ih2 A5 c5 h' hl (hca.2 ⟨m,rfl,hsa⟩)
       have heq:∀ h',Le h4 h'→∀ r:RdS,Iha h' r→Ch r.2=m→Val Tryz.prog 69 #[.slice r.1.A r.1.n r.1.c,.slice R1.1.A R1.1.n R1.1.c,.func (.func 68) #[] #[]] h' (.bool true):=fun h' hl r hr5 hd=>by
        have:=heq h' hl r hr5 hd
        rw [hd,decide_eq_true hsa] at this;exact this
       clear ih2 hF3i hca
       repeat' (first|apply Ac|apply Au|apply Ap|apply Aa|apply Ab|(apply Bn;exact J)|(apply Bg;(iterate 3 exact J);omega;exact J;exact J)|(apply Ad;(iterate 3 exact J))|(apply Ai;exact J;exact Av rfl QM rfl;exact J;exact J)|(apply Bd;exact J;exact J;(first|(apply Be (j:=i+1) (n:=s.n);(iterate 5 exact J);exact ra;omega;omega)|(apply Ar;exact J;exact Bh rfl (rc1.le QL) rfl));exact QA)|(apply Af;(iterate 3 exact J);(first|(apply Ay;exact J;exact Hfa;exact hfo;rintro v5 h5 hle5 ⟨r,rfl,hr5,hrm5⟩;skip)|(apply Aq;exact J;exact has69;exact heq _ QL r hr5 (hrm5 m rfl);skip)))|(apply Aj;exact J;all_goals (intro hc;try simp only [hcS,reduceCtorEq] at hc;try (exfalso;omega))))
       all_goals first
        | (exfalso;omega)
        | (exfalso;simp at hc;done)
        | (have h9:=h7 A4 c4 h5 hle5
           refine Bw QS QT (h9))
        | (exfalso;simp [Xe] at hc;omega)
     · have e:=hF3i fun k=>by
        obtain ⟨n9,k1,k2⟩:=hca.1 k
        cases k1
        exact hsa k2
       have heq:∀ h',Le h4 h'→∀ r:RdS,Iha h' r→Ch r.2=m→Val Tryz.prog 69 #[.slice r.1.A r.1.n r.1.c,.slice R1.1.A R1.1.n R1.1.c,.func (.func 68) #[] #[]] h' (.bool false):=fun h' hl r hr5 hd=>by
        have:=heq h' hl r hr5 hd
        rw [hd,decide_eq_false hsa] at this;exact this
       clear ih2 hF3i hca
       repeat' (first|apply Ac|apply Au|apply Aa|apply Ab|(apply Bn;exact J)|(apply Bg;(iterate 3 exact J);omega;exact J;exact J)|(apply Ad;(iterate 3 exact J))|(apply Ai;exact J;exact Av rfl QM rfl;exact J;exact J)|(apply Bd;exact J;exact J;(first|(apply Be (j:=i+1) (n:=s.n);(iterate 5 exact J);exact ra;omega;omega)|(apply Ar;exact J;exact Bh rfl (rc1.le QL) rfl));exact QA)|(apply Af;(iterate 3 exact J);(first|(apply Ay;exact J;exact Hfa;exact hfo;rintro v5 h5 hle5 ⟨r,rfl,hr5,hrm5⟩;skip)|(apply Aq;exact J;exact has69;exact heq _ QL r hr5 (hrm5 m rfl);skip)))|(apply Aj;exact J;all_goals (intro hc;try simp only [hcS,reduceCtorEq] at hc;try (exfalso;omega))))
       all_goals first
        | (exfalso;omega)
        | (exfalso;simp at hc;done)
        | (exact Cb rfl rfl rfl (by rw [e]))
   · rw [if_neg hi1] at hca
     have e:=hF3i fun k=>by have:=hca.1 k;cases this
     have hx7:¬ ((true == ltI ((i:Int)+1) (s.n:Int))=true):=by rw [(ltI_f _ _).mpr (by omega)];simp
     clear ih2 hF3i hca
     repeat' (first|apply Ac|apply Au|apply Aa|apply Ab|(apply Bn;exact J)|(apply Bg;(iterate 3 exact J);omega;exact J;exact J)|(apply Ad;(iterate 3 exact J))|(apply Ai;exact J;exact Av rfl QM rfl;exact J;exact J)|(apply Af;(iterate 3 exact J);(first|(apply Ay;exact J;exact Hfa;exact hfo;rintro v5 h5 hle5 ⟨r,rfl,hr5,hrm5⟩;skip)))|(apply Aj;exact J;all_goals (intro hc;try simp only [hcS,reduceCtorEq] at hc;try (exfalso;omega))))
     all_goals first
      | (exfalso;omega)
      | (exfalso;exact hx7 (by assumption))
      | (exact Cb rfl rfl rfl (by rw [e]))
end Go.Hw
namespace Go.Hw
open Go
attribute [local irreducible] GO GOl GDp Val Fn Res At Fx Blk By Dk Cl Has Yl
open Go.Proofs (Tryz.prog)
theorem cloneDu_c (h:Ro)(A:Option Addr)(n c:Nat)(xs:List DuS)(hx:Cc Hb 3 h A n xs)(hn:n≤1000000) :
  Fn Tryz.prog 31 #[.slice A n c] [] h fun u Es _=>Es=[By 62 3 u n (xs.flatMap Hb)]:=by
 refine Bo (args:=[_]) ts_ok Go.Proofs.Tryz.func31 rfl rfl fun w0 X0 => ?_
 have hlen:=hx.len
 cases A with
 | none =>
   have h0:n=0:=by
    by_cases h0:n=0
    · exact h0
    · have:=hx.addrD (show 0<n by omega);cases this
   subst h0
   have hxs:xs=[]:=List.eq_nil_of_length_eq_zero hlen
   subst hxs
   refine Eh 62 3 ?_
   repeat' (first|apply Ac|apply Au|apply Aa|apply Ab|(apply Ad;(iterate 3 exact J))|(apply Aj;exact J;all_goals (intro hc;try simp only [hcS,reduceCtorEq] at hc;try (exfalso;omega))))
   · exact Ca rfl rfl rfl (List.Sublist.refl _) rfl
   · simp at hc
 | some ad =>
   repeat' (first|apply Ac|apply Au|apply Aa|apply Ab|(apply Ad;(iterate 3 exact J))|(apply Af;(iterate 3 exact J);(first|(apply Cz (n:=0);(iterate 3 exact J);exact List.cons_ne_nil _ _;(iterate 6 exact J);intro b1;skip)|(apply Bk (enc:=Hb) (xs:=[]);(iterate 7 exact J);exact hx;exact Jk;exact E6a;intro v1;exact QR;omega;exact J;intro A1 c1;skip)))|(apply Aj;exact J;all_goals (intro hc;try simp only [hcS,reduceCtorEq] at hc;try (exfalso;omega))))
   refine Ca rfl rfl rfl (List.Sublist.refl _) ?_
   simp
   rfl
theorem cloneRe_c (h:Ro)(A:Option Addr)(n c:Nat)(xs:List Dm)(hx:Cc Jb 13 h A n xs)(hn:n≤1000000) :
  Fn Tryz.prog 36 #[.slice A n c] [] h fun u Es _=>Es=[By 64 13 u n (xs.flatMap Jb)]:=by
 refine Bo (args:=[_]) ts_ok Go.Proofs.Tryz.func36 rfl rfl fun w0 X0 => ?_
 have hlen:=hx.len
 cases A with
 | none =>
   have h0:n=0:=by
    by_cases h0:n=0
    · exact h0
    · have:=hx.addrD (show 0<n by omega);cases this
   subst h0
   have hxs:xs=[]:=List.eq_nil_of_length_eq_zero hlen
   subst hxs
   refine Eh 64 13 ?_
   repeat' (first|apply Ac|apply Au|apply Aa|apply Ab|(apply Ad;(iterate 3 exact J))|(apply Aj;exact J;all_goals (intro hc;try simp only [hcS,reduceCtorEq] at hc;try (exfalso;omega))))
   · exact Ca rfl rfl rfl (List.Sublist.refl _) rfl
   · simp at hc
 | some ad =>
   repeat' (first|apply Ac|apply Au|apply Aa|apply Ab|(apply Ad;(iterate 3 exact J))|(apply Af;(iterate 3 exact J);(first|(apply Cz (n:=0);(iterate 3 exact J);exact List.cons_ne_nil _ _;(iterate 6 exact J);intro b1;skip)|(apply Bk (enc:=Jb) (xs:=[]);(iterate 7 exact J);exact hx;exact Gl;exact Rs;intro v1;exact QR;omega;exact J;intro A1 c1;skip)))|(apply Aj;exact J;all_goals (intro hc;try simp only [hcS,reduceCtorEq] at hc;try (exfalso;omega))))
   refine Ca rfl rfl rfl (List.Sublist.refl _) ?_
   simp
   rfl
theorem cloneRd_c (h:Ro)(A:Option Addr)(n c:Nat)(xs:List RdS)(hx:Cc Jz 1 h A n xs)(hn:n≤1000000) :
  Fn Tryz.prog 39 #[.slice A n c] [] h fun u Es _=>Es=[By 59 1 u n (xs.flatMap Jz)]:=by
 refine Bo (args:=[_]) ts_ok Go.Proofs.Tryz.func39 rfl rfl fun w0 X0 => ?_
 have hlen:=hx.len
 cases A with
 | none =>
   have h0:n=0:=by
    by_cases h0:n=0
    · exact h0
    · have:=hx.addrD (show 0<n by omega);cases this
   subst h0
   have hxs:xs=[]:=List.eq_nil_of_length_eq_zero hlen
   subst hxs
   refine Eh 59 1 ?_
   repeat' (first|apply Ac|apply Au|apply Aa|apply Ab|(apply Ad;(iterate 3 exact J))|(apply Aj;exact J;all_goals (intro hc;try simp only [hcS,reduceCtorEq] at hc;try (exfalso;omega))))
   · exact Ca rfl rfl rfl (List.Sublist.refl _) rfl
   · simp at hc
 | some ad =>
   repeat' (first|apply Ac|apply Au|apply Aa|apply Ab|(apply Ad;(iterate 3 exact J))|(apply Af;(iterate 3 exact J);(first|(apply Cz (n:=0);(iterate 3 exact J);exact List.cons_ne_nil _ _;(iterate 6 exact J);intro b1;skip)|(apply Bk (enc:=Jz) (xs:=[]);(iterate 7 exact J);exact hx;exact Kn;exact Xz;intro v1;exact QR;omega;exact J;intro A1 c1;skip)))|(apply Aj;exact J;all_goals (intro hc;try simp only [hcS,reduceCtorEq] at hc;try (exfalso;omega))))
   refine Ca rfl rfl rfl (List.Sublist.refl _) ?_
   simp
   rfl
theorem idxFDu_c (h:Ro)(A:Option Addr)(n c:Nat)(l:List DuS)(hx:Cc Hb 3 h A n l)(hn:n≤1000000000)(f:FuncId)(fs cs:List Value)(p:DuS→Bool)(hh:Has Tryz.prog f)
  (hf:∀ x∈l,Val Tryz.prog f (fs++[Yc x.1 x.2]++cs).toArray h (.bool (p x))) :
  Val Tryz.prog 32 #[.slice A n c,.func (.func f) fs.toArray cs.toArray] h (.int .i64 (Jy p l 0)):=by
 refine Az (args:=[_,_]) ts_ok Go.Proofs.Tryz.func32 rfl rfl fun w0 X0 => ?_
 have hlen:=hx.len
 repeat' (first|apply Ac|apply Ak|apply Aa|apply Ab|(apply Ad;(iterate 3 exact J)))
 refine Bt (X:=Nat) (fun k=>k≤n∧Jy p (l.drop k) k=Jy p l 0) (fun k=>n-k) (fun k=>[(8,.int .i64 k),(7,.int .i64 n),(0,.slice A n c),(1,.func (.func f) fs.toArray cs.toArray)]) (fun _=>[]) (fun _=>h) 0 ⟨by omega,rfl⟩ QS QT rfl ?_
 rintro k ⟨hk,hI⟩ ih
 by_cases hkn:k<n
 · have a1:=hx.addrD hkn
   have c1:At h ((addrD A).add (k * Lea.size)) (Hb (l.getD k du0)):=hx.cellsD du0 hkn
   have hd:=Zd du0 hlen hkn
   have hv:=hf _ (mem7 du0 (show k<l.length by omega))
   generalize l.getD k du0=x at *
   repeat' (first|apply Ac|apply Au|apply Ap|apply Ak|apply Aa|apply Ab|(apply Bg;(iterate 3 exact J);omega;exact J;exact J)|(apply Ad;(iterate 3 exact J))|(apply Bd;exact J;exact J;(first|(apply Be (j:=k);(iterate 5 exact J);exact a1;(with_reducible exact J);omega)|(apply Ar;exact J;exact Bh rfl c1 rfl));exact QA)|(apply Af;(iterate 3 exact J);(first|(apply Cd (f:=f) (fs:=fs) (cs:=cs);exact J;exact J;exact hh;exact hv;skip)))|(apply Aj;exact J;all_goals (intro hc;try simp only [hcS,reduceCtorEq] at hc;try (exfalso;omega)))|(apply Bb;(iterate 3 exact J)))
   · rw [← hI,hd,Jy,if_pos hc]
   · have h3:=ih (k+1) ⟨by omega,by rw [← hI,hd,Jy,if_neg (by simp [hc])]⟩ (by omega)
     refine Bw QS QT (h3)
 · repeat' (first|apply Ac|apply Aa|apply Ab|(apply Bn;exact J)|(apply Ad;(iterate 3 exact J))|(apply Aj;exact J;all_goals (intro hc;try simp only [hcS,reduceCtorEq] at hc;try (exfalso;omega)))|(apply Bb;(iterate 3 exact J)))
   rw [← hI,show k=l.length by omega,List.drop_length];rfl
theorem enter1_c (h:Ro)(b2 b3:Nat)(s s':Sli)(d:Bp)(t:Dh)(x:Dm)(c2:At h ⟨b2,0,none⟩ (brC s' t))(c3:At h ⟨b3,0,none⟩ (Jb x))(hl:d.ls.length=s.n) :
  Val Tryz.prog 33 #[Yc s d,.pointer (some ⟨b2,0,none⟩),.pointer (some ⟨b3,0,none⟩)] h (.bool (decide (Py d t x))):=by
 refine Az (args:=[_,_,_]) ts_ok Go.Proofs.Tryz.func33 rfl rfl fun w0 X0 => ?_
 have hw:=waits_c h s d t hl x
 repeat' (first|apply Ac|apply Aa|apply Ab|(apply Ad;(iterate 3 exact J))|(apply Ai;exact J;exact Av rfl QM rfl;exact J;exact J)|(apply Bd;exact J;exact J;(first|(apply Ar;exact J;first|exact Dc rfl c2 rfl|exact Bh rfl c3 rfl));exact QA)|(apply Af;(iterate 3 exact J);(first|(apply Ao;exact J;intro b;skip)|(apply Cd (f:=34) (fs:=[bduV s d t]) (cs:=[]);exact J;exact J;exact has34;exact hw;skip)))|(apply Bb;(iterate 3 exact J)))
 all_goals rfl
theorem Jwa (t:Dh)(x:Dm):∀ (l:List DuS) (k:Nat),Jy (fun p:DuS=>decide (Py p.2 t x)) l k=Nl t x (Ch l) k
 | [],_=>rfl
 | p::r,k=>by
   unfold Jy
   show _=Nl t x (p.2::Ch r) k
   unfold Nl
   by_cases h:Py p.2 t x
   · rw [if_pos h,if_pos (decide_eq_true h)]
   · rw [if_neg h,if_neg (by rw [decide_eq_false h];simp),Jwa t x r]
theorem Mja (h:Ro)(b7 c7 b2 b3 n:Nat)(s:Sli)(t:Dh)(x:Dm)(l:List DuS)(hl:l.length=n)(hn:n≤1000)(hd:∀ p∈l,p.2.ls.length=p.1.n) :
  Fx Tryz.prog 32 #[.slice (some ⟨b7,0,none⟩) n c7,.func (.func 33) #[] #[.pointer (some ⟨b2,0,none⟩),.pointer (some ⟨b3,0,none⟩)]] [By 62 3 (.slice (some ⟨b7,0,none⟩) n c7) n (l.flatMap Hb),Blk b2 30 (brC s t),Blk b3 64 (Jb x)] h (.int .i64 (Nl t x (Ch l) 0)) :=
 Yn fun h1 Ds hl1 ho=>by
  obtain ⟨A,c,e1,e2,hs1⟩:=Iia Jk hl ho
  cases e1
  obtain ⟨Dr,ho2⟩:=Kva ho
  have k2:=Own_blk ho2
  obtain ⟨Dr2,ho3⟩:=Kva ho2
  have k3:=Own_blk ho3
  have:=idxFDu_c h1 _ n c7 l hs1 (by omega) 33 [] [.pointer (some ⟨b2,0,none⟩),.pointer (some ⟨b3,0,none⟩)] (fun p=>decide (Py p.2 t x)) has33 (fun p hp=>enter1_c h1 b2 b3 p.1 s p.2 t x k2 k3 (hd p hp))
  rw [Jwa] at this
  exact this
end Go.Hw
namespace Go.Hw
open Go
attribute [local irreducible] GO GOl GDp Val Fn Res At Fx Blk By Dk Cl Has Yl
open Go.Proofs (Tryz.prog)
theorem Mza {b:FBr}(h:¬ Ms b):Lb b=(0,false,210):=by unfold Lb;rw [if_neg h]
theorem H4a {b:FBr}(h:Ms b)(k:(b.rs.getLastD []).length≠1):Lb b=(0,false,0):=by
 unfold Lb;rw [if_pos h]
 split
 · rename_i d e;rw [e] at k;exact absurd rfl k
 · rfl
theorem Mya {b:FBr}(h:Ms b){d:Bp}(k:b.rs.getLastD []=[d]):Lb b=match Ke d b.t with|none=>(0,false,0)|some c=>(c,true,0):=by
 unfold Lb;rw [if_pos h,k];dsimp only;cases Ke d b.t <;> rfl
theorem Lha {l:List (List Bp)}{n:Nat}(h:l.length=n)(h0:0<n):l.getLastD []=l.getD (n-1) []:=by
 subst h
 rw [List.getLastD_eq_getLast?,List.getLast?_eq_getElem?,List.getD_eq_getElem?_getD]
open Classical in
theorem champ_c (h:Ro)(s:Sli)(l:List RdS)(t:Dh)(hb:Fua h s.A s.n l)(hs:BrSm s l):Res Tryz.prog 14 #[brV s t] h (fun u _=>u=.tuple #[.int .i64 (Lb ⟨t,rounds l⟩).1,.bool (Lb ⟨t,rounds l⟩).2.1,.int .i64 (Lb ⟨t,rounds l⟩).2.2]):=by
 refine Bq (args:=[_]) ts_ok Go.Proofs.Tryz.func14 rfl rfl fun w0 X0 => ?_
 have hck:=fun h' (hl:Le h h')=>Kfa h' s l t (hb.le hl) hs
 by_cases hB:Ms ⟨t,rounds l⟩
 case' neg =>
  simp only [decide_eq_false hB] at hck
  rw [Mza hB]
  dsimp only
  repeat' (first|apply Ac|apply Aa|apply Ab|(apply Ad;(iterate 3 exact J))|(apply Ai;exact J;exact Av rfl QM rfl;exact J;exact J)|(apply Af;(iterate 3 exact J);(first|(apply Ao;exact J;intro b;skip)|(apply Ay;exact J;exact Bya;exact hck _ QL;rintro v2 h2 hle2 rfl;skip)))|(apply Aj;exact J;all_goals (intro hc;try simp only [hcS,reduceCtorEq] at hc;try (exfalso;omega))))
  all_goals first
   | (exfalso;simp at hc;done)
   | (exact Vz rfl rfl rfl rfl rfl rfl)
 simp only [decide_eq_true hB] at hck
 have hlen:=hb.row.len
 have hrow:=hb.row
 have hrl:(rounds l).length=s.n:=by rw [Fh,hlen]
 have h0:0<s.n:=by
  rcases Nat.eq_zero_or_pos s.n with e|e
  · exact absurd (List.eq_nil_of_length_eq_zero (show (rounds l).length=0 by omega)) hB.some
  · exact e
 have hlast:=Lha hrl h0
 have hnn:=hs.few
 have ra:=hrow.addrD (show s.n-1<s.n by omega)
 have rc:At h ((addrD s.A).add ((s.n-1) * ty59.size)) (Jz (l.getD (s.n-1) rd0)):=hrow.cellsD rd0 (show s.n-1<s.n by omega)
 have hRm:=mem7 rd0 (show s.n-1<l.length by omega)
 rw [Kj] at hlast
 have hRa:=hb.each _ hRm
 have hRin:=last_in hB
 dsimp only at hRin
 rw [hlast] at hRin
 have hRok:=hB.rounds _ hRin
 dsimp only at hRok
 have hmany:=H4a hB
 have hone:=fun d=>Mya hB (d:=d)
 dsimp only at hmany hone
 rw [hlast] at hmany hone
 generalize l.getD (s.n-1) rd0=R at *
 have hRl:=hRa.1.row.len
 generalize Lb ⟨t,rounds l⟩=E at *
 by_cases h1:R.1.n=1
 case' neg =>
  rw [hmany (by rw [Em];omega)]
  dsimp only
  clear hmany hone hRok
  repeat' (first|apply Ac|apply Au|apply Aa|apply Ab|(apply Lt;(iterate 3 exact J);omega;exact J;exact J)|(apply Ad;(iterate 3 exact J))|(apply Ai;exact J;exact Av rfl QM rfl;exact J;exact J)|(apply Bd;exact J;exact J;(first|(apply Be (j:=s.n-1) (n:=s.n);(iterate 5 exact J);exact ra;omega;omega)|(apply Ar;exact J;exact Bh rfl (rc.le QL) rfl));exact QA)|(apply Af;(iterate 3 exact J);(first|(apply Ao;exact J;intro b;skip)|(apply Ay;exact J;exact Bya;exact hck _ QL;rintro v2 h2 hle2 rfl;skip)))|(apply Aj;exact J;all_goals (intro hc;try simp only [hcS,reduceCtorEq] at hc;try (exfalso;omega))))
  all_goals first
   | (exfalso;simp at hc;done)
   | (exfalso;omega)
   | (exact Vz rfl rfl rfl rfl rfl rfl)
 have a0:=hRa.1.row.addrD (show 0<R.1.n by omega)
 have c0:At h ((addrD R.1.A).add (0 * Lea.size)) (Hb (R.2.getD 0 du0)):=hRa.1.row.cellsD du0 (show 0<R.1.n by omega)
 have hm0:=mem7 du0 (show 0<R.2.length by omega)
 have hd0:=hRa.1.each _ hm0
 have hl1:Ch R.2=[(R.2.getD 0 du0).2]:=by
  match hR2:R.2,hRl with
  | [p],_=>rfl
  | [],k=>simp at k;omega
  | p::q::r,k=>simp at k;omega
 generalize R.2.getD 0 du0=p at *
 obtain ⟨ps,pd⟩:=p
 dsimp only at hl1
 have hE:=hone pd hl1
 have hdok:=(hRok pd (by rw [hl1];simp)).1
 have hwn:=fun h' (hl:Le h h')=>Ri h' ps pd t ((DuG.of hd0 hdok).le hl)
 clear hmany hone hRok
 cases hwd:Ke pd t with
 | none =>
   rw [hwd] at hE
   dsimp only at hE
   obtain ⟨q,hq⟩:=Ly hwd
   rw [hq] at hwn
   rw [hE]
   dsimp only
   repeat' (first|apply Ac|apply Au|apply Aa|apply Ab|(apply Lt;(iterate 3 exact J);omega;exact J;exact J)|(apply Ad;(iterate 3 exact J))|(apply Ai;exact J;exact Av rfl QM rfl;exact J;exact J)|(apply Bd;exact J;exact J;(first|(apply Be (j:=s.n-1) (n:=s.n);(iterate 5 exact J);exact ra;omega;omega)|(apply Ar;exact J;first|exact Bh rfl (rc.le QL) rfl|exact Bh rfl (c0.le QL) rfl));exact QA)|(apply Af;(iterate 3 exact J);(first|(apply Ao;exact J;intro b;skip)|(apply Ay;exact J;exact Bya;exact hck _ QL;rintro v2 h2 hle2 rfl;skip)))|(apply Bf (n:=6) [0,1,2,3,4,5,6,7,8,10,9,11] [(0,0),(1,0),(2,0),(3,0),(4,0),(5,0),(6,1),(7,0),(8,0),(9,0),(10,0),(11,0)];kernel_rfl)|(apply Ce;exact J;kernel_rfl;(iterate 3 exact J))|(apply Bj;exact J;kernel_rfl;(iterate 3 exact J);exact QM;exact J;exact J)|(apply De;exact J;kernel_rfl;exact J;exact J;(first|(apply Be (j:=0) (n:=R.1.n);(iterate 5 exact J);exact a0;omega;omega)|(apply Ar;exact J;first|exact Bh rfl (rc.le QL) rfl|exact Bh rfl (c0.le QL) rfl));exact QA)|(apply Br;exact J;kernel_rfl;(iterate 3 exact J);(first|(apply Ay;exact J;exact Xn;exact hwn _ QL;rintro v3 h3 hle3 rfl;refine ⟨hle3,QN,?_⟩)))|(apply Bm;kernel_rfl;exact J)|(apply Aj;exact J;all_goals (intro hc;try simp only [hcS,reduceCtorEq] at hc;try (exfalso;omega))))
   all_goals first
    | (exfalso;simp at hc;done)
    | (exfalso;omega)
    | (exact Vz rfl rfl rfl rfl rfl rfl)
 | some w =>
   rw [hwd] at hE
   dsimp only at hE
   rw [Nw hwd] at hwn
   rw [hE]
   dsimp only
   repeat' (first|apply Ac|apply Au|apply Aa|apply Ab|(apply Lt;(iterate 3 exact J);omega;exact J;exact J)|(apply Ad;(iterate 3 exact J))|(apply Ai;exact J;exact Av rfl QM rfl;exact J;exact J)|(apply Bd;exact J;exact J;(first|(apply Be (j:=s.n-1) (n:=s.n);(iterate 5 exact J);exact ra;omega;omega)|(apply Ar;exact J;first|exact Bh rfl (rc.le QL) rfl|exact Bh rfl (c0.le QL) rfl));exact QA)|(apply Af;(iterate 3 exact J);(first|(apply Ao;exact J;intro b;skip)|(apply Ay;exact J;exact Bya;exact hck _ QL;rintro v2 h2 hle2 rfl;skip)))|(apply Bf (n:=6) [0,1,2,3,4,5,6,7,8,10,9,11] [(0,0),(1,0),(2,0),(3,0),(4,0),(5,0),(6,1),(7,0),(8,0),(9,0),(10,0),(11,0)];kernel_rfl)|(apply Ce;exact J;kernel_rfl;(iterate 3 exact J))|(apply Bj;exact J;kernel_rfl;(iterate 3 exact J);exact QM;exact J;exact J)|(apply De;exact J;kernel_rfl;exact J;exact J;(first|(apply Be (j:=0) (n:=R.1.n);(iterate 5 exact J);exact a0;omega;omega)|(apply Ar;exact J;first|exact Bh rfl (rc.le QL) rfl|exact Bh rfl (c0.le QL) rfl));exact QA)|(apply Br;exact J;kernel_rfl;(iterate 3 exact J);(first|(apply Ay;exact J;exact Xn;exact hwn _ QL;rintro v3 h3 hle3 rfl;refine ⟨hle3,QN,?_⟩)))|(apply Bm;kernel_rfl;exact J)|(apply Aj;exact J;all_goals (intro hc;try simp only [hcS,reduceCtorEq] at hc;try (exfalso;omega))))
   all_goals first
    | (exfalso;simp at hc;done)
    | (exfalso;omega)
    | (exact Vz rfl rfl rfl rfl rfl rfl)
theorem Hqa (h:Ro)(s co:Int):Val Tryz.prog 17 #[.slice none 0 0,.int .i64 s,.int .i64 co] h (.tuple #[.agg (Cn ty36.zero).toArray,.bool false]):=by
 refine Az (args:=[_,_,_]) ts_ok Go.Proofs.Tryz.func17 rfl rfl fun w0 X0 => ?_
 repeat' (first|apply Ac|apply Ak|apply Aa|apply Ab|(apply Bn;exact J)|(apply Iva)|(apply Ad;(iterate 3 exact J))|(apply Ai;exact J;exact Av rfl QM rfl;exact J;exact J)|(apply Af;(iterate 3 exact J);(first|(apply Ah;(iterate 3 exact J);exact QR;(iterate 3 exact J);skip)|(apply Ag;exact J;intro b;skip)))|(apply Aj;exact J;all_goals (intro hc;try simp only [hcS,reduceCtorEq] at hc;try (exfalso;omega))))
 all_goals first
  | (exfalso;omega)
  | (first|(apply Ni;(iterate 3 exact J);exact QM;(iterate 3 exact J)))
 all_goals rfl
theorem view0_c (h:Ro)(s co:Int)(t:Dh)(ht:Ik t):Val Tryz.prog 6 #[.slice none 0 0,.int .i64 s,.int .i64 co,Gca t] h (.tuple #[brV Ja tie0,.int .i64 190]):=by
 refine Az (args:=[_,_,_,_]) ts_ok Go.Proofs.Tryz.func6 rfl rfl fun w0 X0 => ?_
 have hr:=Og h t
 rw [decide_eq_true ht] at hr
 have he:=Hqa h s co
 repeat' (first|apply Ac|apply Au|apply Aa|apply Ab|(apply Aw;exact J;exact J)|(apply Ad;(iterate 3 exact J))|(apply Ai;exact J;exact Av rfl QM rfl;exact J;exact J)|(apply Af;(iterate 3 exact J);(first|(apply Ah;(iterate 3 exact J);exact QR;(iterate 3 exact J);skip)|(apply Ao;exact J;intro b;skip)|(apply Ag;exact J;intro b;skip)|(apply Aq;exact J;exact Pw;exact hr;skip)|(apply Aq;exact J;exact has17;exact he;skip)))|(apply Aj;exact J;all_goals (intro hc;try simp only [hcS,reduceCtorEq] at hc;try (exfalso;omega)))|(apply Ba;exact J;exact J;all_goals (intro hc;try simp only [hcS,reduceCtorEq] at hc;try (exfalso;omega))))
 all_goals first
  | (exfalso;simp at hc;done)
  | (exact Ni rfl rfl rfl QM rfl rfl rfl rfl)
  | (fail)
end Go.Hw
