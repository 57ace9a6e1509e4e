import Derived.Test.YtgbamiehiokacaaGreatDoorGB
import Derived.Test.YtgbamiehiokacaaGreatDoorRA
import Derived.Test.YtgbamiehiokacaaGreatDoorGC
import Derived.Test.YtgbamiehiokacaaGreatDoorHwXd
set_option linter.all false
set_option maxRecDepth 100000
set_option maxHeartbeats 4000000
namespace Go.Hw
open Go
attribute [local irreducible] GO GOl GDp Val Fn Res CellsAt ValE Blk OwnS MapA OwnPf Has
open Go.Proofs (Tryz.prog)
theorem Kl (h:Ro)(n:Int):Val Tryz.prog 192 #[.int .i64 n] h (vaV (vaInt n)):=by
 refine Ay (args:=[_]) ts_ok Go.Proofs.Tryz.func192 rfl rfl fun w0 X0 => ?_
 repeat' (first|apply Ac|apply Aa|apply Ab|(apply Ad;(iterate 3 exact J))|(apply Ai;(iterate 3 exact J);(first|(apply Aj;(iterate 3 exact J);exact QR;(iterate 3 exact J);skip)|(apply Ap;exact J;intro b;skip))))
 exact Ct rfl rfl rfl QM rfl rfl rfl
theorem Jo (h:Ro)(A:Option Addr)(n c:Nat):Val Tryz.prog 256 #[.slice A n c] h (vaV (vaList A n c)):=by
 refine Ay (args:=[_]) ts_ok Go.Proofs.Tryz.func256 rfl rfl fun w0 X0 => ?_
 repeat' (first|apply Ac|apply Aa|apply Ab|(apply Ad;(iterate 3 exact J))|(apply Ai;(iterate 3 exact J);(first|(apply Aj;(iterate 3 exact J);exact QR;(iterate 3 exact J);skip)|(apply Ap;exact J;intro b;skip))))
 exact Ct rfl rfl rfl QM rfl rfl rfl
theorem Yy (h:Ro)(s:List UInt8):Val Tryz.prog 258 #[.string (str s)] h (vaV (vaText s)):=by
 refine Ay (args:=[_]) ts_ok Go.Proofs.Tryz.func258 rfl rfl fun w0 X0 => ?_
 repeat' (first|apply Ac|apply Aa|apply Ab|(apply Ad;(iterate 3 exact J))|(apply Ai;(iterate 3 exact J);(first|(apply Aj;(iterate 3 exact J);exact QR;(iterate 3 exact J);skip)|(apply Ap;exact J;intro b;skip))))
 exact Ct rfl rfl rfl QM rfl rfl rfl
theorem Yw (h:Ro)(b:Bool):Val Tryz.prog 261 #[.bool b] h (.int .i64 (if b then 1 else 0)):=by
 refine Ay (args:=[_]) ts_ok Go.Proofs.Tryz.func261 rfl rfl fun w0 X0 => ?_
 repeat' (first|apply Ac|apply Av|apply Aa|apply Ab|(apply Ad;(iterate 3 exact J))|(apply Af;exact J;all_goals (intro hc;try simp only [hcS,reduceCtorEq] at hc;try (exfalso;omega)))|(apply Aw;(iterate 3 exact J)))
 all_goals (subst hc;rfl)
theorem intsR_c (h:Ro)(A:Option Addr)(n c:Nat)(l:List Int)(hx:SlOf encI 1 h A n l)(hn:n≤1000000):Fn Tryz.prog 257 #[.slice A n c] [] h (numsPost l):=by
 refine Bu (args:=[_]) ts_ok Go.Proofs.Tryz.func257 rfl rfl fun w0 X0 => ?_
 have hlen:=hx.len
 repeat' (first|apply Ac|apply Ag|apply Aa|apply Ab|(apply Ad;(iterate 3 exact J))|(apply Ai;(iterate 3 exact J);(first|(apply Aj;(iterate 3 exact J);exact QR;(iterate 3 exact J);skip)|(apply Ap;exact J;intro b;skip))))
 rename_i b2
 generalize b=b3
 refine Dj 192 5 ?_
 refine Bj (X:=Nat×Option Addr×Nat×Ro) (fun x=>x.1≤n∧Le h x.2.2.2) (fun x=>n-x.1)
  (fun x=>[(4,.int .i64 x.1),(0,.slice A n c),(3,.pointer (some ⟨b3,0,none⟩)),(2,.pointer (some ⟨b2,0,none⟩))])
  (fun x=>[Blk b3 192 (vaC (vaList x.2.1 x.1 x.2.2.1)),OwnS 192 5 (.slice x.2.1 x.1 x.2.2.1) x.1 (((l.take x.1).map vaInt).flatMap vaC),Blk b2 192 (vaC va0)]) (fun x=>x.2.2.2) (0,none,0,h) ⟨by dsimp only;omega,Le.refl _⟩ QS QT rfl ?_
 rintro ⟨k,A1,c1,hh⟩ ⟨hk,hle⟩ ih
 dsimp only at hk hle ih ⊢
 by_cases hkn:k<n
 · have a1:=hx.addrD hkn
   have cc:=(hx.cellsD 0 hkn).le hle
   have ht:=Cl 0 hlen hkn
   generalize l.getD k 0=u at *
   repeat' (first|apply Ac|apply Av|apply Ah|apply Ag|apply Aa|apply Ab|(apply Bf;(iterate 3 exact J);omega;exact J;exact J)|(apply Ad;(iterate 3 exact J))|(apply Bd (n:=5) [0,1,2,3,4,5,6,7,8,9,10] [(0,0),(1,0),(2,0),(3,0),(4,0),(5,0),(6,1),(7,1),(8,1),(9,0),(10,1)];kernel_rfl)|(apply Ca;exact J;kernel_rfl;(iterate 3 exact J))|(apply Bo;exact J;kernel_rfl;(iterate 3 exact J);exact QM;exact J;exact J)|(apply Ce;exact J;kernel_rfl;exact J;exact J;(first|(apply Az (j:=k);(iterate 5 exact J);exact a1;(with_reducible exact J);omega)|(apply Aq;exact J;exact Bh rfl cc rfl));exact QA)|(apply Bp;exact J;kernel_rfl;(iterate 3 exact J);(first|(apply Aj;(iterate 3 exact J);exact QR;(iterate 3 exact J);refine ⟨Le.refl _,QN,?_⟩)|(apply At (enc:=vaC) (n:=1) [vaInt u];(iterate 3 exact J);exact List.cons_ne_nil _ _;(iterate 4 exact J);exact Cc;exact J;exact J;intro b1 h1 hle1 hs1;refine ⟨hle1,QN,?_⟩)|(apply Bg (enc:=vaC) (xs:=(l.take k).map vaInt);(iterate 7 exact J);exact hs1;exact Cc;exact Et;intro v1;exact QR;omega;exact J;intro A2 c2;refine ⟨Le.refl _,QN,?_⟩)|(apply Ak;exact J;exact Pp;exact Kl _ _;refine ⟨Le.refl _,QN,?_⟩)))|(apply Bk;kernel_rfl;exact J)|(apply Af;exact J;all_goals (intro hc;try simp only [hcS,reduceCtorEq] at hc;try (exfalso;omega))))
   all_goals
    have h3:=ih (k+1,A2,c2,h1) ⟨by dsimp only;omega,by dsimp only;exact hle.trans hle1⟩ (by dsimp only;omega)
    dsimp only at h3
    rw [ht,List.map_append] at h3
    refine Bn QS QT (h3)
 · rw [List.take_of_length_le (by omega)]
   clear ih
   have hkk:k=l.length:=by omega
   subst hkk
   repeat' (first|apply Ac|apply Aa|apply Ab|(apply Bl;exact J)|(apply Ad;(iterate 3 exact J))|(apply Ao;exact J;exact Bb rfl QM rfl;exact J;exact J)|(apply Ai;(iterate 3 exact J);(first|(apply Aj;(iterate 3 exact J);exact QR;(iterate 3 exact J);skip)))|(apply Af;exact J;all_goals (intro hc;try simp only [hcS,reduceCtorEq] at hc;try (exfalso;omega))))
   exact Iw (rs:=[.cell 2 192]) (vs:=[vaV (vaList A1 l.length c1)]) rfl rfl ⟨⟨_,rfl,Bb rfl QM rfl⟩,trivial⟩ (.cons _ (.cons_cons _ (List.nil_sublist _))) ⟨A1,c1,rfl,rfl⟩
theorem Jp (h:Ro)(A:Option Addr)(n c:Nat)(l:List Int)(hx:SlOf encI 1 h A n l)(hn:n≤1000000):Res Tryz.prog 257 #[.slice A n c] h fun u h'=>∃ A' c',u=vaV (vaList A' l.length c')∧SlOf vaC 5 h' A' l.length (l.map vaInt):=by
 unfold Res
 exact Fn_free (intsR_c h A n c l hx hn) fun v Es h' hle ⟨A',c',e1,e2⟩=>⟨_,_,e2,fun D h'' hl hD=>by
  obtain ⟨A2,c2,e3,hs⟩:=Jz Cc (by simp) hD
  injection e3 with e31 _ e33
  subst e31;subst e33
  exact ⟨rfl,A',c',e1,hs⟩⟩
theorem Hu {d:Nat}(h:Ro)(A:Option Addr)(n c:Nat)(l:List Int)(hx:SlOf encI 1 h A n l)(hn:n≤1000000)(hl:∀ x∈l,I64 x):Res Tryz.prog 257 #[.slice A n c] h (VR (d+2) (bNums l)) :=
 (Jp h A n c l hx hn).mono fun v h' _ ⟨A',c',e1,e2⟩=>⟨_,e1,Sy e2 hl (by have:=hx.len;omega)⟩
theorem Rx {d:Nat}(h:Ro)(g:FGame)(hg:GameI g):Res Tryz.prog 259 #[gameV g] h (VR (d+2) (bNums (gameL g))):=by
 refine Bi (args:=[_]) ts_ok Go.Proofs.Tryz.func259 rfl rfl fun w0 X0 => ?_
 repeat' (first|apply Ac|apply Aa|apply Ab|(apply Ad;(iterate 3 exact J))|(apply Ao;exact J;exact Bb rfl QM rfl;exact J;exact J)|(apply Ai;(iterate 3 exact J);(first|(apply Aj;(iterate 3 exact J);exact QR;(iterate 3 exact J);skip)|(apply Ar;exact J;intro b;skip)|(apply Ap;exact J;intro b;skip)|(apply Bm (cs:=(gameL g).map fun i=>.int .i64 i);(iterate 3 exact J);exact List.cons_ne_nil _ _;(iterate 4 exact J);intro b1 h1 hle1 hcs1;skip)|(apply Ba;exact J;exact Hd;exact Hu (d:=d) _ _ 4 4 (gameL g) (Cx hcs1) (by omega) (Nt hg);rintro v2 h2 hle2 ⟨v,rfl,hv⟩;skip))))
 exact Ci rfl rfl rfl QM rfl rfl ⟨v,rfl,hv⟩
theorem Tm {d:Nat}(h:Ro)(A:Option Addr)(n c:Nat)(l:List FCard)(hx:SlOf encC 2 h A n l)(hn:n≤1000000)(hl:∀ c∈l,I64 c.p):Res Tryz.prog 260 #[.slice A n c] h (VR (d+3) (bCards l)):=by
 refine Bi (args:=[_]) ts_ok Go.Proofs.Tryz.func260 rfl rfl fun w0 X0 => ?_
 have hlen:=hx.len
 repeat' (first|apply Ac|apply Ag|apply Aa|apply Ab|(apply Ad;(iterate 3 exact J))|(apply Ai;(iterate 3 exact J);(first|(apply Aj;(iterate 3 exact J);exact QR;(iterate 3 exact J);skip)|(apply Ap;exact J;intro b;skip)|(apply Ak;exact J;exact Ur;exact Jo _ _ _ _;skip))))
 rename_i b2
 generalize b=b3
 refine Dj 192 5 ?_
 refine Bj (X:=Nat×List Va×Option Addr×Nat×Ro) (fun x=>x.1≤n∧x.2.1.length=x.1∧Le h x.2.2.2.2∧Zip7 (VEnc (d+2) x.2.2.2.2) x.2.1 ((l.take x.1).map fun c=>bNums (cardL c))) (fun x=>n-x.1)
  (fun x=>[(4,.int .i64 x.1),(0,.slice A n c),(3,.pointer (some ⟨b3,0,none⟩)),(2,.pointer (some ⟨b2,0,none⟩))])
  (fun x=>[Blk b3 192 (vaC (vaList x.2.2.1 x.1 x.2.2.2.1)),OwnS 192 5 (.slice x.2.2.1 x.1 x.2.2.2.1) x.1 (x.2.1.flatMap vaC),Blk b2 192 (vaC va0)]) (fun x=>x.2.2.2.2) (0,[],none,0,h) ⟨by dsimp only;omega,rfl,Le.refl _,⟨rfl,fun i a b h1=>by simp at h1⟩⟩ QS QT rfl ?_
 rintro ⟨k,vs,A1,c1,hh⟩ ⟨hk,hvl,hle,hz⟩ ih
 dsimp only at hk hvl hle hz ih ⊢
 by_cases hkn:k<n
 · have a1:=hx.addrD hkn
   have cc:=(hx.cellsD card0 hkn).le hle
   have ht:=Cl card0 hlen hkn
   have hc0:=Sh _ (hl _ (mem7 card0 (show k<l.length by omega)))
   generalize l.getD k card0=u at *
   repeat' (first|apply Ac|apply Av|apply Ah|apply Ag|apply Aa|apply Ab|(apply Bf;(iterate 3 exact J);omega;exact J;exact J)|(apply Ad;(iterate 3 exact J))|(apply Bd (n:=5) [0,1,2,3,4,5,6,7,8,9,10,11,12,13,14,15,16,17,18] [(0,0),(1,0),(2,0),(3,0),(4,0),(5,0),(6,0),(7,0),(8,0),(9,0),(10,0),(11,0),(12,1),(13,1),(14,1),(15,1),(16,1),(17,0),(18,1)];kernel_rfl)|(apply Ca;exact J;kernel_rfl;(iterate 3 exact J))|(apply Bo;exact J;kernel_rfl;(iterate 3 exact J);exact QM;exact J;exact J)|(apply Ce;exact J;kernel_rfl;exact J;exact J;(first|(apply Az (j:=k);(iterate 5 exact J);exact a1;(with_reducible exact J);omega)|(apply Aq;exact J;exact Bh rfl cc rfl)|(apply Aq;exact J;first|exact Bh rfl (by assumption) rfl|exact Bz rfl (by assumption) rfl|exact By rfl (by assumption) rfl|exact Lv_roF3 rfl (by assumption) rfl));exact QA)|(apply Bp;exact J;kernel_rfl;(iterate 3 exact J);(first|(apply Aj;(iterate 3 exact J);exact QR;(iterate 3 exact J);refine ⟨Le.refl _,QN,?_⟩)|(apply Bm (e:=3) (cs:=(cardL u).map fun i=>.int .i64 i);(iterate 3 exact J);exact List.cons_ne_nil _ _;(iterate 4 exact J);intro b1 h1 hle1 hcs1;refine ⟨hle1,QN,?_⟩)|(apply Ba;exact J;exact Hd;exact Hu (d:=d) _ _ 2 2 (cardL u) (Cx hcs1) (by omega) hc0;rintro v2 h2 hle2 ⟨v,rfl,hv⟩;refine ⟨hle2,QN,?_⟩)|(apply At (enc:=vaC) (n:=1) [v];(iterate 3 exact J);exact List.cons_ne_nil _ _;(iterate 4 exact J);exact Cc;exact J;exact J;intro b4 h4 hle4 hs4;refine ⟨hle4,QN,?_⟩)|(apply Bg (enc:=vaC) (xs:=vs);(iterate 7 exact J);exact hs4;exact Cc;exact Et;intro v1;exact QR;omega;exact J;intro A2 c2;refine ⟨Le.refl _,QN,?_⟩)|(apply Ak;exact J;exact has261;exact Yw _ _;refine ⟨Le.refl _,QN,?_⟩)))|(apply Bk;kernel_rfl;exact J)|(apply Af;exact J;all_goals (intro hc;try simp only [hcS,reduceCtorEq] at hc;try (exfalso;omega))))
   all_goals
    have h3:=ih (k+1,vs++[v],A2,c2,h4) ⟨by dsimp only;omega,by simp [hvl],by dsimp only;exact hle.trans QL,by
     dsimp only;rw [ht,List.map_append];exact (hz.imp fun a b q=>q.le QL).snoc (hv.le hle4)⟩ (by dsimp only;omega)
    dsimp only at h3
    refine Bn QS QT (h3)
 · rw [List.take_of_length_le (by omega)] at hz
   clear ih
   have hkk:k=n:=by omega
   subst hkk
   repeat' (first|apply Ac|apply Aa|apply Ab|(apply Bl;exact J)|(apply Ad;(iterate 3 exact J))|(apply Ao;exact J;exact Bb rfl QM rfl;exact J;exact J)|(apply Ai;(iterate 3 exact J);(first|(apply Aj;(iterate 3 exact J);exact QR;(iterate 3 exact J);skip)))|(apply Af;exact J;all_goals (intro hc;try simp only [hcS,reduceCtorEq] at hc;try (exfalso;omega))))
   refine Hl (enc:=vaC) (xs:=vs) Cc hvl QK ?_
   intro A2 c2 h4 hle4 e2 hs4
   injection e2 with e21 _ e23
   subst e21;subst e23
   refine Ci rfl rfl rfl QM rfl rfl ⟨vaList A1 k c1,rfl,?_⟩
   rw [← Qi]
   exact Dk hs4 (hz.imp fun a b q=>q.le hle4) hn
end Go.Hw
namespace Go.Hw
open Go
attribute [local irreducible] GO GOl GDp Val Fn Res CellsAt ValE Blk OwnS MapA OwnPf Has
open Go.Proofs (Tryz.prog)
theorem what1_c (h:Ro)(s:Fsh)(f:Fct)(hf:FAt h s f)(hs:FSm1 f)(e:f.kind=1)(i1:I64 f.eS)(i2:I64 f.eC)(i3:∀ x∈f.eClubs,I64 x):Res Tryz.prog 193 #[factV s f] h (VR 5 (bSeq (elemsB f))):=by
 have hxs:elemsB f=[bInt f.eS,bInt f.eC,bNums f.eClubs,bText f.eRules]:=by unfold elemsB;rw [e];rfl
 rw [hxs]
 refine Bi (args:=[_]) ts_ok Go.Proofs.Tryz.func193 rfl rfl fun w0 X0 => ?_
 obtain ⟨n1,n2,n3,n4,n5,n6⟩:=hf.small1 hs
 repeat' (first|apply Ac|apply Ag|apply Aa|apply Ab|(apply Ad;(iterate 3 exact J))|(apply Ao;exact J;exact Bb rfl QM rfl;exact J;exact J)|(apply Ai;(iterate 3 exact J);(first|(apply Aj;(iterate 3 exact J);exact QR;(iterate 3 exact J);skip)|(apply Ar;exact J;intro b;skip)|(apply Ap;exact J;intro b;skip)))|(apply Bd (n:=4) [0,1,2,3,4,5,6,7,8,9,10,11,12,13,14] [(0,0),(1,0),(3,0),(4,0),(6,0),(7,0),(9,0),(10,0),(2,1),(5,1),(8,1),(11,1),(12,1),(13,1),(14,1)];kernel_rfl)|(apply Ca;exact J;kernel_rfl;(iterate 3 exact J))|(apply Bo;exact J;kernel_rfl;(iterate 3 exact J);exact QM;exact J;exact J)|(apply Bp;exact J;kernel_rfl;(iterate 3 exact J);(first|(apply Aj;(iterate 3 exact J);exact QR;(iterate 3 exact J);refine ⟨Le.refl _,QN,?_⟩)|(apply Ba;exact J;exact Hd;exact Hu (d:=2) _ _ _ _ f.eClubs (hf.cl.le QL) (by omega) i3;rintro wa ha hlea ⟨va,rfl,hva⟩;refine ⟨hlea,QN,?_⟩)|(apply At (enc:=vaC) (n:=4) [vaInt f.eS,vaInt f.eC,va,vaText f.eRules];(iterate 3 exact J);exact List.cons_ne_nil _ _;(iterate 4 exact J);exact Cc;exact J;exact J;intro bz hz hlebz hsl;refine ⟨hlebz,QN,?_⟩)|(apply Ak;exact J;exact Pp;exact Kl _ _;refine ⟨Le.refl _,QN,?_⟩)|(apply Ak;exact J;exact has258;exact Yy _ _;refine ⟨Le.refl _,QN,?_⟩)|(apply Ak;exact J;exact Ur;exact Jo _ _ _ _;refine ⟨Le.refl _,QN,?_⟩)))|(apply Bk;kernel_rfl;exact J)|(apply Af;exact J;all_goals (intro hc;try simp only [hcS,reduceCtorEq] at hc;try (exfalso;omega))))
 all_goals (try (exfalso;omega))
 all_goals
  refine Ci rfl rfl rfl QM rfl rfl ⟨vaList (some ⟨bz,0,none⟩) 4 4,rfl,Dk (hsl) (Zip7.cons (Br i1) (Zip7.cons (Br i2) (Zip7.cons (hva.le QL) (Zip7.cons (Jb) (Zip7.nil))))) (by omega)⟩
theorem what2_c (h:Ro)(s:Fsh)(f:Fct)(hf:FAt h s f)(hs:FSm1 f)(e:f.kind=2)(i1:GameI f.fg)(i2:I64 f.venue):Res Tryz.prog 193 #[factV s f] h (VR 5 (bSeq (elemsB f))):=by
 have hxs:elemsB f=[bNums (gameL f.fg),bInt f.venue]:=by unfold elemsB;rw [e];rfl
 rw [hxs]
 refine Bi (args:=[_]) ts_ok Go.Proofs.Tryz.func193 rfl rfl fun w0 X0 => ?_
 obtain ⟨n1,n2,n3,n4,n5,n6⟩:=hf.small1 hs
 repeat' (first|apply Ac|apply Ag|apply Aa|apply Ab|(apply Ad;(iterate 3 exact J))|(apply Ao;exact J;exact Bb rfl QM rfl;exact J;exact J)|(apply Ai;(iterate 3 exact J);(first|(apply Ar;exact J;intro b;skip)|(apply Ap;exact J;intro b;skip)))|(apply Bd (n:=6) [0,1,2,3,4,5,6,7,8,9,10] [(0,0),(1,0),(2,0),(4,0),(5,0),(6,0),(3,1),(7,1),(8,1),(9,1),(10,1)];kernel_rfl)|(apply Ca;exact J;kernel_rfl;(iterate 3 exact J))|(apply Bo;exact J;kernel_rfl;(iterate 3 exact J);exact QM;exact J;exact J)|(apply Bp;exact J;kernel_rfl;(iterate 3 exact J);(first|(apply Aj;(iterate 3 exact J);exact QR;(iterate 3 exact J);refine ⟨Le.refl _,QN,?_⟩)|(apply Ba;exact J;exact has259;exact Rx (d:=2) _ f.fg i1;rintro wa ha hlea ⟨va,rfl,hva⟩;refine ⟨hlea,QN,?_⟩)|(apply At (enc:=vaC) (n:=2) [va,vaInt f.venue];(iterate 3 exact J);exact List.cons_ne_nil _ _;(iterate 4 exact J);exact Cc;exact J;exact J;intro bz hz hlebz hsl;refine ⟨hlebz,QN,?_⟩)|(apply Ak;exact J;exact Pp;exact Kl _ _;refine ⟨Le.refl _,QN,?_⟩)|(apply Ak;exact J;exact Ur;exact Jo _ _ _ _;refine ⟨Le.refl _,QN,?_⟩)))|(apply Bk;kernel_rfl;exact J)|(apply Af;exact J;all_goals (intro hc;try simp only [hcS,reduceCtorEq] at hc;try (exfalso;omega))))
 all_goals (try (exfalso;omega))
 all_goals
  refine Ci rfl rfl rfl QM rfl rfl ⟨vaList (some ⟨bz,0,none⟩) 2 2,rfl,Dk (hsl) (Zip7.cons (hva.le QL) (Zip7.cons (Br i2) (Zip7.nil))) (by omega)⟩
theorem what3_c (h:Ro)(s:Fsh)(f:Fct)(hf:FAt h s f)(hs:FSm1 f)(e:f.kind=3)(i1:GameI f.sh.g)(i2:∀ x∈[f.sh.ref,f.sh.hg,f.sh.ag,f.sh.hp,f.sh.ap],I64 x)(i3:∀ x∈f.sh.hs,I64 x)(i4:∀ x∈f.sh.asn,I64 x)(i5:∀ c∈f.sh.hc,I64 c.p)(i6:∀ c∈f.sh.ac,I64 c.p):Res Tryz.prog 193 #[factV s f] h (VR 5 (bSeq (elemsB f))):=by
 have hxs:elemsB f=[bNums (gameL f.sh.g),bInt f.sh.ref,bInt f.sh.hg,bInt f.sh.ag,bInt f.sh.hp,bInt f.sh.ap,bNums f.sh.hs,bNums f.sh.asn,bCards f.sh.hc,bCards f.sh.ac]:=by unfold elemsB;rw [e];rfl
 rw [hxs]
 refine Bi (args:=[_]) ts_ok Go.Proofs.Tryz.func193 rfl rfl fun w0 X0 => ?_
 obtain ⟨n1,n2,n3,n4,n5,n6⟩:=hf.small1 hs
 repeat' (first|apply Ac|apply Ag|apply Aa|apply Ab|(apply Ad;(iterate 3 exact J))|(apply Ao;exact J;exact Bb rfl QM rfl;exact J;exact J)|(apply Ai;(iterate 3 exact J);(first|(apply Aj;(iterate 3 exact J);exact QR;(iterate 3 exact J);skip)|(apply Ar;exact J;intro b;skip)|(apply Ap;exact J;intro b;skip)|(apply Bm (e:=3) (cs:=[f.sh.ref,f.sh.hg,f.sh.ag,f.sh.hp,f.sh.ap].map fun i=>.int .i64 i);(iterate 3 exact J);exact List.cons_ne_nil _ _;(iterate 4 exact J);intro bi hi hlei hcs1;skip)|(apply Ba;exact J;exact Hd;exact Jp _ _ 5 5 [f.sh.ref,f.sh.hg,f.sh.ag,f.sh.hp,f.sh.ap] (Cx (hcs1.le QL)) (by omega);rintro wn hn hlen ⟨An,cn,rfl,hsn⟩;skip)))|(apply Bd (n:=10) [0,1,2,3,4,5,6,7,8] [(0,0),(1,0),(4,0),(5,0),(2,1),(3,1),(6,1),(7,0),(8,1)];kernel_rfl)|(apply Bd (n:=11) [0,1,2,3,4,5,6,7,8,9,10,11,12,13,14,15,16,17] [(0,0),(1,0),(2,0),(3,0),(5,0),(6,0),(8,0),(9,0),(11,0),(12,0),(4,1),(7,1),(10,1),(13,1),(14,1),(15,1),(16,0),(17,1)];kernel_rfl)|(apply Ca;exact J;kernel_rfl;(iterate 3 exact J))|(apply Bo;exact J;kernel_rfl;(iterate 3 exact J);exact QM;exact J;exact J)|(apply Bp;exact J;kernel_rfl;(iterate 3 exact J);(first|(apply Aj;(iterate 3 exact J);exact QR;(iterate 3 exact J);refine ⟨Le.refl _,QN,?_⟩)|(apply Ba;exact J;exact has259;exact Rx (d:=2) _ f.sh.g i1;rintro wg hg hleg ⟨vg,rfl,hvg⟩;refine ⟨hleg,QN,?_⟩)|(apply Bq (n:=1);(iterate 3 exact J);exact List.cons_ne_nil _ _;(iterate 6 exact J);intro bo;refine ⟨Le.refl _,QN,?_⟩)|(apply Bg (enc:=vaC) (xs:=[vg]) (ys:=[f.sh.ref,f.sh.hg,f.sh.ag,f.sh.hp,f.sh.ap].map vaInt);(iterate 7 exact J);exact hsn.le QL;exact Cc;exact Et;intro v1;exact QR;(first|omega|simp [vaList]);exact J;intro A2 c2;refine ⟨Le.refl _,QN,?_⟩)|(apply Ba;exact J;exact Hd;exact Hu (d:=2) _ _ _ _ f.sh.hs (hf.sh.hs.le QL) (by omega) i3;rintro wp hp hlep ⟨vp,rfl,hvp⟩;refine ⟨hlep,QN,?_⟩)|(apply Ba;exact J;exact Hd;exact Hu (d:=2) _ _ _ _ f.sh.asn (hf.sh.asn.le QL) (by omega) i4;rintro wq hq hleq ⟨vq,rfl,hvq⟩;refine ⟨hleq,QN,?_⟩)|(apply Ba;exact J;exact has260;exact Tm (d:=1) _ _ _ _ f.sh.hc (hf.sh.hc.le QL) (by omega) i5;rintro wr hr hler ⟨vr,rfl,hvr⟩;refine ⟨hler,QN,?_⟩)|(apply Ba;exact J;exact has260;exact Tm (d:=1) _ _ _ _ f.sh.ac (hf.sh.ac.le QL) (by omega) i6;rintro wt ht hlet ⟨vt,rfl,hvt⟩;refine ⟨hlet,QN,?_⟩)|(apply At (enc:=vaC) (n:=4) [vp,vq,vr,vt];(iterate 3 exact J);exact List.cons_ne_nil _ _;(iterate 4 exact J);exact Cc;exact J;exact J;intro bz hz hlebz hs4;refine ⟨hlebz,QN,?_⟩)|(apply Bg (enc:=vaC) (xs:=[vg]++[f.sh.ref,f.sh.hg,f.sh.ag,f.sh.hp,f.sh.ap].map vaInt) (ys:=[vp,vq,vr,vt]);(iterate 7 exact J);exact hs4.le QL;exact Cc;exact Et;intro v1;exact QR;(first|omega|simp [vaList]);exact J;intro A3 c3;refine ⟨Le.refl _,QN,?_⟩)))|(apply Bk;kernel_rfl;exact J)|(apply Af;exact J;all_goals (intro hc;try simp only [hcS,reduceCtorEq] at hc;try (exfalso;omega))))
 all_goals (try (exfalso;omega))
 all_goals
  refine Hl (enc:=vaC) (xs:=([vg]++[f.sh.ref,f.sh.hg,f.sh.ag,f.sh.hp,f.sh.ap].map vaInt++[vp,vq,vr,vt])) Cc rfl QK ?_
  intro A7 c7 h7 hle7 e7 hsl
  injection e7 with e71 _ e73
  subst e71;subst e73
  refine Ci rfl rfl rfl QM rfl rfl ⟨vaList A3 10 c3,rfl,Dk (hsl) (Zip7.cons (hvg.le QL) (Zip7.cons (Br (i2 _ (by simp))) (Zip7.cons (Br (i2 _ (by simp))) (Zip7.cons (Br (i2 _ (by simp))) (Zip7.cons (Br (i2 _ (by simp))) (Zip7.cons (Br (i2 _ (by simp))) (Zip7.cons (hvp.le QL) (Zip7.cons (hvq.le QL) (Zip7.cons (hvr.le QL) (Zip7.cons (hvt.le QL) (Zip7.nil))))))))))) (by omega)⟩
theorem what4_c (h:Ro)(s:Fsh)(f:Fct)(hf:FAt h s f)(hs:FSm1 f)(e:f.kind=4)(i1:GameI f.ru.g)(i2:∀ x∈[f.ru.case,f.ru.inst,f.ru.kind],I64 x)(i3:∀ x∈[f.ru.club,f.ru.player,f.ru.season,f.ru.comp,f.ru.points,f.ru.amount,f.ru.hg,f.ru.ag,f.ru.lo,f.ru.hi],I64 x):Res Tryz.prog 193 #[factV s f] h (VR 5 (bSeq (elemsB f))):=by
 have hxs:elemsB f=[bInt f.ru.case,bInt f.ru.inst,bInt f.ru.kind,bNums (gameL f.ru.g),bInt f.ru.club,bInt f.ru.player,bInt f.ru.season,bInt f.ru.comp,bInt f.ru.points,bInt f.ru.amount,bInt f.ru.hg,bInt f.ru.ag,bInt f.ru.lo,bInt f.ru.hi]:=by unfold elemsB;rw [e];rfl
 rw [hxs]
 refine Bi (args:=[_]) ts_ok Go.Proofs.Tryz.func193 rfl rfl fun w0 X0 => ?_
 obtain ⟨n1,n2,n3,n4,n5,n6⟩:=hf.small1 hs
 repeat' (first|apply Ac|apply Ag|apply Aa|apply Ab|(apply Ad;(iterate 3 exact J))|(apply Ao;exact J;exact Bb rfl QM rfl;exact J;exact J)|(apply Ai;(iterate 3 exact J);(first|(apply Aj;(iterate 3 exact J);exact QR;(iterate 3 exact J);skip)|(apply Ar;exact J;intro b;skip)|(apply Ap;exact J;intro b;skip)|(apply Bm (e:=3) (cs:=[f.ru.case,f.ru.inst,f.ru.kind].map fun i=>.int .i64 i);(iterate 3 exact J);exact List.cons_ne_nil _ _;(iterate 4 exact J);intro bi hi hlei hcs1;skip)|(apply Bw;exact J;exact Hd;exact intsR_c _ _ 3 3 [f.ru.case,f.ru.inst,f.ru.kind] (Cx (hcs1.le QL)) (by omega);exact QT;rintro wn En hn hlen ⟨An,cn,rfl,rfl⟩;skip)))|(apply Bd (n:=16) [0,1,2,3,4,5,6,7,8] [(0,0),(1,0),(2,0),(3,0),(4,1),(5,1),(6,1),(7,0),(8,1)];kernel_rfl)|(apply Bd (n:=17) [0,1,2,3,4,5,6,7,8,9,10,11,12,13,14,15,16,17,18,19,20,21,22,23,24,25,26,27,28,29] [(0,0),(1,0),(2,0),(3,0),(4,0),(5,0),(6,0),(7,0),(8,0),(9,0),(10,0),(11,0),(12,0),(13,0),(14,0),(15,0),(16,0),(17,0),(18,0),(19,0),(20,0),(21,0),(22,0),(23,0),(24,1),(25,1),(26,0),(27,1),(28,0),(29,1)];kernel_rfl)|(apply Ca;exact J;kernel_rfl;(iterate 3 exact J))|(apply Bo;exact J;kernel_rfl;(iterate 3 exact J);exact QM;exact J;exact J)|(apply Bp;exact J;kernel_rfl;(iterate 3 exact J);(first|(apply Aj;(iterate 3 exact J);exact QR;(iterate 3 exact J);refine ⟨Le.refl _,QN,?_⟩)|(apply Ba;exact J;exact has259;exact Rx (d:=2) _ f.ru.g i1;rintro wg hg hleg ⟨vg,rfl,hvg⟩;refine ⟨hleg,QN,?_⟩)|(apply Bm (e:=3) (cs:=[f.ru.club,f.ru.player,f.ru.season,f.ru.comp,f.ru.points,f.ru.amount,f.ru.hg,f.ru.ag,f.ru.lo,f.ru.hi].map fun i=>.int .i64 i);(iterate 3 exact J);exact List.cons_ne_nil _ _;(iterate 4 exact J);intro bj hj hlej hcs2;refine ⟨hlej,QN,?_⟩)|(apply Ba;exact J;exact Hd;exact Jp _ _ 10 10 [f.ru.club,f.ru.player,f.ru.season,f.ru.comp,f.ru.points,f.ru.amount,f.ru.hg,f.ru.ag,f.ru.lo,f.ru.hi] (Cx (hcs2.le QL)) (by omega);rintro wm hm hlem ⟨Am,cm,rfl,hsm⟩;refine ⟨hlem,QN,?_⟩)|(apply At (enc:=vaC) (n:=1) [vg];(iterate 3 exact J);exact List.cons_ne_nil _ _;(iterate 4 exact J);exact Cc;exact J;exact J;intro bz hz hlebz hs4;refine ⟨hlebz,QN,?_⟩)|(apply Bg (enc:=vaC) (xs:=[f.ru.case,f.ru.inst,f.ru.kind].map vaInt) (ys:=[vg]);(iterate 7 exact J);exact hs4.le QL;exact Cc;exact Et;intro v1;exact QR;(first|omega|simp [vaList]);exact J;intro A2 c2;refine ⟨Le.refl _,QN,?_⟩)|(apply Bg (enc:=vaC) (xs:=[f.ru.case,f.ru.inst,f.ru.kind].map vaInt++[vg]) (ys:=[f.ru.club,f.ru.player,f.ru.season,f.ru.comp,f.ru.points,f.ru.amount,f.ru.hg,f.ru.ag,f.ru.lo,f.ru.hi].map vaInt);(iterate 7 exact J);exact hsm.le QL;exact Cc;exact Et;intro v1;exact QR;(first|omega|simp [vaList]);exact J;intro A3 c3;refine ⟨Le.refl _,QN,?_⟩)))|(apply Bk;kernel_rfl;exact J)|(apply Af;exact J;all_goals (intro hc;try simp only [hcS,reduceCtorEq] at hc;try (exfalso;omega))))
 all_goals (try (exfalso;omega))
 all_goals
  refine Hl (enc:=vaC) (xs:=([f.ru.case,f.ru.inst,f.ru.kind].map vaInt++[vg]++[f.ru.club,f.ru.player,f.ru.season,f.ru.comp,f.ru.points,f.ru.amount,f.ru.hg,f.ru.ag,f.ru.lo,f.ru.hi].map vaInt)) Cc rfl QK ?_
  intro A7 c7 h7 hle7 e7 hsl
  injection e7 with e71 _ e73
  subst e71;subst e73
  refine Ci rfl rfl rfl QM rfl rfl ⟨vaList A3 14 c3,rfl,Dk (hsl) (Zip7.cons (Br (i2 _ (by simp))) (Zip7.cons (Br (i2 _ (by simp))) (Zip7.cons (Br (i2 _ (by simp))) (Zip7.cons (hvg.le QL) (Zip7.cons (Br (i3 _ (by simp))) (Zip7.cons (Br (i3 _ (by simp))) (Zip7.cons (Br (i3 _ (by simp))) (Zip7.cons (Br (i3 _ (by simp))) (Zip7.cons (Br (i3 _ (by simp))) (Zip7.cons (Br (i3 _ (by simp))) (Zip7.cons (Br (i3 _ (by simp))) (Zip7.cons (Br (i3 _ (by simp))) (Zip7.cons (Br (i3 _ (by simp))) (Zip7.cons (Br (i3 _ (by simp))) (Zip7.nil))))))))))))))) (by omega)⟩
theorem what5_c (h:Ro)(s:Fsh)(f:Fct)(hf:FAt h s f)(hs:FSm1 f)(e:f.kind=5)(i1:∀ x∈[f.aCase,f.aInst,if f.aSusp then 1 else 0],I64 x):Res Tryz.prog 193 #[factV s f] h (VR 5 (bSeq (elemsB f))):=by
 have hxs:elemsB f=[bInt f.aCase,bInt f.aInst,bInt (if f.aSusp then 1 else 0)]:=by unfold elemsB;rw [e];rfl
 rw [hxs]
 refine Bi (args:=[_]) ts_ok Go.Proofs.Tryz.func193 rfl rfl fun w0 X0 => ?_
 obtain ⟨n1,n2,n3,n4,n5,n6⟩:=hf.small1 hs
 repeat' (first|apply Ac|apply Ag|apply Aa|apply Ab|(apply Ad;(iterate 3 exact J))|(apply Ao;exact J;exact Bb rfl QM rfl;exact J;exact J)|(apply Ai;(iterate 3 exact J);(first|(apply Ar;exact J;intro b;skip)|(apply Ap;exact J;intro b;skip)))|(apply Bd (n:=20) [0,1,2,3,4,5,6,7,8,9,10,11,12] [(0,0),(1,0),(2,0),(3,0),(4,0),(5,0),(6,0),(7,0),(8,0),(9,1),(10,1),(11,1),(12,1)];kernel_rfl)|(apply Ca;exact J;kernel_rfl;(iterate 3 exact J))|(apply Bo;exact J;kernel_rfl;(iterate 3 exact J);exact QM;exact J;exact J)|(apply Bp;exact J;kernel_rfl;(iterate 3 exact J);(first|(apply Aj;(iterate 3 exact J);exact QR;(iterate 3 exact J);refine ⟨Le.refl _,QN,?_⟩)|(apply Bm (e:=3) (cs:=[f.aCase,f.aInst,if f.aSusp then 1 else 0].map fun i=>.int .i64 i);(iterate 3 exact J);exact List.cons_ne_nil _ _;(iterate 4 exact J);intro bi hi hlei hcs1;refine ⟨hlei,QN,?_⟩)|(apply Ba;exact J;exact Hd;exact Jp _ _ 3 3 [f.aCase,f.aInst,if f.aSusp then 1 else 0] (Cx (hcs1.le QL)) (by omega);rintro wn hn hlen ⟨An,cn,rfl,hsn⟩;refine ⟨hlen,QN,?_⟩)|(apply Ak;exact J;exact has261;exact Yw _ _;refine ⟨Le.refl _,QN,?_⟩)))|(apply Bk;kernel_rfl;exact J)|(apply Af;exact J;all_goals (intro hc;try simp only [hcS,reduceCtorEq] at hc;try (exfalso;omega))))
 all_goals (try (exfalso;omega))
 all_goals
  refine Ci rfl rfl rfl QM rfl rfl ⟨vaList An 3 cn,rfl,Dk (hsn) (Zip7.cons (Br (i1 _ (by simp))) (Zip7.cons (Br (i1 _ (by simp))) (Zip7.cons (Br (i1 _ (by simp))) (Zip7.nil)))) (by omega)⟩
theorem what6_c (h:Ro)(s:Fsh)(f:Fct)(hf:FAt h s f)(hs:FSm1 f)(e:f.kind=6)(i1:I64 f.mP)(i2:I64 f.mTo):Res Tryz.prog 193 #[factV s f] h (VR 5 (bSeq (elemsB f))):=by
 have hxs:elemsB f=[bInt f.mP,bInt f.mTo]:=by unfold elemsB;rw [e];rfl
 rw [hxs]
 refine Bi (args:=[_]) ts_ok Go.Proofs.Tryz.func193 rfl rfl fun w0 X0 => ?_
 obtain ⟨n1,n2,n3,n4,n5,n6⟩:=hf.small1 hs
 repeat' (first|apply Ac|apply Ag|apply Aa|apply Ab|(apply Ad;(iterate 3 exact J))|(apply Ao;exact J;exact Bb rfl QM rfl;exact J;exact J)|(apply Ai;(iterate 3 exact J);(first|(apply Aj;(iterate 3 exact J);exact QR;(iterate 3 exact J);skip)|(apply Ar;exact J;intro b;skip)|(apply Ap;exact J;intro b;skip)|(apply Bm (e:=3) (cs:=[f.mP,f.mTo].map fun i=>.int .i64 i);(iterate 3 exact J);exact List.cons_ne_nil _ _;(iterate 4 exact J);intro bi hi hlei hcs1;skip)|(apply Ba;exact J;exact Hd;exact Jp _ _ 2 2 [f.mP,f.mTo] (Cx (hcs1.le QL)) (by omega);rintro wn hn hlen ⟨An,cn,rfl,hsn⟩;skip)))|(apply Af;exact J;all_goals (intro hc;try simp only [hcS,reduceCtorEq] at hc;try (exfalso;omega))))
 all_goals (try (exfalso;omega))
 all_goals
  refine Ci rfl rfl rfl QM rfl rfl ⟨vaList An 2 cn,rfl,Dk (hsn) (Zip7.cons (Br i1) (Zip7.cons (Br i2) (Zip7.nil))) (by omega)⟩
theorem what7_c (h:Ro)(s:Fsh)(f:Fct)(hf:FAt h s f)(hs:FSm1 f)(e:f.kind=7)(i1:I64 f.lS)(i2:I64 f.lC)(i3:∀ x∈f.lO,I64 x):Res Tryz.prog 193 #[factV s f] h (VR 5 (bSeq (elemsB f))):=by
 have hxs:elemsB f=[bInt f.lS,bInt f.lC,bNums f.lO]:=by unfold elemsB;rw [e];rfl
 rw [hxs]
 refine Bi (args:=[_]) ts_ok Go.Proofs.Tryz.func193 rfl rfl fun w0 X0 => ?_
 obtain ⟨n1,n2,n3,n4,n5,n6⟩:=hf.small1 hs
 repeat' (first|apply Ac|apply Ag|apply Aa|apply Ab|(apply Ad;(iterate 3 exact J))|(apply Ao;exact J;exact Bb rfl QM rfl;exact J;exact J)|(apply Ai;(iterate 3 exact J);(first|(apply Ar;exact J;intro b;skip)|(apply Ap;exact J;intro b;skip)))|(apply Bd (n:=24) [0,1,2,3,4,5,6,7,8,9,10,11,12,13,14] [(0,0),(1,0),(2,0),(4,0),(5,0),(6,0),(8,0),(9,0),(10,0),(3,1),(7,1),(11,1),(12,1),(13,1),(14,1)];kernel_rfl)|(apply Ca;exact J;kernel_rfl;(iterate 3 exact J))|(apply Bo;exact J;kernel_rfl;(iterate 3 exact J);exact QM;exact J;exact J)|(apply Bp;exact J;kernel_rfl;(iterate 3 exact J);(first|(apply Aj;(iterate 3 exact J);exact QR;(iterate 3 exact J);refine ⟨Le.refl _,QN,?_⟩)|(apply Ba;exact J;exact Hd;exact Hu (d:=2) _ _ _ _ f.lO (hf.lo.le QL) (by omega) i3;rintro wa ha hlea ⟨va,rfl,hva⟩;refine ⟨hlea,QN,?_⟩)|(apply At (enc:=vaC) (n:=3) [vaInt f.lS,vaInt f.lC,va];(iterate 3 exact J);exact List.cons_ne_nil _ _;(iterate 4 exact J);exact Cc;exact J;exact J;intro bz hz hlebz hsl;refine ⟨hlebz,QN,?_⟩)|(apply Ak;exact J;exact Pp;exact Kl _ _;refine ⟨Le.refl _,QN,?_⟩)|(apply Ak;exact J;exact Ur;exact Jo _ _ _ _;refine ⟨Le.refl _,QN,?_⟩)))|(apply Bk;kernel_rfl;exact J)|(apply Af;exact J;all_goals (intro hc;try simp only [hcS,reduceCtorEq] at hc;try (exfalso;omega))))
 all_goals (try (exfalso;omega))
 all_goals
  refine Ci rfl rfl rfl QM rfl rfl ⟨vaList (some ⟨bz,0,none⟩) 3 3,rfl,Dk (hsl) (Zip7.cons (Br i1) (Zip7.cons (Br i2) (Zip7.cons (hva.le QL) (Zip7.nil)))) (by omega)⟩
theorem void_sl {h:Ro}{bx:Nat}{s:Fsh}{f:Fct}(hb:CellsAt h ⟨bx,0,none⟩ (partL (factV s f)))(hv:f.void.length=32):SlOf encB 1 h (some ⟨bx,50,none⟩) 32 f.void :=
 SlOf.of_flat (fun _=>rfl) hv (by
  have hb1:CellsAt h ⟨bx,0,none⟩ (factC s f):=hb
  have h8:=hb1.shift 50
  rw [Do,Nat.zero_add] at h8
  rw [← Yv f.void hv];exact h8)
theorem what8_c (h:Ro)(s:Fsh)(f:Fct)(hf:FAt h s f)(hs:FSm1 f)(e:f.kind=8)  : Res Tryz.prog 193 #[factV s f] h (VR 5 (bSeq (elemsB f))):=by
 have hxs:elemsB f=[bText f.void]:=by unfold elemsB;rw [e];rfl
 rw [hxs]
 refine Bi (args:=[_]) ts_ok Go.Proofs.Tryz.func193 rfl rfl fun w0 X0 => ?_
 obtain ⟨n1,n2,n3,n4,n5,n6⟩:=hf.small1 hs
 repeat' (first|apply Ac|apply Av|apply Ah|apply Ag|apply Aa|apply Ab|(have hq9:f.kind≠7:=(by assumption);refine Sr (e:=54) (cs:=partL (factV s f)) QK ?_;intro h7 hle7 hq7;have hvs:=void_sl hq7 hf.void)|(apply Ad;(iterate 3 exact J))|(apply Ao;exact J;exact Bb rfl QM rfl;exact J;exact J)|(apply Be;exact J;exact J;(first|(apply Om;(iterate 4 exact J))|(apply Mh (s:=f.void);(iterate 7 exact J);exact hvs.le QL));exact QA)|(apply Ai;(iterate 3 exact J);(first|(apply Aj;(iterate 3 exact J);exact QR;(iterate 3 exact J);skip)|(apply Ar;exact J;intro b;skip)|(apply Ap;exact J;intro b;skip)|(apply At (enc:=vaC) (n:=1) [vaText f.void];(iterate 3 exact J);exact List.cons_ne_nil _ _;(iterate 4 exact J);exact Cc;exact J;exact J;intro bz hz hlebz hsl;skip)|(apply Ak;exact J;exact has258;exact Yy _ _;skip)|(apply Ak;exact J;exact Ur;exact Jo _ _ _ _;skip)))|(apply Af;exact J;all_goals (intro hc;try simp only [hcS,reduceCtorEq] at hc;try (exfalso;omega))))
 all_goals (try (exfalso;omega))
 all_goals
  refine Ci rfl rfl rfl QM rfl rfl ⟨vaList (some ⟨bz,0,none⟩) 1 1,rfl,Dk (hsl) (Zip7.cons (Jb) (Zip7.nil)) (by omega)⟩
theorem what_c (h:Ro)(s:Fsh)(f:Fct)(hf:FAt h s f)(hs:FSm f)(hok:FctOk f):Res Tryz.prog 193 #[factV s f] h (VR 5 (bSeq (elemsB f))):=by
 have hs:=hok.sm1
 have hco:=hok.2.2.1
 have hk:1≤f.kind∧f.kind≤8:=by
  refine Classical.byContradiction fun hk=>(Ga f hk).2 hco
 have mx:∀ {n m:Int},Bel n m→m≤1000000→I64 n:=fun h1 h2=>Lw h1 (by omega)
 have:f.kind=1∨f.kind=2∨f.kind=3∨f.kind=4∨f.kind=5∨f.kind=6∨f.kind=7∨f.kind=8:=by omega
 have hfz:∀ {n:Int},n=0→I64 n:=fun h=>by subst h;unfold I64;omega
 rcases this with e|e|e|e|e|e|e|e
 · rw [ContOk,if_pos e] at hco
   exact what1_c h s f hf hs e (mx hco.1 (by omega)) (mx hco.2.1 (by omega)) (fun x hx=>mx (hco.2.2.1.2.2 x hx) (by omega))
 · rw [ContOk,if_neg (by omega),if_pos e] at hco
   exact what2_c h s f hf hs e (Fr hco.1) (mx hco.2 (by omega))
 · rw [ContOk,if_neg (by omega),if_neg (by omega),if_pos e] at hco
   obtain ⟨g1,g2,g3,g4,g5,g6,g7,g8,g9,g10⟩:=hco
   refine what3_c h s f hf hs e (Fr g1) ?_ (fun x hx=>mx (g6.2.1 x hx) (by omega)) (fun x hx=>mx (g7.2.1 x hx) (by omega)) (fun c hc=>mx (g6.2.1 _ (g8.2 c hc)) (by omega)) (fun c hc=>mx (g7.2.1 _ (g9.2 c hc)) (by omega))
   intro x hx
   have hp:I64 f.sh.hp∧I64 f.sh.ap:=by
    rcases g5 with ⟨q1,q2⟩|⟨_,q1,q2,_⟩
    · exact ⟨hfz q1,hfz q2⟩
    · exact ⟨mx q1 (by omega),mx q2 (by omega)⟩
   simp only [List.mem_cons,List.not_mem_nil,or_false] at hx
   rcases hx with rfl|rfl|rfl|rfl|rfl
   · exact mx g2 (by omega)
   · exact mx g3 (by omega)
   · exact mx g4 (by omega)
   · exact hp.1
   · exact hp.2
 · rw [ContOk,if_neg (by omega),if_neg (by omega),if_neg (by omega),if_pos e] at hco
   obtain ⟨r1,r2,r3,r4,r5,r6⟩:=hco
   have hI:GameI f.ru.g∧∀ x∈[f.ru.kind,f.ru.club,f.ru.player,f.ru.season,f.ru.comp,f.ru.points,f.ru.amount,f.ru.hg,f.ru.ag,f.ru.lo,f.ru.hi],I64 x:=by
    rw [← r6]
    have z:I64 0:=by unfold I64;omega
    unfold RulGood at r5
    unfold onlyR
    unfold DaysOk Bel at r5
    by_cases k1:f.ru.kind=1
    · rw [if_pos k1] at r5 ⊢;refine ⟨Fr r5.1,fun x hx => ?_⟩
      have:=r5.1;unfold GameOk Bel at this
      simp [rul0] at hx;unfold I64;omega
    rw [if_neg k1] at r5 ⊢
    by_cases k1:f.ru.kind=2
    · rw [if_pos k1] at r5 ⊢;refine ⟨Fr r5,fun x hx => ?_⟩
      simp [rul0] at hx;unfold I64;omega
    rw [if_neg k1] at r5 ⊢
    by_cases k1:f.ru.kind=3
    · rw [if_pos k1] at r5 ⊢;refine ⟨Fr r5.1,fun x hx => ?_⟩
      simp [rul0] at hx;unfold I64;omega
    rw [if_neg k1] at r5 ⊢
    by_cases k1:f.ru.kind=4
    · rw [if_pos k1] at r5 ⊢;refine ⟨Ed,fun x hx => ?_⟩
      simp [rul0] at hx;unfold I64;omega
    rw [if_neg k1] at r5 ⊢
    by_cases k1:f.ru.kind=5
    · rw [if_pos k1] at r5 ⊢;refine ⟨Ed,fun x hx => ?_⟩
      simp [rul0] at hx;unfold I64;omega
    rw [if_neg k1] at r5 ⊢
    by_cases k1:f.ru.kind=6
    · rw [if_pos k1] at r5 ⊢;refine ⟨Ed,fun x hx => ?_⟩
      simp [rul0] at hx;unfold I64;omega
    rw [if_neg k1] at r5 ⊢
    by_cases k1:f.ru.kind=7
    · rw [if_pos k1] at r5 ⊢;refine ⟨Ed,fun x hx => ?_⟩
      simp [rul0] at hx;unfold I64;omega
    rw [if_neg k1] at r5 ⊢
    refine ⟨Ed,fun x hx => ?_⟩
    simp [rul0] at hx;unfold I64;omega
   refine what4_c h s f hf hs e hI.1 (fun x hx => ?_) (fun x hx=>hI.2 x (List.mem_cons_of_mem _ hx))
   simp only [List.mem_cons,List.not_mem_nil,or_false] at hx
   rcases hx with rfl|rfl|rfl
   · unfold I64;omega
   · unfold I64;omega
   · exact hI.2 _ (by simp)
 · rw [ContOk,if_neg (by omega),if_neg (by omega),if_neg (by omega),if_neg (by omega),if_pos e] at hco
   refine what5_c h s f hf hs e fun x hx => ?_
   simp only [List.mem_cons,List.not_mem_nil,or_false] at hx
   rcases hx with rfl|rfl|rfl
   · unfold I64;omega
   · unfold I64;omega
   · unfold I64;split <;> omega
 · rw [ContOk,if_neg (by omega),if_neg (by omega),if_neg (by omega),if_neg (by omega),if_neg (by omega),if_pos e] at hco
   exact what6_c h s f hf hs e (mx hco.1 (by omega)) (by rcases hco.2 with q|q;(rw [q];unfold I64;omega);exact mx q (by omega))
 · rw [ContOk,if_neg (by omega),if_neg (by omega),if_neg (by omega),if_neg (by omega),if_neg (by omega),if_neg (by omega),if_pos e] at hco
   exact what7_c h s f hf hs e (mx hco.1 (by omega)) (mx hco.2.1 (by omega)) (fun x hx=>mx (hco.2.2.1.2.2 x hx) (by omega))
 · exact what8_c h s f hf hs e
end Go.Hw
