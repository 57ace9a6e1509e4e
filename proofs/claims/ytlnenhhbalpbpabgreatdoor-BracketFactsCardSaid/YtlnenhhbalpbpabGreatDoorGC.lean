import Derived.Test.YtlnenhhbalpbpabGreatDoorGB
import Derived.Test.YtlnenhhbalpbpabGreatDoorHC
set_option linter.all false
set_option maxRecDepth 100000
set_option maxHeartbeats 4000000
namespace Go.Hw
open Go
attribute [local irreducible] GO GOl GDp Val Fn Res At Fx Blk By Dk Cl Has Yl
open Go.Proofs (Tryz.prog)
def ER (bs:List UInt8) (u:List Value) (h:Ro):Prop:=∃ v,u=[vaV v]∧Pz 4 h v bs
theorem Gu.nil {α β:Type}{P:α→β→Prop}:Gu P [] []:=⟨rfl,fun i a b h=>by simp at h⟩
theorem Gu.cons {α β:Type}{P:α→β→Prop}{l:List α}{m:List β}{a:α}{b:β}(h:P a b)(z:Gu P l m):Gu P (a::l) (b::m):=by
 refine ⟨by simp [z.1],fun i x y h1 h2 => ?_⟩
 cases i with
 | zero =>
   rw [List.getElem?_cons_zero] at h1 h2
   injection h1 with h1;injection h2 with h2
   subst h1;subst h2;exact h
 | succ i =>
   rw [List.getElem?_cons_succ] at h1 h2
   exact z.2 i x y h1 h2
theorem Oz {α:Type}(d:α){l:List α}{k n:Nat}(hlen:l.length=n)(hk:k<n):l=l.take k++l.getD k d::l.drop (k+1):=by
 rw [← Zd d hlen hk,List.take_append_drop]
theorem Dza (xs:List (List UInt8))(lid:Nat)(I Ix:List (List UInt8)→List Asn→Ro→Prop)(mI:∀ pre Es h1 h2,Le h1 h2→I pre Es h1→I pre Es h2)(h:Ro)
  (hround:∀ pre x post u Es h1,xs=pre++x::post→Le h h1→ER x u h1→I pre Es h1→Yl Tryz.prog lid u Es h1 fun v Es' h'=>(v=.bool true∧I (pre++[x]) Es' h')∨(v=.bool false∧Ix (pre++[x]) Es' h'))
  (A:Option Addr) (n c:Nat) (vs:List Va) (hx:Cc vaC 5 h A n vs) (hz:Gu (Pz 4 h) vs xs) (hn:n≤1000000) (by_:Nat) (hy:At h ⟨by_,0,none⟩ [.func (.yield lid) #[] #[]]) (Es:List Asn) (h0:I [] Es h) :
  Fn Tryz.prog 182 #[.slice A n c,.pointer (some ⟨by_,0,none⟩)] Es h fun v Es' h'=>I xs Es' h'∨∃ pre post,xs=pre++post∧Ix pre Es' h':=by
 refine Bo (args:=[_,_]) ts_ok Go.Proofs.Tryz.func182 rfl rfl fun w0 X0 => ?_
 have hlen:=hx.len
 have hzl:=hz.1
 repeat' (first|apply Ac|apply Ak|apply Aa|apply Ab|(apply Ad;(iterate 3 exact J)))
 refine Lh (X:=Nat×List Asn×Ro) (fun x=>x.1≤n∧Le h x.2.2∧I (xs.take x.1) x.2.1 x.2.2) (fun x=>n-x.1) (fun x=>[(7,.int .i64 x.1),(6,.int .i64 n),(5,.slice A n c),(1,.pointer (some ⟨by_,0,none⟩))])
  (fun x=>x.2.1) (fun x=>x.2.2) (0,Es,h) ⟨by omega,Le.refl _,h0⟩ QS rfl rfl ?_
 rintro ⟨k,Es1,hk⟩ ⟨hkn,hlk,hI⟩ ih
 dsimp only at hkn hlk hI ih ⊢
 by_cases hkn2:k<n
 · have a1:=hx.addrD hkn2
   have c1:=(hx.cellsD va0 hkn2).le hlk
   have et:=Fq [] (xs:=xs) rfl (show k<xs.length by omega)
   have hsplit:=Oz [] (l:=xs) rfl (show k<xs.length by omega)
   have hyk:=hy.le hlk
   have hv:=(hz.2 k _ _ (by simp [List.getD,List.getElem?_eq_getElem (show k<vs.length by omega)]) (by simp [List.getD,List.getElem?_eq_getElem (show k<xs.length by omega)]):Pz 4 h (vs.getD k va0) (xs.getD k []))
   generalize vs.getD k va0=u at *
   have hyl:=hround (xs.take k) (xs.getD k []) (xs.drop (k+1)) [vaV u] Es1 hk hsplit hlk ⟨u,rfl,hv.le hlk⟩ hI
   rw [← et] at hyl
   repeat' (first|apply Ac|apply Au|apply Ap|apply Ak|apply Aa|apply Ab|(apply Bg;(iterate 3 exact J);omega;exact J;exact J)|(apply Ad;(iterate 3 exact J))|(apply Ai;exact J;exact Av rfl QM rfl;exact J;exact J)|(apply Bd;exact J;exact J;(first|(apply Be (j:=k);(iterate 5 exact J);exact a1;(with_reducible exact J);omega)|(apply Ar;exact J;exact Bh rfl c1 rfl)|(apply Ar;exact J;exact Bh rfl hyk rfl));exact QA)|(apply Af;(iterate 3 exact J);(first|(apply Ah;(iterate 3 exact J);exact QR;(iterate 3 exact J);skip)|(apply Ag;exact J;intro b;skip)|(refine Ho (List.perm_append_comm (l₁:=[_])) ?_;apply Iv (Es0:=Es1) (Fs:=[_]);(iterate 3 exact J);exact hyl;rintro v E2 h2 hle2 (⟨rfl,hP⟩|⟨rfl,hP⟩);all_goals skip)))|(apply Aj;exact J;all_goals (intro hc;try simp only [hcS,reduceCtorEq] at hc;try (exfalso;omega))))
   all_goals first
    | (have h3:=ih (k+1,E2,h2) ⟨by show k+1≤n;omega,hlk.trans hle2,hP⟩ (by show n-(k+1)<n-k;omega)
       refine Iy (List.perm_append_comm (l₁:=E2) (l₂:=[_])) (Fv .here ?_)
       exact Hg QS h3)
    | (refine Lu (rs:=[]) (vs:=[]) (Fs:=E2) rfl rfl trivial (List.sublist_append_left _ _) (.inr ⟨xs.take (k+1),xs.drop (k+1),?_,hP⟩)
       rw [List.take_append_drop])
 · rw [List.take_of_length_le (by omega)] at hI
   repeat' (first|apply Ac|apply Aa|apply Ab|(apply Bn;exact J)|(apply Ad;(iterate 3 exact J))|(apply Aj;exact J;all_goals (intro hc;try simp only [hcS,reduceCtorEq] at hc;try (exfalso;omega))))
   exact Fe (rs:=[]) (vs:=[]) rfl rfl trivial (.inl hI)
def Dq (f:Fct):List (List UInt8) :=
 if f.kind=1 then [Fi f.eS,Fi f.eC,Gj f.eClubs,Hf f.eRules]
 else if f.kind=2 then [Gj (Ns f.fg),Fi f.venue]
 else if f.kind=3 then [Gj (Ns f.sh.g),Fi f.sh.ref,Fi f.sh.hg,Fi f.sh.ag,Fi f.sh.hp,Fi f.sh.ap,Gj f.sh.hs,Gj f.sh.asn,Lf f.sh.hc,Lf f.sh.ac]
 else if f.kind=4 then [Fi f.ru.case,Fi f.ru.inst,Fi f.ru.kind,Gj (Ns f.ru.g),Fi f.ru.club,Fi f.ru.player,Fi f.ru.season,Fi f.ru.comp,Fi f.ru.points,Fi f.ru.amount,Fi f.ru.hg,Fi f.ru.ag,Fi f.ru.lo,Fi f.ru.hi]
 else if f.kind=5 then [Fi f.aCase,Fi f.aInst,Fi (if f.aSusp then 1 else 0)]
 else if f.kind=6 then [Fi f.mP,Fi f.mTo]
 else if f.kind=7 then [Fi f.lS,Fi f.lC,Gj f.lO]
 else [Hf f.void]
theorem Apa (f:Fct):(Dq f).flatten=Pm f:=by
 unfold Dq Pm ints
 split
 · simp
 · split
   · simp
   · split
     · simp
     · split
       · simp
       · split
         · simp
         · split
           · simp
           · split
             · simp
             · simp
theorem Cia {n m:Int}(h:Bel n m)(hm:m≤9223372036854775807):I64 n:=by unfold Bel at h;unfold I64;omega
theorem Qf {g:Bl}(h:Fd g):Vo g:=⟨Cia h.1 (by omega),Cia h.2.1 (by omega),Cia h.2.2.1 (by omega),Cia h.2.2.2.1 (by omega)⟩
theorem Ln:Vo Hja:=by unfold Vo Hja I64;simp
theorem el1_c (h:Ro)(s:Fsh)(f:Fct)(hf:FAt h s f)(hs:FSm1 f)(bx:Nat)(hb:At h ⟨bx,0,none⟩ (Dx s f))(e:f.kind=1)(i1:I64 f.eS)(i2:I64 f.eC)(i3:∀ x∈f.eClubs,I64 x):Zg Tryz.prog 181 [.pointer (some ⟨bx,0,none⟩)] ER (Dq f) h:=by
 have hxs:Dq f=[Fi f.eS,Fi f.eC,Gj f.eClubs,Hf f.eRules]:=by unfold Dq;rw [e];rfl
 rw [hxs]
 intro lid I Ix mI mIx hround Es h1 hle h0
 refine Bo (args:=[_,_]) ts_ok Go.Proofs.Tryz.func181 rfl rfl fun w0 X0 => ?_
 have hb1:=hb.le hle
 have hf1:=hf.le hle
 obtain ⟨n1,n2,n3,n4,n5,n6⟩:=hf.small1 hs
 repeat' (first|apply Ac|apply Ap|apply Ak|apply Aa|apply Ab|(apply Ad;(iterate 3 exact J))|(apply Bd;exact J;exact J;(first|(apply Ar;exact J;first|exact Bh rfl (by assumption) rfl|exact Dc rfl (by assumption) rfl|exact Db rfl (by assumption) rfl|exact Lv_roF3 rfl (by assumption) rfl));exact QA)|(apply Af;(iterate 3 exact J);(first|(apply Ao;exact J;intro b;skip)))|(apply Bf (n:=4) [0,1,2,3,4,5,6,7,8,9,10,11,12,13,14,15,16,17,18] [(0,0),(1,0),(2,0),(3,0),(5,0),(6,0),(7,0),(9,0),(10,0),(11,0),(13,0),(14,0),(15,0),(4,1),(8,1),(12,1),(16,1),(17,1),(18,1)];kernel_rfl)|(apply Ce;exact J;kernel_rfl;(iterate 3 exact J))|(apply De;exact J;kernel_rfl;exact J;exact J;(first|(apply Ar;exact J;first|exact Bh rfl (by assumption) rfl|exact Dc rfl (by assumption) rfl|exact Db rfl (by assumption) rfl|exact Lv_roF3 rfl (by assumption) rfl));exact QA)|(apply Br;exact J;kernel_rfl;(iterate 3 exact J);(first|(apply Ay;exact J;exact Oj;exact Tk (d:=2) _ _ _ _ f.eClubs (hf1.cl.le QL) (by omega) i3;rintro wva hva hleva ⟨va,rfl,hvva⟩;refine ⟨hleva,QN,?_⟩)|(apply Bc (enc:=vaC) (n:=4) [Gi f.eS,Gi f.eC,va,Daa f.eRules];(iterate 3 exact J);exact List.cons_ne_nil _ _;(iterate 4 exact J);exact Dw;exact J;exact J;intro bz hz hlez hsl;refine ⟨hlez,QN,?_⟩)|(refine Cq QK ?_;intro h5 hle5 hcy;apply Fj (f:=182) (fs:=[]) (cs:=[.pointer (some ⟨_,0,none⟩)]) (Es0:=Es) (Fs:=[]);exact J;exact J;exact (List.append_nil _).symm;exact Ur;exact Dza _ lid I Ix mI h5 (fun pre x post u Es2 h2 e5 hle2 hr hI=>hround pre x post u Es2 h2 e5 (Le.trans QL hle2) hr hI) _ _ _ _ (hsl.le QL) (Gu.cons (Ct i1) (Gu.cons (Ct i2) (Gu.cons (hvva.le QL) (Gu.cons (C8a) Gu.nil)))) (by omega) _ hcy Es (mI _ _ _ _ QL h0);intro v6 E6 h6 hle6 hp6;refine ⟨hle5.trans hle6,QN,?_⟩)|(apply Aq;exact J;exact Xp;exact G2a _ _;refine ⟨Le.refl _,QN,?_⟩)|(apply Aq;exact J;exact has184;exact textV_c _ _;refine ⟨Le.refl _,QN,?_⟩)))|(apply Bm;kernel_rfl;exact J)|(apply Aj;exact J;all_goals (intro hc;try simp only [hcS,reduceCtorEq] at hc;try (exfalso;omega))))
 all_goals (try (exfalso;omega))
 all_goals
  rw [List.append_nil]
  exact Fe (rs:=[]) (vs:=[]) rfl rfl trivial hp6
theorem el2_c (h:Ro)(s:Fsh)(f:Fct)(hf:FAt h s f)(hs:FSm1 f)(bx:Nat)(hb:At h ⟨bx,0,none⟩ (Dx s f))(e:f.kind=2)(i1:Vo f.fg)(i2:I64 f.venue):Zg Tryz.prog 181 [.pointer (some ⟨bx,0,none⟩)] ER (Dq f) h:=by
 have hxs:Dq f=[Gj (Ns f.fg),Fi f.venue]:=by unfold Dq;rw [e];rfl
 rw [hxs]
 intro lid I Ix mI mIx hround Es h1 hle h0
 refine Bo (args:=[_,_]) ts_ok Go.Proofs.Tryz.func181 rfl rfl fun w0 X0 => ?_
 have hb1:=hb.le hle
 have hf1:=hf.le hle
 obtain ⟨n1,n2,n3,n4,n5,n6⟩:=hf.small1 hs
 repeat' (first|apply Ac|apply Ap|apply Ak|apply Aa|apply Ab|(apply Ad;(iterate 3 exact J))|(apply Bd;exact J;exact J;(first|(apply Ar;exact J;first|exact Bh rfl (by assumption) rfl|exact Dc rfl (by assumption) rfl|exact Db rfl (by assumption) rfl|exact Lv_roF3 rfl (by assumption) rfl));exact QA)|(apply Af;(iterate 3 exact J);(first|(apply Ao;exact J;intro b;skip)))|(apply Bf (n:=6) [0,1,2,3,4,5,6,7,8,9,10] [(0,0),(1,0),(2,0),(3,0),(5,0),(6,0),(7,0),(4,1),(8,1),(9,1),(10,1)];kernel_rfl)|(apply Ce;exact J;kernel_rfl;(iterate 3 exact J))|(apply De;exact J;kernel_rfl;exact J;exact J;(first|(apply Ar;exact J;first|exact Bh rfl (by assumption) rfl|exact Dc rfl (by assumption) rfl|exact Db rfl (by assumption) rfl|exact Lv_roF3 rfl (by assumption) rfl));exact QA)|(apply Br;exact J;kernel_rfl;(iterate 3 exact J);(first|(apply Ay;exact J;exact Jya;exact B2a (d:=2) _ f.fg i1;rintro wva hva hleva ⟨va,rfl,hvva⟩;refine ⟨hleva,QN,?_⟩)|(apply Bc (enc:=vaC) (n:=2) [va,Gi f.venue];(iterate 3 exact J);exact List.cons_ne_nil _ _;(iterate 4 exact J);exact Dw;exact J;exact J;intro bz hz hlez hsl;refine ⟨hlez,QN,?_⟩)|(refine Cq QK ?_;intro h5 hle5 hcy;apply Fj (f:=182) (fs:=[]) (cs:=[.pointer (some ⟨_,0,none⟩)]) (Es0:=Es) (Fs:=[]);exact J;exact J;exact (List.append_nil _).symm;exact Ur;exact Dza _ lid I Ix mI h5 (fun pre x post u Es2 h2 e5 hle2 hr hI=>hround pre x post u Es2 h2 e5 (Le.trans QL hle2) hr hI) _ _ _ _ (hsl.le QL) (Gu.cons (hvva.le QL) (Gu.cons (Ct i2) Gu.nil)) (by omega) _ hcy Es (mI _ _ _ _ QL h0);intro v6 E6 h6 hle6 hp6;refine ⟨hle5.trans hle6,QN,?_⟩)|(apply Aq;exact J;exact Xp;exact G2a _ _;refine ⟨Le.refl _,QN,?_⟩)))|(apply Bm;kernel_rfl;exact J)|(apply Aj;exact J;all_goals (intro hc;try simp only [hcS,reduceCtorEq] at hc;try (exfalso;omega))))
 all_goals (try (exfalso;omega))
 all_goals
  rw [List.append_nil]
  exact Fe (rs:=[]) (vs:=[]) rfl rfl trivial hp6
theorem el6_c (h:Ro)(s:Fsh)(f:Fct)(hf:FAt h s f)(hs:FSm1 f)(bx:Nat)(hb:At h ⟨bx,0,none⟩ (Dx s f))(e:f.kind=6)(i1:I64 f.mP)(i2:I64 f.mTo):Zg Tryz.prog 181 [.pointer (some ⟨bx,0,none⟩)] ER (Dq f) h:=by
 have hxs:Dq f=[Fi f.mP,Fi f.mTo]:=by unfold Dq;rw [e];rfl
 rw [hxs]
 intro lid I Ix mI mIx hround Es h1 hle h0
 refine Bo (args:=[_,_]) ts_ok Go.Proofs.Tryz.func181 rfl rfl fun w0 X0 => ?_
 have hb1:=hb.le hle
 have hf1:=hf.le hle
 obtain ⟨n1,n2,n3,n4,n5,n6⟩:=hf.small1 hs
 repeat' (first|apply Ac|apply Ap|apply Ak|apply Aa|apply Ab|(apply Ad;(iterate 3 exact J))|(apply Bd;exact J;exact J;(first|(apply Ar;exact J;first|exact Bh rfl (by assumption) rfl|exact Dc rfl (by assumption) rfl|exact Db rfl (by assumption) rfl|exact Lv_roF3 rfl (by assumption) rfl));exact QA)|(apply Af;(iterate 3 exact J);(first|(apply Ao;exact J;intro b;skip)))|(apply Bf (n:=17) [0,1,2,3,4,5,6,7,8,9,10] [(0,0),(1,0),(2,0),(3,0),(5,0),(6,0),(7,0),(4,1),(8,1),(9,1),(10,1)];kernel_rfl)|(apply Ce;exact J;kernel_rfl;(iterate 3 exact J))|(apply De;exact J;kernel_rfl;exact J;exact J;(first|(apply Ar;exact J;first|exact Bh rfl (by assumption) rfl|exact Dc rfl (by assumption) rfl|exact Db rfl (by assumption) rfl|exact Lv_roF3 rfl (by assumption) rfl));exact QA)|(apply Br;exact J;kernel_rfl;(iterate 3 exact J);(first|(apply Bc (enc:=vaC) (n:=2) [Gi f.mP,Gi f.mTo];(iterate 3 exact J);exact List.cons_ne_nil _ _;(iterate 4 exact J);exact Dw;exact J;exact J;intro bz hz hlez hsl;refine ⟨hlez,QN,?_⟩)|(refine Cq QK ?_;intro h5 hle5 hcy;apply Fj (f:=182) (fs:=[]) (cs:=[.pointer (some ⟨_,0,none⟩)]) (Es0:=Es) (Fs:=[]);exact J;exact J;exact (List.append_nil _).symm;exact Ur;exact Dza _ lid I Ix mI h5 (fun pre x post u Es2 h2 e5 hle2 hr hI=>hround pre x post u Es2 h2 e5 (Le.trans QL hle2) hr hI) _ _ _ _ (hsl.le QL) (Gu.cons (Ct i1) (Gu.cons (Ct i2) Gu.nil)) (by omega) _ hcy Es (mI _ _ _ _ QL h0);intro v6 E6 h6 hle6 hp6;refine ⟨hle5.trans hle6,QN,?_⟩)|(apply Aq;exact J;exact Xp;exact G2a _ _;refine ⟨Le.refl _,QN,?_⟩)))|(apply Bm;kernel_rfl;exact J)|(apply Aj;exact J;all_goals (intro hc;try simp only [hcS,reduceCtorEq] at hc;try (exfalso;omega))))
 all_goals (try (exfalso;omega))
 all_goals
  rw [List.append_nil]
  exact Fe (rs:=[]) (vs:=[]) rfl rfl trivial hp6
theorem el7_c (h:Ro)(s:Fsh)(f:Fct)(hf:FAt h s f)(hs:FSm1 f)(bx:Nat)(hb:At h ⟨bx,0,none⟩ (Dx s f))(e:f.kind=7)(i1:I64 f.lS)(i2:I64 f.lC)(i3:∀ x∈f.lO,I64 x):Zg Tryz.prog 181 [.pointer (some ⟨bx,0,none⟩)] ER (Dq f) h:=by
 have hxs:Dq f=[Fi f.lS,Fi f.lC,Gj f.lO]:=by unfold Dq;rw [e];rfl
 rw [hxs]
 intro lid I Ix mI mIx hround Es h1 hle h0
 refine Bo (args:=[_,_]) ts_ok Go.Proofs.Tryz.func181 rfl rfl fun w0 X0 => ?_
 have hb1:=hb.le hle
 have hf1:=hf.le hle
 obtain ⟨n1,n2,n3,n4,n5,n6⟩:=hf.small1 hs
 repeat' (first|apply Ac|apply Ap|apply Ak|apply Aa|apply Ab|(apply Ad;(iterate 3 exact J))|(apply Bd;exact J;exact J;(first|(apply Ar;exact J;first|exact Bh rfl (by assumption) rfl|exact Dc rfl (by assumption) rfl|exact Db rfl (by assumption) rfl|exact Lv_roF3 rfl (by assumption) rfl));exact QA)|(apply Af;(iterate 3 exact J);(first|(apply Ao;exact J;intro b;skip)))|(apply Bf (n:=19) [0,1,2,3,4,5,6,7,8,9,10,11,12,13,14] [(0,0),(1,0),(2,0),(3,0),(5,0),(6,0),(7,0),(9,0),(10,0),(11,0),(4,1),(8,1),(12,1),(13,1),(14,1)];kernel_rfl)|(apply Ce;exact J;kernel_rfl;(iterate 3 exact J))|(apply De;exact J;kernel_rfl;exact J;exact J;(first|(apply Ar;exact J;first|exact Bh rfl (by assumption) rfl|exact Dc rfl (by assumption) rfl|exact Db rfl (by assumption) rfl|exact Lv_roF3 rfl (by assumption) rfl));exact QA)|(apply Br;exact J;kernel_rfl;(iterate 3 exact J);(first|(apply Ay;exact J;exact Oj;exact Tk (d:=2) _ _ _ _ f.lO (hf1.lo.le QL) (by omega) i3;rintro wva hva hleva ⟨va,rfl,hvva⟩;refine ⟨hleva,QN,?_⟩)|(apply Bc (enc:=vaC) (n:=3) [Gi f.lS,Gi f.lC,va];(iterate 3 exact J);exact List.cons_ne_nil _ _;(iterate 4 exact J);exact Dw;exact J;exact J;intro bz hz hlez hsl;refine ⟨hlez,QN,?_⟩)|(refine Cq QK ?_;intro h5 hle5 hcy;apply Fj (f:=182) (fs:=[]) (cs:=[.pointer (some ⟨_,0,none⟩)]) (Es0:=Es) (Fs:=[]);exact J;exact J;exact (List.append_nil _).symm;exact Ur;exact Dza _ lid I Ix mI h5 (fun pre x post u Es2 h2 e5 hle2 hr hI=>hround pre x post u Es2 h2 e5 (Le.trans QL hle2) hr hI) _ _ _ _ (hsl.le QL) (Gu.cons (Ct i1) (Gu.cons (Ct i2) (Gu.cons (hvva.le QL) Gu.nil))) (by omega) _ hcy Es (mI _ _ _ _ QL h0);intro v6 E6 h6 hle6 hp6;refine ⟨hle5.trans hle6,QN,?_⟩)|(apply Aq;exact J;exact Xp;exact G2a _ _;refine ⟨Le.refl _,QN,?_⟩)))|(apply Bm;kernel_rfl;exact J)|(apply Aj;exact J;all_goals (intro hc;try simp only [hcS,reduceCtorEq] at hc;try (exfalso;omega))))
 all_goals (try (exfalso;omega))
 all_goals
  rw [List.append_nil]
  exact Fe (rs:=[]) (vs:=[]) rfl rfl trivial hp6
theorem Lsa:∀ (v:List UInt8),v=(List.range v.length).map (fun i=>v.getD i 0):=fun v=>by
 apply List.ext_getElem (by simp)
 intro i h1 h2
 simp [List.getD,List.getElem?_eq_getElem h1]
theorem voidC_eq (v:List UInt8)(hv:v.length=32):C7a v=v.flatMap Il:=by
 have e:C7a v=(List.range 32).map (vB v):=rfl
 rw [e,Is]
 conv=>rhs;rw [Lsa v,hv,List.map_map]
 rfl
theorem el5_c (h:Ro)(s:Fsh)(f:Fct)(hf:FAt h s f)(hs:FSm1 f)(bx:Nat)(hb:At h ⟨bx,0,none⟩ (Dx s f))(e:f.kind=5)(i1:∀ x∈[f.aCase,f.aInst,if f.aSusp then 1 else 0],I64 x):Zg Tryz.prog 181 [.pointer (some ⟨bx,0,none⟩)] ER (Dq f) h:=by
 have hxs:Dq f=[Fi f.aCase,Fi f.aInst,Fi (if f.aSusp then 1 else 0)]:=by unfold Dq;rw [e];rfl
 rw [hxs]
 intro lid I Ix mI mIx hround Es h1 hle h0
 refine Bo (args:=[_,_]) ts_ok Go.Proofs.Tryz.func181 rfl rfl fun w0 X0 => ?_
 have hb1:=hb.le hle
 have hf1:=hf.le hle
 obtain ⟨n1,n2,n3,n4,n5,n6⟩:=hf.small1 hs
 repeat' (first|apply Ac|apply Ap|apply Ak|apply Aa|apply Ab|(apply Ad;(iterate 3 exact J))|(apply Bd;exact J;exact J;(first|(apply Ar;exact J;first|exact Bh rfl (by assumption) rfl|exact Dc rfl (by assumption) rfl|exact Db rfl (by assumption) rfl|exact Lv_roF3 rfl (by assumption) rfl));exact QA)|(apply Af;(iterate 3 exact J);(first|(apply Ao;exact J;intro b;skip)))|(apply Bf (n:=15) [0,1,2,3,4,5,6,7,8,9,10,11,12,13,14] [(0,0),(1,0),(2,0),(3,0),(4,0),(5,0),(6,0),(7,0),(8,0),(9,0),(10,1),(11,1),(12,1),(13,0),(14,1)];kernel_rfl)|(apply Ce;exact J;kernel_rfl;(iterate 3 exact J))|(apply De;exact J;kernel_rfl;exact J;exact J;(first|(apply Ar;exact J;first|exact Bh rfl (by assumption) rfl|exact Dc rfl (by assumption) rfl|exact Db rfl (by assumption) rfl|exact Lv_roF3 rfl (by assumption) rfl));exact QA)|(apply Br;exact J;kernel_rfl;(iterate 3 exact J);(first|(apply Bu (e:=3) (cs:=[f.aCase,f.aInst,if f.aSusp then 1 else 0].map fun i=>.int .i64 i);(iterate 3 exact J);exact List.cons_ne_nil _ _;(iterate 4 exact J);intro bi hi hlei hcs1;refine ⟨hlei,QN,?_⟩)|(apply Ay;exact J;exact Oj;exact Xb _ _ 3 3 [f.aCase,f.aInst,if f.aSusp then 1 else 0] (Gv (hcs1.le QL)) (by omega);rintro wn hn hlen ⟨An,cn,rfl,hsl⟩;refine ⟨hlen,QN,?_⟩)|(refine Cq QK ?_;intro h5 hle5 hcy;apply Fj (f:=182) (fs:=[]) (cs:=[.pointer (some ⟨_,0,none⟩)]) (Es0:=Es) (Fs:=[]);exact J;exact J;exact (List.append_nil _).symm;exact Ur;exact Dza _ lid I Ix mI h5 (fun pre x post u Es2 h2 e5 hle2 hr hI=>hround pre x post u Es2 h2 e5 (Le.trans QL hle2) hr hI) _ _ _ ([f.aCase,f.aInst,if f.aSusp then 1 else 0].map Gi) (hsl.le QL) (I2a i1) (by simp) _ hcy Es (mI _ _ _ _ QL h0);intro v6 E6 h6 hle6 hp6;refine ⟨(by repeat (first|assumption|(apply Le.trans;assumption))),QN,?_⟩)|(apply Aq;exact J;exact has187;exact truth_c _ _;refine ⟨Le.refl _,QN,?_⟩)))|(apply Bm;kernel_rfl;exact J)|(apply Aj;exact J;all_goals (intro hc;try simp only [hcS,reduceCtorEq] at hc;try (exfalso;omega))))
 all_goals (try (exfalso;omega))
 all_goals
  rw [List.append_nil]
  exact Fe (rs:=[]) (vs:=[]) rfl rfl trivial hp6
theorem el8_c (h:Ro)(s:Fsh)(f:Fct)(hf:FAt h s f)(hs:FSm1 f)(bx:Nat)(hb:At h ⟨bx,0,none⟩ (Dx s f))(e:f.kind=8)  : Zg Tryz.prog 181 [.pointer (some ⟨bx,0,none⟩)] ER (Dq f) h:=by
 have hxs:Dq f=[Hf f.void]:=by unfold Dq;rw [e];rfl
 rw [hxs]
 intro lid I Ix mI mIx hround Es h1 hle h0
 refine Bo (args:=[_,_]) ts_ok Go.Proofs.Tryz.func181 rfl rfl fun w0 X0 => ?_
 have hb1:=hb.le hle
 have hf1:=hf.le hle
 have hvs:Cc Il 1 h1 (some ⟨bx,50,none⟩) 32 f.void:=Cc.of_flat (fun _=>rfl) hf.void (by
  have:=hb1.shift 50
  rw [Fu,Nat.zero_add] at this
  rw [← voidC_eq f.void hf.void];exact this)
 repeat' (first|apply Ac|apply Ap|apply Ak|apply Aa|apply Ab|(apply Ad;(iterate 3 exact J))|(apply Bd;exact J;exact J;(first|(apply Ina;(iterate 4 exact J))|(apply OV_strOf (s:=f.void);(iterate 7 exact J);exact hvs.le QL)|(apply Ar;exact J;first|exact Bh rfl (by assumption) rfl|exact Dc rfl (by assumption) rfl|exact Db rfl (by assumption) rfl|exact Lv_roF3 rfl (by assumption) rfl));exact QA)|(apply Af;(iterate 3 exact J);(first|(apply Ao;exact J;intro b;skip)|(apply Bc (enc:=vaC) (n:=1) [Daa f.void];(iterate 3 exact J);exact List.cons_ne_nil _ _;(iterate 4 exact J);exact Dw;exact J;exact J;intro bz hz hlez hsl;skip)|(refine Cq QK ?_;intro h5 hle5 hcy;apply Fj (f:=182) (fs:=[]) (cs:=[.pointer (some ⟨_,0,none⟩)]) (Es0:=Es) (Fs:=[]);exact J;exact J;exact (List.append_nil _).symm;exact Ur;exact Dza _ lid I Ix mI h5 (fun pre x post u Es2 h2 e5 hle2 hr hI=>hround pre x post u Es2 h2 e5 (Le.trans QL hle2) hr hI) _ _ _ [Daa f.void] (hsl.le QL) (Gu.cons (C8a) Gu.nil) (by simp) _ hcy Es (mI _ _ _ _ QL h0);intro v6 E6 h6 hle6 hp6;skip)|(apply Aq;exact J;exact has184;exact textV_c _ _;skip)))|(apply Aj;exact J;all_goals (intro hc;try simp only [hcS,reduceCtorEq] at hc;try (exfalso;omega))))
 all_goals (try (exfalso;omega))
 all_goals
  rw [List.append_nil]
  exact Fe (rs:=[]) (vs:=[]) rfl rfl trivial hp6
theorem el3_c (h:Ro)(s:Fsh)(f:Fct)(hf:FAt h s f)(hs:FSm1 f)(bx:Nat)(hb:At h ⟨bx,0,none⟩ (Dx s f))(e:f.kind=3)(i1:Vo f.sh.g)(i2:∀ x∈[f.sh.ref,f.sh.hg,f.sh.ag,f.sh.hp,f.sh.ap],I64 x)(i3:∀ x∈f.sh.hs,I64 x)(i4:∀ x∈f.sh.asn,I64 x)(i5:∀ c∈f.sh.hc,I64 c.p)(i6:∀ c∈f.sh.ac,I64 c.p):Zg Tryz.prog 181 [.pointer (some ⟨bx,0,none⟩)] ER (Dq f) h:=by
 have hxs:Dq f=[Gj (Ns f.sh.g),Fi f.sh.ref,Fi f.sh.hg,Fi f.sh.ag,Fi f.sh.hp,Fi f.sh.ap,Gj f.sh.hs,Gj f.sh.asn,Lf f.sh.hc,Lf f.sh.ac]:=by unfold Dq;rw [e];rfl
 rw [hxs]
 intro lid I Ix mI mIx hround Es h1 hle h0
 refine Bo (args:=[_,_]) ts_ok Go.Proofs.Tryz.func181 rfl rfl fun w0 X0 => ?_
 have hb1:=hb.le hle
 have hf1:=hf.le hle
 obtain ⟨n1,n2,n3,n4,n5,n6⟩:=hf.small1 hs
 repeat' (first|apply Ac|apply Ap|apply Ak|apply Aa|apply Ab|(apply Ad;(iterate 3 exact J))|(apply Bd;exact J;exact J;(first|(apply Ar;exact J;first|exact Bh rfl (by assumption) rfl|exact Dc rfl (by assumption) rfl|exact Db rfl (by assumption) rfl|exact Lv_roF3 rfl (by assumption) rfl));exact QA)|(apply Af;(iterate 3 exact J);(first|(apply Ah;(iterate 3 exact J);exact QR;(iterate 3 exact J);skip)|(apply Ao;exact J;intro b;skip)|(apply Ag;exact J;intro b;skip)))|(apply Bf (n:=9) [0,1,2,3,4,5,6,7,8,9,10,11,12,13,14,15,16,17,18,19,20,21,22,23,24,25,26,27,28,29,30,31,32,33] [(0,0),(1,0),(2,0),(5,0),(6,0),(7,0),(8,0),(9,0),(10,0),(11,0),(12,0),(13,0),(14,0),(19,0),(20,0),(22,0),(23,0),(25,0),(26,0),(28,0),(29,0),(3,2),(35,15),(4,2),(11,15),(15,1),(16,1),(17,0),(18,1),(21,1),(24,1),(27,1),(30,1),(31,1),(32,1),(33,1),(4,2),(10,16),(16,1),(17,0),(18,1),(21,1),(24,1),(27,1),(30,1),(31,1),(32,1),(33,1),(17,0),(4,1),(18,1),(21,1),(24,1),(27,1),(30,1),(31,1),(32,1),(33,1),(3,1),(4,2),(10,16),(16,1),(17,0),(18,1),(21,1),(24,1),(27,1),(30,1),(31,1),(32,1),(33,1),(17,0),(4,1),(18,1),(21,1),(24,1),(27,1),(30,1),(31,1),(32,1),(33,1)];kernel_rfl)|(apply Ce;exact J;kernel_rfl;(iterate 3 exact J))|(apply Bj;exact J;kernel_rfl;(iterate 3 exact J);exact QM;exact J;exact J)|(apply Br;exact J;kernel_rfl;(iterate 3 exact J);(first|(apply Ay;exact J;exact Jya;exact B2a (d:=2) _ f.sh.g i1;rintro wvg hvg hlevg ⟨vg,rfl,hvvg⟩;refine ⟨hlevg,QN,?_⟩)|(apply Bu (e:=3) (cs:=[f.sh.ref,f.sh.hg,f.sh.ag,f.sh.hp,f.sh.ap].map fun i=>.int .i64 i);(iterate 3 exact J);exact List.cons_ne_nil _ _;(iterate 4 exact J);intro bi hi hlei hcs1;refine ⟨hlei,QN,?_⟩)|(apply Ay;exact J;exact Oj;exact Xb _ _ 5 5 [f.sh.ref,f.sh.hg,f.sh.ag,f.sh.hp,f.sh.ap] (Gv (hcs1.le QL)) (by omega);rintro wn hn hlen ⟨An,cn,rfl,hsn⟩;refine ⟨hlen,QN,?_⟩)|(apply Ay;exact J;exact Oj;exact Tk (d:=2) _ _ _ _ f.sh.hs (hf1.sh.hs.le QL) (by omega) i3;rintro wp hp hlep ⟨vp,rfl,hvp⟩;refine ⟨hlep,QN,?_⟩)|(apply Ay;exact J;exact Oj;exact Tk (d:=2) _ _ _ _ f.sh.asn (hf1.sh.asn.le QL) (by omega) i4;rintro wq hq hleq ⟨vq,rfl,hvq⟩;refine ⟨hleq,QN,?_⟩)|(apply Ay;exact J;exact has186;exact shown_c (d:=1) _ _ _ _ f.sh.hc (hf1.sh.hc.le QL) (by omega) i5;rintro wr hr hler ⟨vr,rfl,hvr⟩;refine ⟨hler,QN,?_⟩)|(apply Ay;exact J;exact has186;exact shown_c (d:=1) _ _ _ _ f.sh.ac (hf1.sh.ac.le QL) (by omega) i6;rintro wt ht hlet ⟨vt,rfl,hvt⟩;refine ⟨hlet,QN,?_⟩)|(apply Bc (enc:=vaC) (n:=4) [vp,vq,vr,vt];(iterate 3 exact J);exact List.cons_ne_nil _ _;(iterate 4 exact J);exact Dw;exact J;exact J;intro bz hz hlez hs4;refine ⟨hlez,QN,?_⟩)|(apply Cz (n:=1);(iterate 3 exact J);exact List.cons_ne_nil _ _;(iterate 6 exact J);intro bo;refine ⟨Le.refl _,QN,?_⟩)|(apply Bk (enc:=vaC) (xs:=[vg]) (ys:=[f.sh.ref,f.sh.hg,f.sh.ag,f.sh.hp,f.sh.ap].map Gi);(iterate 7 exact J);exact hsn.le QL;exact Dw;exact Qm;intro v1;exact QR;(first|omega|simp [Jt]);exact J;intro A2 c2;refine ⟨Le.refl _,QN,?_⟩)|(apply Bk (enc:=vaC) (xs:=[vg]++[f.sh.ref,f.sh.hg,f.sh.ag,f.sh.hp,f.sh.ap].map Gi) (ys:=[vp,vq,vr,vt]);(iterate 7 exact J);exact hs4.le QL;exact Dw;exact Qm;intro v1;exact QR;(first|omega|simp [Jt]);exact J;intro A2 c2;refine ⟨Le.refl _,QN,?_⟩)|(refine Su (enc:=vaC) (xs:=([vg]++[f.sh.ref,f.sh.hg,f.sh.ag,f.sh.hp,f.sh.ap].map Gi++[vp,vq,vr,vt])) Dw rfl QK ?_;intro A7 c7 h7 hle7 e7 hnc7 hsl;injection e7 with e71 _ e73;subst e71;subst e73;refine Cq QK ?_;intro h8 hle8 _;refine Cq QK ?_;intro h5 hle5 hcy;apply Fj (f:=182) (fs:=[]) (cs:=[.pointer (some ⟨_,0,none⟩)]) (Es0:=Es) (Fs:=[]);exact J;exact J;exact (List.append_nil _).symm;exact Ur;exact Dza _ lid I Ix mI h5 (fun pre x post u Es2 h2 e5 hle2 hr hI=>hround pre x post u Es2 h2 e5 (Le.trans QL hle2) hr hI) _ _ _ ([vg]++[f.sh.ref,f.sh.hg,f.sh.ag,f.sh.hp,f.sh.ap].map Gi++[vp,vq,vr,vt]) (hsl.le QL) (Gu.cons (hvvg.le QL) (Gu.cons (Ct (i2 _ (by simp))) (Gu.cons (Ct (i2 _ (by simp))) (Gu.cons (Ct (i2 _ (by simp))) (Gu.cons (Ct (i2 _ (by simp))) (Gu.cons (Ct (i2 _ (by simp))) (Gu.cons (hvp.le QL) (Gu.cons (hvq.le QL) (Gu.cons (hvr.le QL) (Gu.cons (hvt.le QL) Gu.nil)))))))))) (by simp) _ hcy Es (mI _ _ _ _ QL h0);intro v6 E6 h6 hle6 hp6;refine ⟨(by repeat (first|assumption|(apply Le.trans;assumption))),QN,?_⟩)))|(apply Ia;kernel_rfl;exact J;exact J)|(apply Cj;(iterate 4 exact J);(first|(apply Ay;exact J;exact Jya;exact B2a (d:=2) _ f.sh.g i1;rintro wvg hvg hlevg ⟨vg,rfl,hvvg⟩;refine ⟨hlevg,QN,?_⟩)|(apply Bu (e:=3) (cs:=[f.sh.ref,f.sh.hg,f.sh.ag,f.sh.hp,f.sh.ap].map fun i=>.int .i64 i);(iterate 3 exact J);exact List.cons_ne_nil _ _;(iterate 4 exact J);intro bi hi hlei hcs1;refine ⟨hlei,QN,?_⟩)|(apply Ay;exact J;exact Oj;exact Xb _ _ 5 5 [f.sh.ref,f.sh.hg,f.sh.ag,f.sh.hp,f.sh.ap] (Gv (hcs1.le QL)) (by omega);rintro wn hn hlen ⟨An,cn,rfl,hsn⟩;refine ⟨hlen,QN,?_⟩)|(apply Cz (n:=1);(iterate 3 exact J);exact List.cons_ne_nil _ _;(iterate 6 exact J);intro bo;refine ⟨Le.refl _,QN,?_⟩)))|(apply Bm;kernel_rfl;exact J)|(apply Aj;exact J;all_goals (intro hc;try simp only [hcS,reduceCtorEq] at hc;try (exfalso;omega))))
 all_goals (try (exfalso;omega))
 all_goals
  rw [List.append_nil]
  exact Fe (rs:=[]) (vs:=[]) rfl rfl trivial hp6
theorem el4_c (h:Ro)(s:Fsh)(f:Fct)(hf:FAt h s f)(hs:FSm1 f)(bx:Nat)(hb:At h ⟨bx,0,none⟩ (Dx s f))(e:f.kind=4)(i1:Vo f.ru.g)(i2:∀ x∈[f.ru.case,f.ru.inst,f.ru.kind],I64 x)(i3:∀ x∈[f.ru.club,f.ru.player,f.ru.season,f.ru.comp,f.ru.points,f.ru.amount,f.ru.hg,f.ru.ag,f.ru.lo,f.ru.hi],I64 x):Zg Tryz.prog 181 [.pointer (some ⟨bx,0,none⟩)] ER (Dq f) h:=by
 have hxs:Dq f=[Fi f.ru.case,Fi f.ru.inst,Fi f.ru.kind,Gj (Ns f.ru.g),Fi f.ru.club,Fi f.ru.player,Fi f.ru.season,Fi f.ru.comp,Fi f.ru.points,Fi f.ru.amount,Fi f.ru.hg,Fi f.ru.ag,Fi f.ru.lo,Fi f.ru.hi]:=by unfold Dq;rw [e];rfl
 rw [hxs]
 intro lid I Ix mI mIx hround Es h1 hle h0
 refine Bo (args:=[_,_]) ts_ok Go.Proofs.Tryz.func181 rfl rfl fun w0 X0 => ?_
 have hb1:=hb.le hle
 have hf1:=hf.le hle
 obtain ⟨n1,n2,n3,n4,n5,n6⟩:=hf.small1 hs
 repeat' (first|apply Ac|apply Ap|apply Ak|apply Aa|apply Ab|(apply Ad;(iterate 3 exact J))|(apply Ai;exact J;exact Av rfl QM rfl;exact J;exact J)|(apply Bd;exact J;exact J;(first|(apply Ar;exact J;first|exact Bh rfl (by assumption) rfl|exact Dc rfl (by assumption) rfl|exact Db rfl (by assumption) rfl|exact Lv_roF3 rfl (by assumption) rfl));exact QA)|(apply Af;(iterate 3 exact J);(first|(apply Ah;(iterate 3 exact J);exact QR;(iterate 3 exact J);skip)|(apply Ao;exact J;intro b;skip)|(apply Ag;exact J;intro b;skip)|(apply Bu (e:=3) (cs:=[f.ru.club,f.ru.player,f.ru.season,f.ru.comp,f.ru.points,f.ru.amount,f.ru.hg,f.ru.ag,f.ru.lo,f.ru.hi].map fun i=>.int .i64 i);(iterate 3 exact J);exact List.cons_ne_nil _ _;(iterate 4 exact J);intro bi hi hlei hcs2;skip)|(apply Ay;exact J;exact Oj;exact Xb _ _ 10 10 [f.ru.club,f.ru.player,f.ru.season,f.ru.comp,f.ru.points,f.ru.amount,f.ru.hg,f.ru.ag,f.ru.lo,f.ru.hi] (Gv (hcs2.le QL)) (by omega);rintro wm hm hlem ⟨Am,cm,rfl,hsm⟩;skip)|(apply Bk (enc:=vaC) (xs:=[f.ru.case,f.ru.inst,f.ru.kind].map Gi++[vg]) (ys:=[f.ru.club,f.ru.player,f.ru.season,f.ru.comp,f.ru.points,f.ru.amount,f.ru.hg,f.ru.ag,f.ru.lo,f.ru.hi].map Gi);(iterate 7 exact J);exact hsm.le QL;exact Dw;exact Qm;intro v1;exact QR;(first|omega|simp [Jt]);exact J;intro A2 c2;skip)|(refine Su (enc:=vaC) (xs:=([f.ru.case,f.ru.inst,f.ru.kind].map Gi++[vg]++[f.ru.club,f.ru.player,f.ru.season,f.ru.comp,f.ru.points,f.ru.amount,f.ru.hg,f.ru.ag,f.ru.lo,f.ru.hi].map Gi)) Dw rfl QK ?_;intro A7 c7 h7 hle7 e7 hnc7 hsl;injection e7 with e71 _ e73;subst e71;subst e73;refine Cq QK ?_;intro h8 hle8 _;refine Cq QK ?_;intro h5 hle5 hcy;apply Fj (f:=182) (fs:=[]) (cs:=[.pointer (some ⟨_,0,none⟩)]) (Es0:=Es) (Fs:=[]);exact J;exact J;exact (List.append_nil _).symm;exact Ur;exact Dza _ lid I Ix mI h5 (fun pre x post u Es2 h2 e5 hle2 hr hI=>hround pre x post u Es2 h2 e5 (Le.trans QL hle2) hr hI) _ _ _ ([f.ru.case,f.ru.inst,f.ru.kind].map Gi++[vg]++[f.ru.club,f.ru.player,f.ru.season,f.ru.comp,f.ru.points,f.ru.amount,f.ru.hg,f.ru.ag,f.ru.lo,f.ru.hi].map Gi) (hsl.le QL) (Gu.cons (Ct (i2 _ (by simp))) (Gu.cons (Ct (i2 _ (by simp))) (Gu.cons (Ct (i2 _ (by simp))) (Gu.cons (hvvg.le QL) (Gu.cons (Ct (i3 _ (by simp))) (Gu.cons (Ct (i3 _ (by simp))) (Gu.cons (Ct (i3 _ (by simp))) (Gu.cons (Ct (i3 _ (by simp))) (Gu.cons (Ct (i3 _ (by simp))) (Gu.cons (Ct (i3 _ (by simp))) (Gu.cons (Ct (i3 _ (by simp))) (Gu.cons (Ct (i3 _ (by simp))) (Gu.cons (Ct (i3 _ (by simp))) (Gu.cons (Ct (i3 _ (by simp))) Gu.nil)))))))))))))) (by simp) _ hcy Es (mI _ _ _ _ QL h0);intro v6 E6 h6 hle6 hp6;skip)))|(apply Bf (n:=12) [0,1,2,3,4,5,6,7,8,9,10,11,12,13,14] [(0,0),(1,0),(2,0),(3,0),(4,0),(5,0),(9,0),(10,0),(6,1),(7,1),(8,0),(11,1),(12,1),(13,1),(14,0)];kernel_rfl)|(apply Ce;exact J;kernel_rfl;(iterate 3 exact J))|(apply Bj;exact J;kernel_rfl;(iterate 3 exact J);exact QM;exact J;exact J)|(apply Br;exact J;kernel_rfl;(iterate 3 exact J);(first|(apply Ay;exact J;exact Jya;exact B2a (d:=2) _ f.ru.g i1;rintro wvg hvg hlevg ⟨vg,rfl,hvvg⟩;refine ⟨hlevg,QN,?_⟩)|(apply Bu (e:=3) (cs:=[f.ru.case,f.ru.inst,f.ru.kind].map fun i=>.int .i64 i);(iterate 3 exact J);exact List.cons_ne_nil _ _;(iterate 4 exact J);intro bi hi hlei hcs1;refine ⟨hlei,QN,?_⟩)|(apply Bi;exact J;exact Oj;exact nums_c _ _ 3 3 [f.ru.case,f.ru.inst,f.ru.kind] (Gv (hcs1.le QL)) (by omega);exact QT;rintro wn En hn hlen ⟨An,cn,rfl,rfl⟩;refine ⟨hlen,QN,?_⟩)|(apply Bc (enc:=vaC) (n:=1) [vg];(iterate 3 exact J);exact List.cons_ne_nil _ _;(iterate 4 exact J);exact Dw;exact J;exact J;intro bz hz hlez hs4;refine ⟨hlez,QN,?_⟩)|(apply Bk (enc:=vaC) (xs:=[f.ru.case,f.ru.inst,f.ru.kind].map Gi) (ys:=[vg]);(iterate 7 exact J);exact hs4.le QL;exact Dw;exact Qm;intro v1;exact QR;(first|omega|simp [Jt]);exact J;intro A2 c2;refine ⟨Le.refl _,QN,?_⟩)))|(apply Bm;kernel_rfl;exact J)|(apply Aj;exact J;all_goals (intro hc;try simp only [hcS,reduceCtorEq] at hc;try (exfalso;omega))))
 all_goals (try (exfalso;omega))
 all_goals
  rw [List.append_nil]
  exact Fe (rs:=[]) (vs:=[]) rfl rfl trivial hp6
end Go.Hw
namespace Go.Hw
open Go
attribute [local irreducible] GO GOl GDp Val Fn Res At Fx Blk By Dk Cl Has Yl
open Go.Proofs (Tryz.prog)
theorem elems_c (h:Ro)(s:Fsh)(f:Fct)(hf:FAt h s f)(hs:FSm f)(bx:Nat)(hb:At h ⟨bx,0,none⟩ (Dx s f))(hok:Cg f):Zg Tryz.prog 181 [.pointer (some ⟨bx,0,none⟩)] ER (Dq f) h:=by
 have hs:=hok.sm1
 have hco:=hok.2.2.1
 have hk:1≤f.kind∧f.kind≤8:=by
  refine Classical.byContradiction fun hk=>(Sg f hk).2 hco
 have mx:∀ {n m:Int},Bel n m→m≤1000000→I64 n:=fun h1 h2=>Cia h1 (by omega)
 have:f.kind=1∨f.kind=2∨f.kind=3∨f.kind=4∨f.kind=5∨f.kind=6∨f.kind=7∨f.kind=8:=by omega
 have hfz:∀ {n:Int},n=0→I64 n:=fun h=>by subst h;unfold I64;omega
 rcases this with e|e|e|e|e|e|e|e
 · rw [Fb,if_pos e] at hco
   exact el1_c h s f hf hs bx hb e (mx hco.1 (by omega)) (mx hco.2.1 (by omega)) (fun x hx=>mx (hco.2.2.1.2.2 x hx) (by omega))
 · rw [Fb,if_neg (by omega),if_pos e] at hco
   exact el2_c h s f hf hs bx hb e (Qf hco.1) (mx hco.2 (by omega))
 · rw [Fb,if_neg (by omega),if_neg (by omega),if_pos e] at hco
   obtain ⟨g1,g2,g3,g4,g5,g6,g7,g8,g9,g10⟩:=hco
   refine el3_c h s f hf hs bx hb e (Qf g1) ?_ (fun x hx=>mx (g6.2.1 x hx) (by omega)) (fun x hx=>mx (g7.2.1 x hx) (by omega)) (fun c hc=>mx (g6.2.1 _ (g8.2 c hc)) (by omega)) (fun c hc=>mx (g7.2.1 _ (g9.2 c hc)) (by omega))
   intro x hx
   have hp:I64 f.sh.hp∧I64 f.sh.ap:=by
    rcases g5 with ⟨q1,q2⟩|⟨_,q1,q2,_⟩
    · exact ⟨hfz q1,hfz q2⟩
    · exact ⟨mx q1 (by omega),mx q2 (by omega)⟩
   simp only [List.mem_cons,List.not_mem_nil,or_false] at hx
   rcases hx with rfl|rfl|rfl|rfl|rfl
   · exact mx g2 (by omega)
   · exact mx g3 (by omega)
   · exact mx g4 (by omega)
   · exact hp.1
   · exact hp.2
 · rw [Fb,if_neg (by omega),if_neg (by omega),if_neg (by omega),if_pos e] at hco
   obtain ⟨r1,r2,r3,r4,r5,r6⟩:=hco
   have hI:Vo f.ru.g∧∀ x∈[f.ru.kind,f.ru.club,f.ru.player,f.ru.season,f.ru.comp,f.ru.points,f.ru.amount,f.ru.hg,f.ru.ag,f.ru.lo,f.ru.hi],I64 x:=by
    rw [← r6]
    have z:I64 0:=by unfold I64;omega
    unfold Gk at r5
    unfold Ry
    unfold Li Bel at r5
    by_cases k1:f.ru.kind=1
    · rw [if_pos k1] at r5 ⊢;refine ⟨Qf r5.1,fun x hx => ?_⟩
      have:=r5.1;unfold Fd Bel at this
      simp [Ps] at hx;unfold I64;omega
    rw [if_neg k1] at r5 ⊢
    by_cases k1:f.ru.kind=2
    · rw [if_pos k1] at r5 ⊢;refine ⟨Qf r5,fun x hx => ?_⟩
      simp [Ps] at hx;unfold I64;omega
    rw [if_neg k1] at r5 ⊢
    by_cases k1:f.ru.kind=3
    · rw [if_pos k1] at r5 ⊢;refine ⟨Qf r5.1,fun x hx => ?_⟩
      simp [Ps] at hx;unfold I64;omega
    rw [if_neg k1] at r5 ⊢
    by_cases k1:f.ru.kind=4
    · rw [if_pos k1] at r5 ⊢;refine ⟨Ln,fun x hx => ?_⟩
      simp [Ps] at hx;unfold I64;omega
    rw [if_neg k1] at r5 ⊢
    by_cases k1:f.ru.kind=5
    · rw [if_pos k1] at r5 ⊢;refine ⟨Ln,fun x hx => ?_⟩
      simp [Ps] at hx;unfold I64;omega
    rw [if_neg k1] at r5 ⊢
    by_cases k1:f.ru.kind=6
    · rw [if_pos k1] at r5 ⊢;refine ⟨Ln,fun x hx => ?_⟩
      simp [Ps] at hx;unfold I64;omega
    rw [if_neg k1] at r5 ⊢
    by_cases k1:f.ru.kind=7
    · rw [if_pos k1] at r5 ⊢;refine ⟨Ln,fun x hx => ?_⟩
      simp [Ps] at hx;unfold I64;omega
    rw [if_neg k1] at r5 ⊢
    refine ⟨Ln,fun x hx => ?_⟩
    simp [Ps] at hx;unfold I64;omega
   refine el4_c h s f hf hs bx hb e hI.1 (fun x hx => ?_) (fun x hx=>hI.2 x (List.mem_cons_of_mem _ hx))
   simp only [List.mem_cons,List.not_mem_nil,or_false] at hx
   rcases hx with rfl|rfl|rfl
   · unfold I64;omega
   · unfold I64;omega
   · exact hI.2 _ (by simp)
 · rw [Fb,if_neg (by omega),if_neg (by omega),if_neg (by omega),if_neg (by omega),if_pos e] at hco
   refine el5_c h s f hf hs bx hb e fun x hx => ?_
   simp only [List.mem_cons,List.not_mem_nil,or_false] at hx
   rcases hx with rfl|rfl|rfl
   · unfold I64;omega
   · unfold I64;omega
   · unfold I64;split <;> omega
 · rw [Fb,if_neg (by omega),if_neg (by omega),if_neg (by omega),if_neg (by omega),if_neg (by omega),if_pos e] at hco
   exact el6_c h s f hf hs bx hb e (mx hco.1 (by omega)) (by rcases hco.2 with q|q;(rw [q];unfold I64;omega);exact mx q (by omega))
 · rw [Fb,if_neg (by omega),if_neg (by omega),if_neg (by omega),if_neg (by omega),if_neg (by omega),if_neg (by omega),if_pos e] at hco
   exact el7_c h s f hf hs bx hb e (mx hco.1 (by omega)) (mx hco.2.1 (by omega)) (fun x hx=>mx (hco.2.2.1.2.2 x hx) (by omega))
 · exact el8_c h s f hf hs bx hb e
end Go.Hw
namespace Go.Hw
open Go
attribute [local irreducible] GO GOl GDp Val Fn Res At Fx Blk By Dk Cl Has Yl
open Go.Proofs (Tryz.prog)
theorem Cla {n:Int}(h:I64 n):(Fi n).length≤23:=by
 have:=Lib.itoa_length_le n h.1 h.2
 unfold Fi
 simp only [List.length_append,List.length_cons,List.length_nil];omega
theorem Kpa {s:List UInt8}(h:s.length≤1000):(Hf s).length≤5000:=by
 have:=Lib.itoa_length_le (s.length:Int) (by omega) (by omega)
 unfold Hf
 simp only [List.length_append,List.length_cons];omega
theorem Tq {α β:Type}{e:α→List β}{m:Nat}:∀ {l:List α},(∀ x∈l,(e x).length≤m)→(l.flatMap e).length≤l.length * m
 | [],_=>by simp
 | a::l,h=>by
   have h1:=h a (List.mem_cons_self ..)
   have h2:=Tq (l:=l) fun x hx=>h x (List.mem_cons_of_mem _ hx)
   rw [List.flatMap_cons,List.length_append,List.length_cons,Nat.add_mul];omega
theorem Kra {l:List Int}(h:∀ x∈l,I64 x):(Gj l).length≤2+l.length * 23:=by
 have:=Tq (e:=Fi) (m:=23) fun x hx=>Cla (h x hx)
 unfold Gj Cka
 simp only [List.length_append,List.length_cons,List.length_nil];omega
theorem bCards_le {l:List Fy}(h:∀ c∈l,I64 c.p):(Lf l).length≤2+l.length * 48:=by
 have:=Tq (e:=fun c=>Gj (Vj c)) (m:=48) (l:=l) fun x hx=>by
  have:=Kra (Kka x (h x hx))
  exact this
 unfold Lf Cka
 simp only [List.length_append,List.length_cons,List.length_nil];omega
def ElOk (b:List UInt8):Prop:=(∃ n,I64 n∧b=Fi n)∨(∃ l,(∀ x∈l,I64 x)∧l.length≤100∧b=Gj l)∨(∃ l,(∀ c∈l,I64 c.p)∧l.length≤100∧b=Lf l)∨∃ s,s.length≤1000∧b=Hf s
theorem ElOk.len {b:List UInt8}(h:ElOk b):b.length≤5000:=by
 rcases h with ⟨n,h,rfl⟩|⟨l,h,hl,rfl⟩|⟨l,h,hl,rfl⟩|⟨s,hl,rfl⟩
 · have:=Cla h;omega
 · have:=Kra h;omega
 · have:=bCards_le h;omega
 · exact Kpa hl
theorem Ju {n:Int}(h:I64 n):ElOk (Fi n):=.inl ⟨n,h,rfl⟩
theorem Ya {l:List Int}(h:∀ x∈l,I64 x)(hl:l.length≤100):ElOk (Gj l):=.inr (.inl ⟨l,h,hl,rfl⟩)
theorem J8a {l:List Fy}(h:∀ c∈l,I64 c.p)(hl:l.length≤100):ElOk (Lf l):=.inr (.inr (.inl ⟨l,h,hl,rfl⟩))
theorem el_text {s:List UInt8}(hl:s.length≤1000):ElOk (Hf s):=.inr (.inr (.inr ⟨s,hl,rfl⟩))
theorem Hta {g:Bl}(h:Vo g):ElOk (Gj (Ns g)):=Ya (Eva h) (by show 4≤100;omega)
theorem rul_i (r:Iz)(hr:Fsa r):Vo r.g∧∀ x∈[r.case,r.inst,r.kind,r.club,r.player,r.season,r.comp,r.points,r.amount,r.hg,r.ag,r.lo,r.hi],I64 x:=by
 obtain ⟨r1,r2,r3,r4,r5,r6⟩:=hr
 have hk:1≤r.kind∧r.kind≤8:=by
  unfold Gk at r5
  repeat' split at r5
  all_goals omega
 have hI:Vo r.g∧∀ x∈[r.club,r.player,r.season,r.comp,r.points,r.amount,r.hg,r.ag,r.lo,r.hi],I64 x:=by
  rw [← r6]
  have z:I64 0:=by unfold I64;omega
  unfold Gk at r5
  unfold Ry
  unfold Li Bel at r5
  by_cases k1:r.kind=1
  · rw [if_pos k1] at r5 ⊢;refine ⟨Qf r5.1,fun x hx => ?_⟩
    have:=r5.1;unfold Fd Bel at this
    simp [Ps] at hx;unfold I64;omega
  rw [if_neg k1] at r5 ⊢
  by_cases k1:r.kind=2
  · rw [if_pos k1] at r5 ⊢;refine ⟨Qf r5,fun x hx => ?_⟩
    simp [Ps] at hx;unfold I64;omega
  rw [if_neg k1] at r5 ⊢
  by_cases k1:r.kind=3
  · rw [if_pos k1] at r5 ⊢;refine ⟨Qf r5.1,fun x hx => ?_⟩
    simp [Ps] at hx;unfold I64;omega
  rw [if_neg k1] at r5 ⊢
  by_cases k1:r.kind=4
  · rw [if_pos k1] at r5 ⊢;refine ⟨Ln,fun x hx => ?_⟩
    simp [Ps] at hx;unfold I64;omega
  rw [if_neg k1] at r5 ⊢
  by_cases k1:r.kind=5
  · rw [if_pos k1] at r5 ⊢;refine ⟨Ln,fun x hx => ?_⟩
    simp [Ps] at hx;unfold I64;omega
  rw [if_neg k1] at r5 ⊢
  by_cases k1:r.kind=6
  · rw [if_pos k1] at r5 ⊢;refine ⟨Ln,fun x hx => ?_⟩
    simp [Ps] at hx;unfold I64;omega
  rw [if_neg k1] at r5 ⊢
  by_cases k1:r.kind=7
  · rw [if_pos k1] at r5 ⊢;refine ⟨Ln,fun x hx => ?_⟩
    simp [Ps] at hx;unfold I64;omega
  rw [if_neg k1] at r5 ⊢
  refine ⟨Ln,fun x hx => ?_⟩
  simp [Ps] at hx;unfold I64;omega
 refine ⟨hI.1,?_⟩
 have i1:I64 r.case:=by unfold I64;omega
 have i2:I64 r.inst:=by unfold I64;omega
 have i3:I64 r.kind:=by unfold I64;omega
 exact List.forall_mem_cons.2 ⟨i1,List.forall_mem_cons.2 ⟨i2,List.forall_mem_cons.2 ⟨i3,hI.2⟩⟩⟩
theorem J7a (f:Fct)(hok:Cg f)(hv:f.void.length=32):(∀ b∈Dq f,ElOk b)∧(Dq f).length≤14:=by
 have hco:=hok.2.2.1
 have mx:∀ {n m:Int},Bel n m→m≤1000000000→I64 n:=fun h1 h2=>Cia h1 (by omega)
 have hfz:∀ {n:Int},n=0→I64 n:=fun h=>by subst h;unfold I64;omega
 have hnil:∀ b∈([]:List (List UInt8)),ElOk b:=fun b hb=>by cases hb
 unfold Dq
 unfold Fb at hco
 by_cases e:f.kind=1
 · rw [if_pos e] at hco ⊢
   obtain ⟨g1,g2,g3,g4,g5⟩:=hco
   refine ⟨?_,by simp⟩
   have hr:f.eRules.length≤1000:=by
    split at g5
    · have:=g5.2.1;omega
    · rw [g5];simp
   exact List.forall_mem_cons.2 ⟨Ju (mx g1 (by omega)),List.forall_mem_cons.2 ⟨Ju (mx g2 (by omega)),List.forall_mem_cons.2 ⟨Ya (fun x hx=>mx (g3.2.2 x hx) (by omega)) (by omega),List.forall_mem_cons.2 ⟨el_text hr,hnil⟩⟩⟩⟩
 rw [if_neg e] at hco ⊢
 by_cases e:f.kind=2
 · rw [if_pos e] at hco ⊢
   refine ⟨?_,by simp⟩
   exact List.forall_mem_cons.2 ⟨Hta (Qf hco.1),List.forall_mem_cons.2 ⟨Ju (mx hco.2 (by omega)),hnil⟩⟩
 rw [if_neg e] at hco ⊢
 by_cases e:f.kind=3
 · rw [if_pos e] at hco ⊢
   obtain ⟨g1,g2,g3,g4,g5,g6,g7,g8,g9,g10⟩:=hco
   have hp:I64 f.sh.hp∧I64 f.sh.ap:=by
    rcases g5 with ⟨q1,q2⟩|⟨_,q1,q2,_⟩
    · exact ⟨hfz q1,hfz q2⟩
    · exact ⟨mx q1 (by omega),mx q2 (by omega)⟩
   refine ⟨?_,by simp⟩
   refine List.forall_mem_cons.2 ⟨Hta (Qf g1),List.forall_mem_cons.2 ⟨Ju (mx g2 (by omega)),List.forall_mem_cons.2 ⟨Ju (mx g3 (by omega)),List.forall_mem_cons.2 ⟨Ju (mx g4 (by omega)),List.forall_mem_cons.2 ⟨Ju hp.1,List.forall_mem_cons.2 ⟨Ju hp.2,?_⟩⟩⟩⟩⟩⟩
   refine List.forall_mem_cons.2 ⟨Ya (fun x hx=>mx (g6.2.1 x hx) (by omega)) (by have:=g6.1;omega),List.forall_mem_cons.2 ⟨Ya (fun x hx=>mx (g7.2.1 x hx) (by omega)) (by have:=g7.1;omega),?_⟩⟩
   exact List.forall_mem_cons.2 ⟨J8a (fun c hc=>mx (g6.2.1 _ (g8.2 c hc)) (by omega)) (by have:=g8.1;omega),List.forall_mem_cons.2 ⟨J8a (fun c hc=>mx (g7.2.1 _ (g9.2 c hc)) (by omega)) (by have:=g9.1;omega),hnil⟩⟩
 rw [if_neg e] at hco ⊢
 by_cases e:f.kind=4
 · rw [if_pos e] at hco ⊢
   obtain ⟨i1,i2⟩:=rul_i _ hco
   refine ⟨?_,by simp⟩
   have I:∀ {x},x∈[f.ru.case,f.ru.inst,f.ru.kind,f.ru.club,f.ru.player,f.ru.season,f.ru.comp,f.ru.points,f.ru.amount,f.ru.hg,f.ru.ag,f.ru.lo,f.ru.hi]→ElOk (Fi x):=fun hx=>Ju (i2 _ hx)
   intro b hb
   simp only [List.mem_cons,List.not_mem_nil,or_false] at hb
   rcases hb with rfl|rfl|rfl|rfl|rfl|rfl|rfl|rfl|rfl|rfl|rfl|rfl|rfl|rfl
   · exact I (by simp)
   · exact I (by simp)
   · exact I (by simp)
   · exact Hta i1
   all_goals exact I (by simp)
 rw [if_neg e] at hco ⊢
 by_cases e:f.kind=5
 · rw [if_pos e] at hco ⊢
   refine ⟨?_,by simp⟩
   exact List.forall_mem_cons.2 ⟨Ju (by unfold I64;omega),List.forall_mem_cons.2 ⟨Ju (by unfold I64;omega),List.forall_mem_cons.2 ⟨Ju (by unfold I64;split <;> omega),hnil⟩⟩⟩
 rw [if_neg e] at hco ⊢
 by_cases e:f.kind=6
 · rw [if_pos e] at hco ⊢
   refine ⟨?_,by simp⟩
   exact List.forall_mem_cons.2 ⟨Ju (mx hco.1 (by omega)),List.forall_mem_cons.2 ⟨Ju (by rcases hco.2 with q|q;(rw [q];unfold I64;omega);exact mx q (by omega)),hnil⟩⟩
 rw [if_neg e] at hco ⊢
 by_cases e:f.kind=7
 · rw [if_pos e] at hco ⊢
   refine ⟨?_,by simp⟩
   exact List.forall_mem_cons.2 ⟨Ju (mx hco.1 (by omega)),List.forall_mem_cons.2 ⟨Ju (mx hco.2.1 (by omega)),List.forall_mem_cons.2 ⟨Ya (fun x hx=>mx (hco.2.2.1.2.2 x hx) (by omega)) (by have:=hco.2.2.1.2.1;omega),hnil⟩⟩⟩
 rw [if_neg e]
 refine ⟨?_,by simp⟩
 exact List.forall_mem_cons.2 ⟨el_text (by omega),hnil⟩
theorem Ana {m:Nat}:∀ {l:List (List UInt8)},(∀ x∈l,x.length≤m)→l.flatten.length≤l.length * m
 | [],_=>by simp
 | a::l,h=>by
   have h1:=h a (List.mem_cons_self ..)
   have h2:=Ana (l:=l) fun x hx=>h x (List.mem_cons_of_mem _ hx)
   rw [List.flatten_cons,List.length_append,List.length_cons,Nat.add_mul];omega
def L8a:List (List UInt8):=["day".toUTF8.data.toList, "kind".toUTF8.data.toList, "known".toUTF8.data.toList, "what".toUTF8.data.toList]
theorem encF_dict (f:Fct):B9a f=Fma L8a [Fi f.day,Fi f.kind,Fi f.known,Kqa (Dq f)]:=by
 unfold B9a Fma L8a Kqa
 rw [Apa]
 simp only [List.zip_cons_cons,List.zip_nil_right,List.flatMap_cons,List.flatMap_nil,List.append_assoc,List.append_nil,List.nil_append,List.cons_append]
theorem keys7_up:L8a.Pairwise fun a b=>Op.bytesLess a b=true:=by decide
theorem encF_le (f:Fct)(hok:Cg f)(hv:f.void.length=32):(B9a f).length≤200000:=by
 have h1:=J7a f hok hv
 have h2:=Ana (m:=5000) fun x hx=>(h1.1 x hx).len
 rw [Apa] at h2
 have hb:∀ {n:Int},Bel n 1048577→(Fi n).length≤23:=fun h=>Cla (Cia h (by omega))
 have h3:=hb hok.1
 have h4:=hb hok.2.1
 have hk:1≤f.kind∧f.kind≤8:=by
  refine Classical.byContradiction fun hk=>(Sg f hk).2 hok.2.2.1
 have h5:(Fi f.kind).length≤23:=Cla (by unfold I64;omega)
 have t:∀ s:String,s.toUTF8.data.toList.length≤1000→(Hf s.toUTF8.data.toList).length≤5000:=fun s h=>Kpa h
 have t1:=t "day" (by decide)
 have t2:=t "kind" (by decide)
 have t3:=t "known" (by decide)
 have t4:=t "what" (by decide)
 unfold B9a
 simp only [List.length_append,List.length_cons,List.length_nil]
 omega
theorem Moa (h:Ro)(s:Fsh)(f:Fct):Res Tryz.prog 143 #[Fc s f] h (fun u h'=>∃ bx,u=.func (.func 181) #[] #[.pointer (some ⟨bx,0,none⟩)]∧At h' ⟨bx,0,none⟩ (Dx s f)):=by
 refine Bq (args:=[_]) ts_ok Go.Proofs.Tryz.func143 rfl rfl fun w0 X0 => ?_
 repeat' (first|apply Ac|apply Aa|apply Ab|(apply Ad;(iterate 3 exact J))|(apply Af;(iterate 3 exact J);(first|(apply Ao;exact J;intro b;skip))))
 refine Gf QK ?_
 intro h1 hle1 hc1
 (first|(apply Cb;(iterate 3 exact J)))
 exact ⟨b,rfl,hc1⟩
end Go.Hw
namespace Go.Hw
open Go
attribute [local irreducible] GO GOl GDp Val Fn Res At Fx Blk By Dk Cl Has Yl
open Go.Proofs (Tryz.prog)
theorem four_le:4≤1000000:=by omega
theorem Yp {C:Ctx}{l:Sl}{Es:List Asn}{h:Ro}{G:Value→List Asn→Ro→Prop}{ty:TypeId}{pos:String}{aft:Array Edge}{gd:Option (Nat×Bool)}{t e sz:Nat}{x y:Operand}{b off n c:Nat}{v:Value}{xs ys:List Value}{Es':List Asn}{T:Ty}
  (hT:Cu t C.ts=some T) (hx:evl l x=some (.pointer (some ((addrD (some ⟨b,0,none⟩)).add off)))) (hy:evl l y=some v) (hR:Nu Es (By e sz (.slice (some ⟨b,0,none⟩) n c) n xs) (By e sz (.slice (some ⟨b,0,none⟩) n c) n ys) Es')
  (hys:ys=xs.take off++Cn v++xs.drop (off+(Cn v).length)) (hoff:off+(Cn v).length≤xs.length)
  (hl:Nat.beq (Cn v).length T.size=true) (h1:Ot (Cn v)=true) (g:G undef Es' h):Hq C l Es h ⟨none,.store t x y,ty,pos,aft,gd⟩ G :=
 Rc hT (by rw [hx];show some (Value.pointer (some ((⟨b,0,none⟩:Addr).add off)))=_;rw [Fu,Nat.zero_add]) hy hR hys hoff hl h1 g
open Classical in
theorem E5a (h:Ro)(hG:Kg h)(s:Fsh)(f:Fct)(hf:FAt h s f)(hs:FSm f):Res Tryz.prog 85 #[Fc s f] h (fun u h'=>if Cg f then ∃ A c,u=.tuple #[.slice A (B9a f).length c,.int .i64 0]∧Cc Il 1 h' A (B9a f).length (B9a f) else u=.tuple #[.slice none 0 0,.int .i64 70]):=by
 refine Bq (args:=[_]) ts_ok Go.Proofs.Tryz.func85 rfl rfl fun w0 X0 => ?_
 have hvl:=hf.void
 by_cases hg:Cg f
 · have hel:=(J7a f hg hvl).2
   have hle0:=encF_le f hg hvl
   repeat' (first|apply Ac|apply Au|apply Ak|apply Aa|apply Ab|(apply Ad;(iterate 3 exact J))|(apply Ai;exact J;exact Av rfl QM rfl;exact J;exact J)|(apply Af;(iterate 3 exact J);(first|(apply Ao;exact J;intro b;skip)|(apply Ag;exact J;intro b;skip)|(apply Aq;exact J;exact Pv;(have:=Na h s f hf hs;rw [if_pos hg] at this;exact this);skip)|(apply Ay;exact J;exact has143;exact Moa _ s f;rintro vr hs1 hle1 ⟨bx,rfl,hcb⟩;skip)))|(apply Aj;exact J;all_goals (intro hc;try simp only [hcS,reduceCtorEq] at hc;try (exfalso;omega))))
   rename_i b0
   generalize b=bT
   refine Eh 218 5 ?_
   refine Cs (Es':=[Blk bT 212 [.slice none 0 0],By 218 5 (.slice none 0 0) 0 [],Blk b0 57 (Dx s f)]) QT ?_
   refine Gg (R:=ER) (xs:=Dq f) (gf:=181) (lb:=[.pointer (some ⟨bx,0,none⟩)]) rfl rfl has181 (elems_c _ s f (hf.le hle1) hs bx hcb hg) (by rintro x u h2 ⟨v,rfl,_⟩;rfl) rfl
    (fun pre Es h2=>∃ (vs:List Va) (A:Option Addr) (c:Nat),Es=[Blk bT 212 [.slice A pre.length c],By 218 5 (.slice A pre.length c) pre.length (vs.flatMap vaC),Blk b0 57 (Dx s f)]∧vs.length=pre.length∧Gu (Pz 4 h2) vs pre) (fun _ _ _ _=>False)
    (fun pre Es h2 h3 hl ⟨vs,A,c,e1,e2,e3⟩=>⟨vs,A,c,e1,e2,e3.imp fun a b q=>q.le hl⟩) (fun _ _ _ _ _ _ h=>h.elim) ⟨[],none,0,rfl,rfl,Gu.nil⟩ ?_ ?_ (fun _ _ _ _ _ _ _ _ h=>h.elim)
   · rintro lid r0 w1 X1 pre x post u Es1 h1 hx ⟨v,rfl,hv⟩ ⟨vs,A,c,rfl,hvs,hz⟩ hle hst
     have hpl:pre.length+1≤(Dq f).length:=by rw [hx];simp
     have hpl2:pre.length≤14:=by omega
     have hys:=flat_set Dw vs va0 v
     rw [hvs] at hys
     have hoff:pre.length * 5+(vaC v).length≤((vs++[va0]).flatMap vaC).length:=by
      rw [Di Dw,List.length_append,hvs,Dw,Nat.add_mul];exact Nat.le_refl _
     repeat' (first|apply Ap|apply Ak|apply Aa|apply Ab|(apply Jf;exact J;exact QK;exact hst)|(apply Af;(iterate 3 exact J);(first|(apply Ah;(iterate 3 exact J);exact QR;(iterate 3 exact J);skip)|(apply Ag;exact J;intro b;skip)))|(apply Bf (n:=7) [0,1,2,3,4,7,5,6] [(0,0),(1,0),(2,0),(3,1),(4,1),(5,0),(6,2),(1,7),(7,1),(6,1)];kernel_rfl)|(apply Ce;exact J;kernel_rfl;(iterate 3 exact J))|(apply Bj;exact J;kernel_rfl;(iterate 3 exact J);exact QM;exact J;exact J)|(apply De;exact J;kernel_rfl;exact J;exact J;(first|(apply Be (j:=pre.length);(iterate 6 exact J);(with_reducible exact J);omega));exact QA)|(apply Br;exact J;kernel_rfl;(iterate 3 exact J);(first|(apply Ah;(iterate 3 exact J);exact QR;(iterate 3 exact J);refine ⟨Le.refl _,QN,?_⟩)|(apply Bc (enc:=vaC) (n:=1) [va0];(iterate 3 exact J);exact List.cons_ne_nil _ _;(iterate 4 exact J);exact Dw;exact J;exact J;intro bz hz1 hlez hs1;refine ⟨hlez,QN,?_⟩)|(apply F1a (enc:=vaC) (xs:=vs);(iterate 7 exact J);exact hs1;exact Dw;exact Qm;intro v1;exact QR;omega;exact J;omega;intro v1;exact QM;intro A1 c1;refine ⟨Le.refl _,QN,?_⟩)|(apply Yp (ys:=(vs++[v]).flatMap vaC);(iterate 3 exact J);exact QR;exact hys;exact hoff;exact J;exact J;refine ⟨Le.refl _,QN,?_⟩)))|(apply Ia;kernel_rfl;exact J;exact J)|(apply Cj;(iterate 4 exact J);(first|(apply Ah;(iterate 3 exact J);exact QR;(iterate 3 exact J);refine ⟨Le.refl _,QN,?_⟩)|(apply Yp (ys:=(vs++[v]).flatMap vaC);(iterate 3 exact J);exact QR;exact hys;exact hoff;exact J;exact J;refine ⟨Le.refl _,QN,?_⟩)))|(apply Bm;kernel_rfl;exact J))
     all_goals
      refine Cs (Es':=[Ic lid { r0 with state:=.busy },Blk bT 212 [.slice (some ⟨A1,0,none⟩) (pre.length+1) c1],By 218 5 (.slice (some ⟨A1,0,none⟩) (pre.length+1) c1) (pre.length+1) ((vs++[v]).flatMap vaC),Blk b0 57 (Dx s f)]) QT (Nj (r0:=r0) rfl .here ⟨vs++[v],some ⟨A1,0,none⟩,c1,?_,by simp [hvs],?_⟩)
      · rw [List.length_append];rfl
      · exact (hz.imp fun a b q=>q.le QL).snoc (hv.le QL)
   · rintro D h1 Es1 hle ⟨vs,A,c,rfl,hvs,hz⟩
     refine GO_relS (enc:=vaC) (xs:=vs) Dw hvs QK ?_
     intro A2 c2 h2 hle2 e2 hs2
     injection e2 with e21 _ e23
     subst e21;subst e23
     have hz2:=hz.imp fun a b q=>q.le hle2
     have hel2:(Dq f).length≤1000000:=by omega
     have hk:1≤f.kind∧f.kind≤8:=by
      refine Classical.byContradiction fun hk=>(Sg f hk).2 hg.2.2.1
     have i1:I64 f.day:=Cia hg.1 (by omega)
     have i2:I64 f.kind:=by unfold I64;omega
     have i3:I64 f.known:=Cia hg.2.1 (by omega)
     repeat' (first|apply Ac|apply Ap|(apply Bf (n:=8) [0,1,2,3,4,5,6,7,8,9,10,11,12,13,14,15,16,17,18] [(1,0),(2,0),(4,0),(5,0),(7,0),(8,0),(10,0),(0,2),(11,3),(3,1),(6,1),(9,1),(11,1),(12,1),(13,0),(14,1),(15,0),(16,0),(17,0),(18,0),(0,2),(10,6),(6,1),(9,1),(11,1),(12,1),(13,0),(14,1),(15,0),(16,0),(17,0),(18,0),(0,2),(9,9),(9,1),(11,1),(12,1),(13,0),(14,1),(15,0),(16,0),(17,0),(18,0),(0,2),(8,11),(11,1),(12,1),(13,0),(14,1),(15,0),(16,0),(17,0),(18,0),(0,2),(7,12),(12,1),(13,0),(14,1),(15,0),(16,0),(17,0),(18,0),(0,1),(13,0),(14,1),(15,0),(16,0),(17,0),(18,0)];kernel_rfl)|(apply Ce;exact J;kernel_rfl;(iterate 3 exact J))|(apply Bj;exact J;kernel_rfl;(iterate 3 exact J);exact QM;exact J;exact J)|(apply Br;exact J;kernel_rfl;(iterate 3 exact J);(first|(apply Bc (enc:=encS7) (n:=4) (e:=9) L8a;(iterate 3 exact J);exact List.cons_ne_nil _ _;(iterate 4 exact J);exact (fun _=>rfl);exact J;exact J;intro bk hk7 hlek hks;refine ⟨hlek,QN,?_⟩)|(apply Bc (enc:=vaC) (n:=4) (e:=218) [Gi f.day,Gi f.kind,Gi f.known,Jt A (Dq f).length c];(iterate 3 exact J);exact List.cons_ne_nil _ _;(iterate 4 exact J);exact Dw;exact J;exact J;intro bz hz1 hlez hs1;refine ⟨hlez,QN,?_⟩)|(apply Ay;exact J;exact has144;exact encode_c _ (hG.le QL) 6 (by omega) ⟨4,0,[],⟨some ⟨bz,0,none⟩,4,4⟩,⟨some ⟨bk,0,none⟩,4,4⟩⟩ (B9a f) (.inr (.inr (.inr ⟨⟨some ⟨bz,0,none⟩,4,4⟩,⟨some ⟨bk,0,none⟩,4,4⟩,[Gi f.day,Gi f.kind,Gi f.known,Jt A (Dq f).length c],[Fi f.day,Fi f.kind,Fi f.known,Kqa (Dq f)],L8a,rfl,hs1.le QL,Gu.cons (Ct i1) (Gu.cons (Ct i2) (Gu.cons (Ct i3) (Gu.cons (Wf (hs2.le QL) (hz2.imp fun a b q=>q.le QL) hel2) Gu.nil))),hks.le QL,rfl,keys7_up,four_le,encF_dict f⟩))) (by omega);rintro v4 h4 hle4 ⟨A4,c4,rfl,hr4⟩;refine ⟨hle4,QN,?_⟩)|(apply Aq;exact J;exact Xp;exact G2a _ _;refine ⟨Le.refl _,QN,?_⟩)|(apply Aq;exact J;exact J0a;exact Jta _ _ _ _;refine ⟨Le.refl _,QN,?_⟩)))|(apply Ia;kernel_rfl;exact J;exact J)|(apply Cj;(iterate 4 exact J);(first|(apply Bc (enc:=encS7) (n:=4) (e:=9) L8a;(iterate 3 exact J);exact List.cons_ne_nil _ _;(iterate 4 exact J);exact (fun _=>rfl);exact J;exact J;intro bk hk7 hlek hks;refine ⟨hlek,QN,?_⟩)|(apply Bc (enc:=vaC) (n:=4) (e:=218) [Gi f.day,Gi f.kind,Gi f.known,Jt A (Dq f).length c];(iterate 3 exact J);exact List.cons_ne_nil _ _;(iterate 4 exact J);exact Dw;exact J;exact J;intro bz hz1 hlez hs1;refine ⟨hlez,QN,?_⟩)|(apply Aq;exact J;exact Xp;exact G2a _ _;refine ⟨Le.refl _,QN,?_⟩)|(apply Aq;exact J;exact J0a;exact Jta _ _ _ _;refine ⟨Le.refl _,QN,?_⟩)))|(apply Bm;kernel_rfl;exact J))
     all_goals
      refine Cxa (Nf rfl QK (Rt_S (rs:=[.tmp 2,.tmp 3]) (vs:=[.slice A4 (B9a f).length c4,.int .i64 0]) rfl rfl ⟨rfl,rfl,trivial⟩ (List.nil_sublist _) ⟨rfl,?_⟩))
      show if Cg f then _ else _
      rw [if_pos hg]
      exact ⟨_,_,rfl,hr4⟩
 · repeat' (first|apply Ac|apply Aa|apply Ab|(apply Ad;(iterate 3 exact J))|(apply Ai;exact J;exact Av rfl QM rfl;exact J;exact J)|(apply Af;(iterate 3 exact J);(first|(apply Ao;exact J;intro b;skip)|(apply Aq;exact J;exact Pv;(have:=Na h s f hf hs;rw [if_neg hg] at this;exact this);skip)))|(apply Aj;exact J;all_goals (intro hc;try simp only [hcS,reduceCtorEq] at hc;try (exfalso;omega)))|(apply Df;(iterate 4 exact J)))
   rw [if_neg hg]
end Go.Hw
namespace Go.Hw
open Go
attribute [local irreducible] GO GOl GDp Val Fn Res At Fx Blk By Dk Cl Has Yl
open Go.Proofs (Tryz.prog)
theorem Kea:∀ (a b:List UInt8),Lib.compareBytes a b=Tv a b
 | [],[]=>rfl
 | [],_::_=>rfl
 | _::_,[]=>rfl
 | a::x,b::y=>by
   unfold Lib.compareBytes Tv
   rw [Kea x y]
   simp only [UInt8.lt_iff_toNat_lt]
theorem run_cmp7 {P:Program}{w:World}{h:Ro}(hl:Le h (mem w)){A B:Option Addr}{n c m d:Nat}{x y:List UInt8}(hx:Cc Il 1 h A n x)(hy:Cc Il 1 h B m y) :
  (Extern.BytealgCompare.compare (Array.mk [Value.slice A n c,.slice B m d])).run P w=.ok (.int .i64 (Tv x y)) w:=by
 change Sem.run P (do pure (goInt (Extern.BytealgCompare.cmp (← Extern.Bytes.bytesOf (.slice A n c)) (← Extern.Bytes.bytesOf (.slice B m d))))) w=_
 simp only [Sem.run_bind,Wu hl hx,Wu hl hy,Sem.run_pure,Result.andThen]
 rw [Lib.cmp_eq,Kea]
 rfl
theorem isNaN7_c (h:Ro)(a:Int):Val Tryz.prog 67 #[.int .i64 a] h (.bool false):=by
 refine Az (args:=[_]) ts_ok Go.Proofs.Tryz.func67 rfl rfl fun w0 X0 => ?_
 repeat' (first|apply Ac|apply Aa|apply Ab|(apply Ad;(iterate 3 exact J))|(apply Bb;(iterate 3 exact J)))
 all_goals simp [Hm]
theorem Tu (h:Ro)(a b:Int):Val Tryz.prog 28 #[.int .i64 a,.int .i64 b] h (.int .i64 (Ey a b)):=by
 refine Az (args:=[_,_]) ts_ok Go.Proofs.Tryz.func28 rfl rfl fun w0 X0 => ?_
 repeat' (first|apply Ac|apply Au|apply Aa|apply Ab|(apply Ad;(iterate 3 exact J))|(apply Af;(iterate 3 exact J);(first|(apply Aq;exact J;exact has67;exact isNaN7_c _ _;skip)))|(apply Aj;exact J;all_goals (intro hc;try simp only [hcS,reduceCtorEq] at hc;try (exfalso;omega)))|(apply Bb;(iterate 3 exact J)))
 all_goals (unfold Ey;congr 1;(repeat' split) <;> omega)
theorem M3a (h:Ro)(A B:Option Addr)(n c m d:Nat)(x y:List UInt8)(hx:Cc Il 1 h A n x)(hy:Cc Il 1 h B m y):Val Tryz.prog 86 #[.slice A n c,.slice B m d] h (.int .i64 (Tv x y)):=by
 refine Az (args:=[_,_]) ts_ok Go.Proofs.Tryz.func86 rfl rfl fun w0 X0 => ?_
 repeat' (first|apply Ac|apply Aa|apply Ab|(apply Ad;(iterate 3 exact J))|(apply Bd;exact J;exact J;(first|(apply OV_ext (e:=Extern.BytealgCompare.compare);exact J;exact J;kernel_rfl;exact J;kernel_rfl;kernel_rfl;exact fun w hl=>run_cmp7 hl hx hy));exact QA)|(apply Bb;(iterate 3 exact J)))
 all_goals rfl
def orL:List Int→Int
 | []=>0
 | a::l=>if a≠0 then a else orL l
theorem Rx (a:Int)(l:List Int):orL (a::l)=if a≠0 then a else orL l:=rfl
theorem or7_c (h:Ro)(A:Option Addr)(n c:Nat)(l:List Int)(hx:Cc Ex 1 h A n l)(hn:n≤1000000):Val Tryz.prog 27 #[.slice A n c] h (.int .i64 (orL l)):=by
 refine Az (args:=[_]) ts_ok Go.Proofs.Tryz.func27 rfl rfl fun w0 X0 => ?_
 have hlen:=hx.len
 repeat' (first|apply Ac|apply Ak|apply Aa|apply Ab|(apply Ad;(iterate 3 exact J)))
 refine Lh (X:=Nat) (fun k=>k≤n∧orL l=orL (l.drop k)) (fun k=>n-k) (fun k=>[(8,.int .i64 k),(7,.int .i64 n),(6,.slice A n c),(3,.int .i64 0)]) (fun _=>[]) (fun _=>h) 0 ⟨by omega,rfl⟩ QS rfl rfl ?_
 rintro k ⟨hk,ho⟩ ih
 by_cases hkn:k<n
 · have a1:=hx.addrD hkn
   have cc:=hx.cellsD 0 hkn
   have hd:=Zd 0 hlen hkn
   rw [hd] at ho
   generalize l.getD k 0=u at *
   rw [Rx] at ho
   repeat' (first|apply Ac|apply Au|apply Ap|apply Ak|apply Aa|apply Ab|(apply Bg;(iterate 3 exact J);omega;exact J;exact J)|(apply Ad;(iterate 3 exact J))|(apply Bd;exact J;exact J;(first|(apply Be (j:=k);(iterate 5 exact J);exact a1;(with_reducible exact J);omega)|(apply Ar;exact J;exact Bh rfl cc rfl));exact QA)|(apply Aj;exact J;all_goals (intro hc;try simp only [hcS,reduceCtorEq] at hc;try (exfalso;omega)))|(apply Bb;(iterate 3 exact J)))
   all_goals first
    | (have hu:u≠0:=by assumption
       rw [ho,if_pos hu];done)
    | (have hu:u=0:=by assumption
       have h3:=ih (k+1) ⟨by show k+1≤n;omega,by show orL l=orL (l.drop (k+1));rw [ho,if_neg (fun h=>h hu)]⟩ (by show n-(k+1)<n-k;omega)
       refine Bw QS QT (h3))
 · rw [List.drop_eq_nil_of_le (by omega)] at ho
   repeat' (first|apply Ac|apply Aa|apply Ab|(apply Bn;exact J)|(apply Ad;(iterate 3 exact J))|(apply Aj;exact J;all_goals (intro hc;try simp only [hcS,reduceCtorEq] at hc;try (exfalso;omega)))|(apply Bb;(iterate 3 exact J)))
   all_goals (rw [ho];rfl)
theorem cmpF_or (f g:Fct):Jv f g=if orL [Ey f.known g.known,Ey f.day g.day,Ey f.kind g.kind]≠0 then orL [Ey f.known g.known,Ey f.day g.day,Ey f.kind g.kind] else Tv (B9a f) (B9a g):=by
 unfold Jv
 simp only [Rx]
 show _=if (if _ then _ else if _ then _ else if _ then _ else (0:Int))≠0 then (if _ then _ else if _ then _ else if _ then _ else (0:Int)) else _
 by_cases h1:Ey f.known g.known=0
 · by_cases h2:Ey f.day g.day=0
   · by_cases h3:Ey f.kind g.kind=0
     · simp [h1,h2,h3]
     · simp [h1,h2,h3]
   · simp [h1,h2]
 · simp [h1]
open Classical in
theorem Hx (h:Ro)(hG:Kg h)(s t:Fsh)(f g:Fct)(hf:FAt h s f)(hs:FSm f)(hg:FAt h t g)(ht:FSm g)(of:Cg f)(og:Cg g):Res Tryz.prog 47 #[Fc s f,Fc t g] h (fun u h'=>u=.int .i64 (Jv f g)):=by
 refine Bq (args:=[_,_]) ts_ok Go.Proofs.Tryz.func47 rfl rfl fun w0 X0 => ?_
 have hcf:=cmpF_or f g
 generalize hor:orL [Ey f.known g.known,Ey f.day g.day,Ey f.kind g.kind]=o at *
 repeat' (first|apply Ac|apply Au|apply Aa|apply Ab|(apply Ad;(iterate 3 exact J))|(apply Ai;exact J;exact Av rfl QM rfl;exact J;exact J)|(apply Af;(iterate 3 exact J);(first|(apply Ao;exact J;intro b;skip)|(apply Ay;exact J;exact has85;exact E5a _ (hG.le QL) s f (hf.le QL) hs;intro v2 h2 hle2 hq2;rw [if_pos of] at hq2;obtain ⟨A2,c2,rfl,hr2⟩:=hq2;skip)|(apply Ay;exact J;exact has85;exact E5a _ (hG.le QL) t g (hg.le QL) ht;intro v3 h3 hle3 hq3;rw [if_pos og] at hq3;obtain ⟨A3,c3,rfl,hr3⟩:=hq3;skip)|(apply Aq;exact J;exact has86;exact M3a _ _ _ _ _ _ _ _ _ (hr2.le QL) (hr3.le QL);skip)))|(apply Bf (n:=1) [0,1,2,3,4,5,6,7,8,9,10,11,12,13,14,15,16,17] [(0,0),(1,0),(2,0),(3,0),(5,0),(6,0),(7,0),(8,0),(10,0),(11,0),(12,0),(13,0),(4,1),(9,1),(14,1),(15,1),(16,1),(17,0)];kernel_rfl)|(apply Ce;exact J;kernel_rfl;(iterate 3 exact J))|(apply Bj;exact J;kernel_rfl;(iterate 3 exact J);exact QM;exact J;exact J)|(apply Br;exact J;kernel_rfl;(iterate 3 exact J);(first|(apply Bu (e:=3) (cs:=[Ey f.known g.known,Ey f.day g.day,Ey f.kind g.kind].map fun i=>.int .i64 i);(iterate 3 exact J);exact List.cons_ne_nil _ _;(iterate 4 exact J);intro b1 h1 hle1 hcs1;refine ⟨hle1,QN,?_⟩)|(apply Aq;exact J;exact has27;(have hv7:=or7_c _ _ 3 3 [Ey f.known g.known,Ey f.day g.day,Ey f.kind g.kind] (Gv hcs1) (by omega);rw [hor] at hv7;exact hv7);refine ⟨Le.refl _,QN,?_⟩)|(apply Aq;exact J;exact Mca;exact Tu _ _ _;refine ⟨Le.refl _,QN,?_⟩)))|(apply Bm;kernel_rfl;exact J)|(apply Aj;exact J;all_goals (intro hc;try simp only [hcS,reduceCtorEq] at hc;try (exfalso;omega)))|(apply Cb;(iterate 3 exact J)))
 all_goals first
  | (rw [hcf,if_pos (by assumption)];done)
  | (have ho:o=0:=by assumption
     rw [hcf,if_neg (fun h=>h ho)];done)
end Go.Hw
