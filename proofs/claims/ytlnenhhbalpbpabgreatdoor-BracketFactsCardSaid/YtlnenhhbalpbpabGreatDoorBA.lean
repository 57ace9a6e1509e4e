import Derived.Test.YtlnenhhbalpbpabGreatDoorFE
import Derived.Test.YtlnenhhbalpbpabGreatDoorGA
import Derived.Test.YtlnenhhbalpbpabGreatDoorHB
set_option linter.all false
namespace Go.Hw
open Go
def Jb (r:Dm):List Value:=[.int .i64 r.g.s,.int .i64 r.g.c,.int .i64 r.g.h,.int .i64 r.g.a,.int .i64 r.hg,.int .i64 r.ag,.int .i64 r.hp,.int .i64 r.ap,.int .i64 r.hc,.int .i64 r.ac,.int .i64 r.day,.bool r.forf,.bool r.both]
abbrev Bga (r:Dm):Value:=.agg (Jb r).toArray
theorem Gl (r:Dm):(Jb r).length=13:=rfl
theorem Rs (r:Dm):∀ u∈Jb r,u.oneCell'=true:=Ci rfl
def resO (o:Option Dm):Value:=.tuple #[Bga (o.getD Ep),.bool o.isSome]
end Go.Hw
namespace Go.Hw
open Go
abbrev Rf (b:Nat):Value:=.pointer (some ⟨b,0,none⟩)
def tieC (t:Dh):List Value:=[.int .i64 t.legs,.bool t.away]
abbrev Gca (t:Dh):Value:=.agg (tieC t).toArray
abbrev DuS:=Sli×Bp
def Mra (s:Sli) (d:Bp):List Value:=[.int .i64 d.a,.int .i64 d.b,.slice s.A s.n s.c]
abbrev Yc (s:Sli) (d:Bp):Value:=.agg (Mra s d).toArray
def Hb (p:DuS):List Value:=Mra p.1 p.2
theorem Jk (p:DuS):(Hb p).length=3:=rfl
theorem E6a (p:DuS):∀ u∈Hb p,u.oneCell'=true:=Ci rfl
def duel0:Bp:=⟨0,0,[]⟩
def du0:DuS:=(Ja,duel0)
def K7a (h:Ro) (p:DuS):Prop:=Cc Jb 13 h p.1.A p.1.n p.2.ls∧p.1.n≤p.1.c
theorem K7a.le {h h':Ro}{p:DuS}(a:K7a h p)(hl:Le h h'):K7a h' p:=⟨a.1.le hl,a.2⟩
theorem K7a.len {h:Ro}{p:DuS}(a:K7a h p):p.2.ls.length=p.1.n:=a.1.len
abbrev RdS:=Sli×List DuS
def Jz (r:RdS):List Value:=[.slice r.1.A r.1.n r.1.c]
theorem Kn (r:RdS):(Jz r).length=1:=rfl
theorem Xz (r:RdS):∀ u∈Jz r,u.oneCell'=true:=Ci rfl
def rd0:RdS:=(Ja,[])
def Ch (l:List DuS):List Bp:=l.map (·.2)
theorem Pj (l:List DuS)(p:DuS):Ch (l++[p])=Ch l++[p.2]:=by unfold Ch;rw [List.map_append];rfl
theorem Em (l:List DuS):(Ch l).length=l.length:=by unfold Ch;exact List.length_map _
structure Nfa (h:Ro) (A:Option Addr) (n:Nat) (l:List DuS):Prop where
 row:Cc Hb 3 h A n l
 each:∀ p∈l,K7a h p
theorem Nfa.le {h h':Ro}{A:Option Addr}{n:Nat}{l:List DuS}(a:Nfa h A n l)(hl:Le h h'):Nfa h' A n l:=⟨a.row.le hl,fun p hp=>(a.each p hp).le hl⟩
def Iha (h:Ro) (r:RdS):Prop:=Nfa h r.1.A r.1.n r.2∧r.1.n≤r.1.c
theorem Iha.le {h h':Ro}{r:RdS}(a:Iha h r)(hl:Le h h'):Iha h' r:=⟨a.1.le hl,a.2⟩
structure Fua (h:Ro) (A:Option Addr) (n:Nat) (l:List RdS):Prop where
 row:Cc Jz 1 h A n l
 each:∀ r∈l,Iha h r
theorem Fua.le {h h':Ro}{A:Option Addr}{n:Nat}{l:List RdS}(a:Fua h A n l)(hl:Le h h'):Fua h' A n l:=⟨a.row.le hl,fun p hp=>(a.each p hp).le hl⟩
def rounds (l:List RdS):List (List Bp):=l.map fun r=>Ch r.2
theorem Fh (l:List RdS):(rounds l).length=l.length:=by unfold rounds;exact List.length_map _
def brC (s:Sli) (t:Dh):List Value:=[.int .i64 t.legs,.bool t.away,.slice s.A s.n s.c]
abbrev brV (s:Sli) (t:Dh):Value:=.agg (brC s t).toArray
structure C2a (h:Ro) (s:Sli) (l:List RdS) (b:FBr):Prop where
 rs:Fua h s.A s.n l
 is:b.rs=rounds l
 nc:s.n≤s.c
theorem C2a.le {h h':Ro}{s:Sli}{l:List RdS}{b:FBr}(a:C2a h s l b)(hl:Le h h'):C2a h' s l b:=⟨a.rs.le hl,a.is,a.nc⟩
theorem C2a.zero (h:Ro):C2a h Ja [] br0:=⟨⟨Cc.nil,fun p hp=>absurd hp (by simp)⟩,rfl,Nat.le_refl _⟩
def Yv (h:Ro) (u:Value) (b:FBr) (e:Int):Prop:=∃ s l,u=.tuple #[brV s b.t,.int .i64 e]∧C2a h s l b
end Go.Hw
set_option maxRecDepth 100000
set_option maxHeartbeats 8000000
namespace Go.Hw
open Go
attribute [local irreducible] GO GOl GDp Val Fn Res At Fx Blk By Dk Cl Has Yl
open Go.Proofs (Tryz.prog)
def Lwa (m n:Int):Bool:=decide (n<0∨m<n)
theorem F5a (h:Ro)(x m:Int)(b1:Nat)(h1:At h ⟨b1,0,none⟩ [.int .i64 m]):Val Tryz.prog 118 #[.int .i64 x,.pointer (some ⟨b1,0,none⟩)] h (.bool (Lwa m x)):=by
 refine Az (args:=[_,_]) ts_ok Go.Proofs.Tryz.func118 rfl rfl fun w0 X0 => ?_
 unfold Lwa
 repeat' (first|apply Ac|apply Aa|apply Ab|(apply Aw;exact J;exact J)|(apply Ad;(iterate 3 exact J))|(apply Bd;exact J;exact J;(first|(apply Ar;exact J;first|exact Bh rfl (by assumption) rfl|exact Dc rfl (by assumption) rfl|exact Db rfl (by assumption) rfl|exact Lv_roF3 rfl (by assumption) rfl));exact QA)|(apply Ba;exact J;exact J;all_goals (intro hc;try simp only [hcS,reduceCtorEq] at hc;try (exfalso;omega)))|(apply Bb;(iterate 3 exact J)))
 all_goals (refine Dg ?_;(try rw [ltI_t]);grind)
theorem Tc (h:Ro)(m:Int)(A:Option Addr)(n c:Nat)(xs:List Int)(hx:Cc Ex 1 h A n xs)(hn:n≤1000):Val Tryz.prog 72 #[.int .i64 m,.slice A n c] h (.bool (!(xs.any (Lwa m)))):=by
 refine Az (args:=[_,_]) ts_ok Go.Proofs.Tryz.func72 rfl rfl fun w0 X0 => ?_
 generalize hb:xs.any (Lwa m)=q at *
 repeat' (first|apply Ac|apply Aa|apply Ab|(apply Ad;(iterate 3 exact J))|(apply Af;(iterate 3 exact J);(first|(apply Ao;exact J;intro b;skip)|(refine Cq (cs:=[.int .i64 m]) QK ?_;intro h1 hle1 hc1;apply Aq;exact J;exact has78;(have hv:=Cca h1 A n c xs (hx.le hle1) (by omega) 118 [] [.pointer (some ⟨_,0,none⟩)] (Lwa m) has118 (fun x _=>F5a h1 x m _ hc1);rw [hb] at hv;exact hv);skip))))
 all_goals first
  | (exact Bb rfl rfl rfl rfl)
theorem Lx (m:Int)(xs:List Int):(!(xs.any (Lwa m)))=true↔∀ x∈xs,0≤x∧x≤m:=by
 rw [Bool.not_eq_true',List.any_eq_false]
 unfold Lwa
 constructor
 · intro h x hx
   have:=h x hx
   rw [decide_eq_true_eq] at this
   omega
 · intro h x hx
   have:=h x hx
   rw [decide_eq_true_eq]
   omega
theorem resOk_w (r:Dm):Hc r↔Fd r.g∧(!([r.hg,r.ag,r.hp,r.ap].any (Lwa 99)))=true∧(!([r.hc,r.ac].any (Lwa 120)))=true∧(!([r.day].any (Lwa 1048576)))=true∧(r.g.c<8→r.hp+r.ap=0) ∧
  (if r.forf=true then (if r.both=true then r.hg=0∧r.ag=0 else (r.hg=0∧r.ag=3)∨(r.hg=3∧r.ag=0))∧r.hp+r.ap+r.hc+r.ac=0 else r.both=false):=by
 rw [Lx,Lx,Lx]
 unfold Hc Bel
 simp only [List.mem_cons,List.not_mem_nil,or_false,forall_eq_or_imp,forall_eq]
 constructor
 · rintro ⟨h1,h2,h3,h4,h5,h6,h7,h8,h9,h10⟩
   exact ⟨h1,⟨by omega,by omega,by omega,by omega⟩,⟨by omega,by omega⟩,by omega,h9,h10⟩
 · rintro ⟨h1,⟨h2,h3,h4,h5⟩,⟨h6,h7⟩,h8,h9,h10⟩
   exact ⟨h1,by omega,by omega,by omega,by omega,by omega,by omega,by omega,h9,h10⟩
theorem Fea (h:Ro)(r:Dm):Res Tryz.prog 30 #[Bga r] h (fun u _=>u=.int .i64 (if Hc r then 0 else 1)):=by
 refine Bq (args:=[_]) ts_ok Go.Proofs.Tryz.func30 rfl rfl fun w0 X0 => ?_
 have hgm:=fun h'=>Xr h' r.g
 have hR:=fun (_:Unit)=>resOk_w r
 have i1:=Lx 99 [r.hg,r.ag,r.hp,r.ap]
 have i2:=Lx 120 [r.hc,r.ac]
 have w1:=fun h' A (hs:Cc Ex 1 h' A 4 [r.hg,r.ag,r.hp,r.ap])=>Tc h' 99 A 4 4 _ hs (by decide)
 have w2:=fun h' A (hs:Cc Ex 1 h' A 2 [r.hc,r.ac])=>Tc h' 120 A 2 2 _ hs (by decide)
 have w3:=fun h' A (hs:Cc Ex 1 h' A 1 [r.day])=>Tc h' 1048576 A 1 1 _ hs (by decide)
 generalize (!([r.hg,r.ag,r.hp,r.ap].any (Lwa 99)))=q1 at *
 generalize (!([r.hc,r.ac].any (Lwa 120)))=q2 at *
 generalize (!([r.day].any (Lwa 1048576)))=q3 at *
 simp only [List.mem_cons,List.not_mem_nil,or_false,forall_eq_or_imp,forall_eq] at i1 i2
 by_cases hgo:Fd r.g
 · simp only [if_pos hgo] at hgm
   by_cases hq:q1=true∧q2=true∧q3=true
   · obtain ⟨rfl,rfl,rfl⟩:=hq
     obtain ⟨⟨u1,u2⟩,⟨u3,u4⟩,⟨u5,u6⟩,u7,u8⟩:=i1.1 rfl
     obtain ⟨⟨u9,u10⟩,u11,u12⟩:=i2.1 rfl
     clear i1 i2
     all_goals
      repeat' (first|apply Ac|apply Au|apply Aa|apply Ab|(apply Aw;exact J;exact J)|(apply Bg;(iterate 3 exact J);omega;exact J;exact J)|(apply Ad;(iterate 3 exact J))|(apply Ai;exact J;exact Av rfl QM rfl;exact J;exact J)|(apply Bd;exact J;exact J;(first|(apply Dj (j:=0);(iterate 5 exact J);omega;omega)|(apply Dj (j:=1);(iterate 5 exact J);omega;omega));exact QA)|(apply Af;(iterate 3 exact J);(first|(apply Ah;(iterate 3 exact J);exact QR;(iterate 3 exact J);skip)|(apply Ao;exact J;intro b;skip)|(apply Ag;exact J;intro b;skip)|(apply Aq;exact J;exact Xo;exact hgm _;skip)|(apply Bc (enc:=Ex) (n:=4) [r.hg,r.ag,r.hp,r.ap];(iterate 3 exact J);exact List.cons_ne_nil _ _;(iterate 4 exact J);exact (fun _=>rfl);exact J;exact J;intro b1 h1 hle1 hs1;skip)|(apply Bc (enc:=Ex) (n:=2) [r.hc,r.ac];(iterate 3 exact J);exact List.cons_ne_nil _ _;(iterate 4 exact J);exact (fun _=>rfl);exact J;exact J;intro b2 h2 hle2 hs2;skip)|(apply Bc (enc:=Ex) (n:=1) [r.day];(iterate 3 exact J);exact List.cons_ne_nil _ _;(iterate 4 exact J);exact (fun _=>rfl);exact J;exact J;intro b3 h3 hle3 hs3;skip)|(apply Aq;exact J;exact has72;(first|exact w1 _ _ hs1|exact w2 _ _ hs2|exact w3 _ _ hs3);skip)))|(apply Aj;exact J;all_goals (intro hc;try simp only [hcS,reduceCtorEq] at hc;try (exfalso;omega)))|(apply Ba;exact J;exact J;all_goals (intro hc;try simp only [hcS,reduceCtorEq] at hc;try (exfalso;omega))))
     all_goals first
      | (exfalso;simp at hc;done)
      | (refine Cb rfl rfl rfl ?_;first|(rw [if_pos ((hR ()).2 ⟨hgo,rfl,rfl,rfl,by omega,by grind⟩)];done)|(rw [if_neg (fun k=>by have k2:=((hR ()).1 k).2.2.2.2;grind)];done))
   · have hno:¬ Hc r:=fun k=>hq (by have k2:=(hR ()).1 k;exact ⟨k2.2.1,k2.2.2.1,k2.2.2.2.1⟩)
     rw [if_neg hno]
     clear hR i1 i2 hno
     cases q1
     all_goals (try cases q2)
     all_goals (try cases q3)
     all_goals (try (exfalso;simp at hq;done))
     all_goals
      repeat' (first|apply Ac|apply Aa|apply Ab|(apply Aw;exact J;exact J)|(apply Ad;(iterate 3 exact J))|(apply Ai;exact J;exact Av rfl QM rfl;exact J;exact J)|(apply Af;(iterate 3 exact J);(first|(apply Ao;exact J;intro b;skip)|(apply Aq;exact J;exact Xo;exact hgm _;skip)|(apply Bc (enc:=Ex) (n:=4) [r.hg,r.ag,r.hp,r.ap];(iterate 3 exact J);exact List.cons_ne_nil _ _;(iterate 4 exact J);exact (fun _=>rfl);exact J;exact J;intro b1 h1 hle1 hs1;skip)|(apply Bc (enc:=Ex) (n:=2) [r.hc,r.ac];(iterate 3 exact J);exact List.cons_ne_nil _ _;(iterate 4 exact J);exact (fun _=>rfl);exact J;exact J;intro b2 h2 hle2 hs2;skip)|(apply Bc (enc:=Ex) (n:=1) [r.day];(iterate 3 exact J);exact List.cons_ne_nil _ _;(iterate 4 exact J);exact (fun _=>rfl);exact J;exact J;intro b3 h3 hle3 hs3;skip)|(apply Aq;exact J;exact has72;(first|exact w1 _ _ hs1|exact w2 _ _ hs2|exact w3 _ _ hs3);skip)))|(apply Aj;exact J;all_goals (intro hc;try simp only [hcS,reduceCtorEq] at hc;try (exfalso;omega)))|(apply Ba;exact J;exact J;all_goals (intro hc;try simp only [hcS,reduceCtorEq] at hc;try (exfalso;omega))))
     all_goals first
      | (exfalso;simp at hc;done)
      | (exact Cb rfl rfl rfl rfl)
 · simp only [if_neg hgo] at hgm
   rw [if_neg (fun k=>hgo ((hR ()).1 k).1)]
   repeat' (first|apply Ac|apply Aa|apply Ab|(apply Aw;exact J;exact J)|(apply Ad;(iterate 3 exact J))|(apply Ai;exact J;exact Av rfl QM rfl;exact J;exact J)|(apply Af;(iterate 3 exact J);(first|(apply Ao;exact J;intro b;skip)|(apply Aq;exact J;exact Xo;exact hgm _;skip)))|(apply Aj;exact J;all_goals (intro hc;try simp only [hcS,reduceCtorEq] at hc;try (exfalso;omega)))|(apply Ba;exact J;exact J;all_goals (intro hc;try simp only [hcS,reduceCtorEq] at hc;try (exfalso;omega))))
   all_goals first
    | (exfalso;omega)
    | (exact Cb rfl rfl rfl rfl)
end Go.Hw
namespace Go.Hw
open Go
attribute [local irreducible] GO GOl GDp Val Fn Res At Fx Blk By Dk Cl Has Yl
open Go.Proofs (Tryz.prog)
theorem Og (h:Ro)(t:Dh):Val Tryz.prog 16 #[Gca t] h (.bool (decide (Ik t))):=by
 refine Az (args:=[_]) ts_ok Go.Proofs.Tryz.func16 rfl rfl fun w0 X0 => ?_
 repeat' (first|apply Ac|apply Aa|apply Ab|(apply Aw;exact J;exact J)|(apply Ad;(iterate 3 exact J))|(apply Ai;exact J;exact Av rfl QM rfl;exact J;exact J)|(apply Af;(iterate 3 exact J);(first|(apply Ao;exact J;intro b;skip)))|(apply Ba;exact J;exact J;all_goals (intro hc;try simp only [hcS,reduceCtorEq] at hc;try (exfalso;omega)))|(apply Bb;(iterate 3 exact J)))
 all_goals (refine Dg ?_;(try rw [Kt]);unfold Ik;grind)
theorem Bta (h:Ro)(n:Int):Val Tryz.prog 75 #[.int .i64 n] h (.bool (decide (Bel n 192))):=by
 refine Az (args:=[_]) ts_ok Go.Proofs.Tryz.func75 rfl rfl fun w0 X0 => ?_
 repeat' (first|apply Ac|apply Aa|apply Ab|(apply Aw;exact J;exact J)|(apply Ad;(iterate 3 exact J))|(apply Ba;exact J;exact J;all_goals (intro hc;try simp only [hcS,reduceCtorEq] at hc;try (exfalso;omega)))|(apply Bb;(iterate 3 exact J)))
 all_goals (refine Dg ?_;(try rw [ltI_t]);unfold Bel;grind)
def bduC (s:Sli) (d:Bp) (t:Dh):List Value:=[.int .i64 d.a,.int .i64 d.b,.slice s.A s.n s.c,.int .i64 t.legs,.bool t.away]
abbrev bduV (s:Sli) (d:Bp) (t:Dh):Value:=.agg (bduC s d t).toArray
theorem leg_c (h:Ro)(s:Sli)(d:Bp)(t:Dh)(i:Int):Val Tryz.prog 73 #[bduV s d t,.int .i64 i] h (.tuple #[.int .i64 (if i=0 then d.a else d.b),.int .i64 (if i=0 then d.b else d.a)]):=by
 refine Az (args:=[_,_]) ts_ok Go.Proofs.Tryz.func73 rfl rfl fun w0 X0 => ?_
 by_cases hi:i=0
 · rw [if_pos hi,if_pos hi]
   repeat' (first|apply Ac|apply Aa|apply Ab|(apply Ad;(iterate 3 exact J))|(apply Af;(iterate 3 exact J);(first|(apply Ao;exact J;intro b;skip)))|(apply Bf (n:=2) [0,1,2,6,3,4,5,7] [(0,0),(1,0),(2,0),(3,0),(4,0),(5,0),(6,0),(7,0)];kernel_rfl)|(apply Ce;exact J;kernel_rfl;(iterate 3 exact J))|(apply Bj;exact J;kernel_rfl;(iterate 3 exact J);exact QM;exact J;exact J)|(apply Bm;kernel_rfl;exact J)|(apply Aj;exact J;all_goals (intro hc;try simp only [hcS,reduceCtorEq] at hc;try (exfalso;omega)))|(apply K6a;(iterate 4 exact J)))
   all_goals first|rfl|(exfalso;omega)
 · rw [if_neg hi,if_neg hi]
   repeat' (first|apply Ac|apply Au|apply Aa|apply Ab|(apply Ad;(iterate 3 exact J))|(apply Af;(iterate 3 exact J);(first|(apply Ao;exact J;intro b;skip)))|(apply Bf (n:=3) [0,1,2,6,3,4,5,7] [(0,0),(1,0),(2,0),(3,0),(4,0),(5,0),(6,0),(7,0)];kernel_rfl)|(apply Ce;exact J;kernel_rfl;(iterate 3 exact J))|(apply Bj;exact J;kernel_rfl;(iterate 3 exact J);exact QM;exact J;exact J)|(apply Bm;kernel_rfl;exact J)|(apply Aj;exact J;all_goals (intro hc;try simp only [hcS,reduceCtorEq] at hc;try (exfalso;omega)))|(apply K6a;(iterate 4 exact J)))
   all_goals first|rfl|(exfalso;omega)
theorem leg_nat (h:Ro)(s:Sli)(d:Bp)(t:Dh)(k:Nat):Val Tryz.prog 73 #[bduV s d t,.int .i64 (k:Int)] h (.tuple #[.int .i64 (legA d k),.int .i64 (legB d k)]):=by
 have:=leg_c h s d t k
 unfold legA legB
 by_cases hk:k=0
 · subst hk;exact this
 · rw [if_neg (by omega),if_neg (by omega)] at this
   rw [if_neg hk,if_neg hk];exact this
theorem full_c (h:Ro)(s:Sli)(d:Bp)(t:Dh)(hs:d.ls.length=s.n):Val Tryz.prog 38 #[bduV s d t] h (.bool (decide (Hr d t))):=by
 refine Az (args:=[_]) ts_ok Go.Proofs.Tryz.func38 rfl rfl fun w0 X0 => ?_
 repeat' (first|apply Ac|apply Aa|apply Ab|(apply Ad;(iterate 3 exact J))|(apply Ai;exact J;exact Av rfl QM rfl;exact J;exact J)|(apply Af;(iterate 3 exact J);(first|(apply Ao;exact J;intro b;skip)))|(apply Bb;(iterate 3 exact J)))
 all_goals (refine Dg ?_;rw [Bra];unfold Hr;rw [hs])
theorem waits_c (h:Ro)(s:Sli)(d:Bp)(t:Dh)(hs:d.ls.length=s.n)(x:Dm):Val Tryz.prog 34 #[bduV s d t,Bga x] h (.bool (decide (Py d t x))):=by
 refine Az (args:=[_,_]) ts_ok Go.Proofs.Tryz.func34 rfl rfl fun w0 X0 => ?_
 have hl:=leg_nat h s d t s.n
 have hf:=full_c h s d t hs
 repeat' (first|apply Ac|apply Aa|apply Ab|(apply Aw;exact J;exact J)|(apply Ad;(iterate 3 exact J))|(apply Ai;exact J;exact Av rfl QM rfl;exact J;exact J)|(apply Af;(iterate 3 exact J);(first|(apply Ao;exact J;intro b;skip)|(apply Aq;exact J;exact has73;exact hl;skip)|(apply Aq;exact J;exact Maa;exact hf;skip)))|(apply Ba;exact J;exact J;all_goals (intro hc;try simp only [hcS,reduceCtorEq] at hc;try (exfalso;omega)))|(apply Bb;(iterate 3 exact J)))
 all_goals (refine Dg ?_;(try simp only [Bool.not_eq_true',Kt,decide_eq_false_iff_not]);unfold Py;rw [hs];grind)
theorem Wr (h:Ro)(x y:Dm):Val Tryz.prog 35 #[Bga x,Bga y] h (.bool (decide (Cx x y))):=by
 refine Az (args:=[_,_]) ts_ok Go.Proofs.Tryz.func35 rfl rfl fun w0 X0 => ?_
 repeat' (first|apply Ac|apply Aa|apply Ab|(apply Aw;exact J;exact J)|(apply Ad;(iterate 3 exact J))|(apply Ai;exact J;exact Av rfl QM rfl;exact J;exact J)|(apply Af;(iterate 3 exact J);(first|(apply Ao;exact J;intro b;skip)))|(apply Ba;exact J;exact J;all_goals (intro hc;try simp only [hcS,reduceCtorEq] at hc;try (exfalso;omega)))|(apply Bb;(iterate 3 exact J)))
 all_goals (refine Dg ?_;(try rw [Kt]);unfold Cx;grind)
structure DuG (h:Ro) (s:Sli) (d:Bp):Prop where
 at':K7a h (s,d)
 few:s.n≤2
 ok:∀ x∈d.ls,Hc x
theorem DuG.le {h h':Ro}{s:Sli}{d:Bp}(g:DuG h s d)(hl:Le h h'):DuG h' s d:=⟨g.at'.le hl,g.few,g.ok⟩
theorem DuG.of {h:Ro}{s:Sli}{d:Bp}{t:Dh}(a:K7a h (s,d))(o:Nq d t):DuG h s d:=⟨a,by
 have h1:=o.ok0.2.2.2.2
 have h2:=o.ok0.1
 have h3:=a.len
 unfold Ik at h2
 dsimp only at h3
 omega,o.res⟩
def LeadB (l:C1a) (k:Nat):Prop:=-(99 * (k:Int))≤l.goals∧l.goals≤99 * (k:Int) ∧ -(99 * (k:Int))≤l.away∧l.away≤99 * (k:Int) ∧ -99≤l.pens∧l.pens≤99
theorem Xf (ls:List Dm)(x:Dm):Sd 0 ⟨0,0,0⟩ (ls++[x])=Ve (Sd 0 ⟨0,0,0⟩ ls) ls.length x:=by rw [Aha,Nat.zero_add]
theorem leadB_all {ls:List Dm}(h:∀ x∈ls,Hc x):LeadB (Sd 0 ⟨0,0,0⟩ ls) ls.length:=by
 refine Dka (P:=fun ls=>(∀ x∈ls,Hc x)→LeadB (Sd 0 ⟨0,0,0⟩ ls) ls.length) (fun _=>by unfold LeadB Sd;simp) (fun l x ih h => ?_) ls h
 have h1:=ih fun y hy=>h y (by simp [hy])
 have h2:=h x (by simp)
 rw [Xf,List.length_append,List.length_singleton]
 unfold LeadB at h1 ⊢
 have:=leadS_bd (l:=Sd 0 ⟨0,0,0⟩ l) (i:=l.length) h2 (99 * (l.length:Int)) h1
 omega
def leadC (l:C1a):List Value:=[.int .i64 l.goals,.int .i64 l.away,.int .i64 l.pens]
theorem lead_c (h:Ro)(s:Sli)(d:Bp)(t:Dh)(hg:DuG h s d):Res Tryz.prog 74 #[bduV s d t] h (fun u _=>u=.agg (leadC (Oe d)).toArray):=by
 refine Bq (args:=[_]) ts_ok Go.Proofs.Tryz.func74 rfl rfl fun w0 X0 => ?_
 have hx:=hg.at'.1
 have hn:=hg.few
 have hok:=hg.ok
 dsimp only at hx
 have hlen:=hx.len
 have hB:=fun k=>leadB_all (ls:=d.ls.take k) (fun x hx=>hok x (List.mem_of_mem_take hx))
 repeat' (first|apply Ac|apply Ak|apply Aa|apply Ab|(apply Af;(iterate 3 exact J);apply Ag (e:=145);exact J;intro bL)|(apply Ad;(iterate 3 exact J))|(apply Ai;exact J;exact Av rfl QM rfl;exact J;exact J)|(apply Af;(iterate 3 exact J);(first|(apply Ao;exact J;intro b;skip))))
 refine Bt (X:=Nat) (fun k=>k≤s.n) (fun k=>s.n-k) (fun k=>[(9,.int .i64 k),(8,.int .i64 s.n),(7,.slice s.A s.n s.c),(2,Rf bL)])
  (fun k=>[Blk bL 145 (leadC (Sd 0 ⟨0,0,0⟩ (d.ls.take k)))]) (fun _=>h) 0 (by omega) QS QT rfl ?_
 rintro k hk ih
 by_cases hkn:k<s.n
 · have a1:=hx.addrD hkn
   have c1:At h ((addrD s.A).add (k * I6a.size)) (Jb (d.ls.getD k Ep)):=hx.cellsD Ep hkn
   have et:=Fq Ep (xs:=d.ls) hlen hkn
   have hm:=mem7 Ep (show k<d.ls.length by omega)
   generalize d.ls.getD k Ep=x at *
   obtain ⟨_,⟨u1,u2⟩,⟨u3,u4⟩,⟨u5,u6⟩,⟨u7,u8⟩,_⟩:=hok x hm
   have h3:=ih (k+1) (by omega) (by omega)
   rw [et,Xf,List.length_take,Nat.min_eq_left (show k≤d.ls.length by omega)] at h3
   have hb:=hB k
   rw [List.length_take,Nat.min_eq_left (show k≤d.ls.length by omega)] at hb
   generalize Sd 0 ⟨0,0,0⟩ (d.ls.take k)=z at *
   unfold LeadB at hb
   unfold Ve at h3
   clear ih hok hB et
   by_cases k0:k=0
   · rw [if_pos k0] at h3
     repeat' (first|apply Ac|apply Au|apply Ap|apply Ak|apply Aa|apply Ab|(apply Af;(iterate 3 exact J);apply Ag (e:=64);exact J;intro bX)|(apply Bg;(iterate 3 exact J);omega;exact J;exact J)|(apply Lt;(iterate 3 exact J);omega;exact J;exact J)|(apply Ad;(iterate 3 exact J))|(apply Ai;exact J;exact Av rfl QM rfl;exact J;exact J)|(apply Bd;exact J;exact J;(first|(apply Be (j:=k);(iterate 5 exact J);exact a1;(with_reducible exact J);omega)|(apply Ar;exact J;exact Bh rfl c1 rfl));exact QA)|(apply Af;(iterate 3 exact J);(first|(apply Ah;(iterate 3 exact J);exact QR;(iterate 3 exact J);skip)))|(apply Aj;exact J;all_goals (intro hc;try simp only [hcS,reduceCtorEq] at hc;try (exfalso;omega))))
     all_goals first
      | (exfalso;omega)
      | (refine Bw QS QT (h3))
   · rw [if_neg k0] at h3
     repeat' (first|apply Ac|apply Au|apply Ap|apply Ak|apply Aa|apply Ab|(apply Af;(iterate 3 exact J);apply Ag (e:=64);exact J;intro bX)|(apply Bg;(iterate 3 exact J);omega;exact J;exact J)|(apply Lt;(iterate 3 exact J);omega;exact J;exact J)|(apply Ad;(iterate 3 exact J))|(apply Ai;exact J;exact Av rfl QM rfl;exact J;exact J)|(apply Bd;exact J;exact J;(first|(apply Be (j:=k);(iterate 5 exact J);exact a1;(with_reducible exact J);omega)|(apply Ar;exact J;exact Bh rfl c1 rfl));exact QA)|(apply Af;(iterate 3 exact J);(first|(apply Ah;(iterate 3 exact J);exact QR;(iterate 3 exact J);skip)))|(apply Aj;exact J;all_goals (intro hc;try simp only [hcS,reduceCtorEq] at hc;try (exfalso;omega))))
     all_goals first
      | (exfalso;omega)
      | (refine Bw QS QT (h3))
 · rw [List.take_of_length_le (by omega)]
   rw [show Sd 0 ⟨0,0,0⟩ d.ls=Oe d from rfl]
   clear ih
   generalize Oe d=z
   repeat' (first|apply Ac|apply Aa|apply Ab|(apply Bn;exact J)|(apply Ad;(iterate 3 exact J))|(apply Ai;exact J;exact Av rfl QM rfl;exact J;exact J)|(apply Af;(iterate 3 exact J);(first|(apply Ah;(iterate 3 exact J);exact QR;(iterate 3 exact J);skip)))|(apply Aj;exact J;all_goals (intro hc;try simp only [hcS,reduceCtorEq] at hc;try (exfalso;omega))))
   all_goals first
    | (exfalso;omega)
    | (exact Gy rfl rfl rfl QM rfl rfl rfl)
end Go.Hw
namespace Go.Hw
open Go
attribute [local irreducible] GO GOl GDp Val Fn Res At Fx Blk By Dk Cl Has Yl
open Go.Proofs (Tryz.prog)
def Laa (d:Bp) (t:Dh):Value:=.tuple #[.int .i64 (if Hr d t then (if 0<Sc d t then d.a else d.b) else 0),.bool (Ke d t).isSome]
theorem winV_open {d:Bp}{t:Dh}(h:¬ Hr d t):Laa d t=.tuple #[.int .i64 0,.bool false]:=by
 unfold Laa;rw [if_neg h,open_win h];rfl
theorem K9a {d:Bp}{t:Dh}(h:Hr d t)(k:0<Sc d t):Laa d t=.tuple #[.int .i64 d.a,.bool true]:=by
 unfold Laa Ke;rw [if_pos h,if_pos k,if_pos h,if_pos k];rfl
theorem F7a {d:Bp}{t:Dh}(h:Hr d t)(k:¬ 0<Sc d t):Laa d t=.tuple #[.int .i64 d.b,.bool (ltI (Sc d t) 0)]:=by
 unfold Laa Ke;rw [if_pos h,if_neg k,if_pos h,if_neg k,Xe]
 by_cases k2:Sc d t<0
 · rw [if_pos k2,decide_eq_true k2];rfl
 · rw [if_neg k2,decide_eq_false k2];rfl
theorem Nw {d:Bp}{t:Dh}{w:Int}(h:Ke d t=some w):Laa d t=.tuple #[.int .i64 w,.bool true]:=by
 unfold Laa
 rw [h]
 unfold Ke at h
 by_cases k1:Hr d t
 · rw [if_pos k1] at h ⊢
   by_cases k2:0<Sc d t
   · rw [if_pos k2] at h ⊢;cases h;rfl
   · rw [if_neg k2] at h ⊢
     by_cases k3:Sc d t<0
     · rw [if_pos k3] at h;cases h;rfl
     · rw [if_neg k3] at h;cases h
 · rw [if_neg k1] at h;cases h
theorem Ly {d:Bp}{t:Dh}(h:Ke d t=none):∃ q,Laa d t=.tuple #[.int .i64 q,.bool false]:=by
 unfold Laa;rw [h];exact ⟨_,rfl⟩
theorem G7a (d:Bp)(t:Dh):((Oe d).goals≠0→Sc d t=(Oe d).goals)∧((Oe d).goals=0→t.legs=2→t.away=true→(Oe d).away≠0→Sc d t=(Oe d).away) ∧
  ((Oe d).goals=0→(t.legs≠2∨t.away=false∨(Oe d).away=0)→Sc d t=(Oe d).pens):=by
 unfold Sc
 refine ⟨fun h=>if_pos h,fun h1 h2 h3 h4 => ?_,fun h1 h2 => ?_⟩
 · rw [if_neg (fun k=>k h1),if_pos ⟨h2,h3,h4⟩]
 · rw [if_neg (fun k=>k h1),if_neg]
   rintro ⟨k1,k2,k3⟩
   rcases h2 with w|w|w
   · exact w k1
   · rw [w] at k2;cases k2
   · exact k3 w
theorem Ri (h:Ro)(s:Sli)(d:Bp)(t:Dh)(hg:DuG h s d):Res Tryz.prog 37 #[bduV s d t] h (fun u _=>u=Laa d t):=by
 refine Bq (args:=[_]) ts_ok Go.Proofs.Tryz.func37 rfl rfl fun w0 X0 => ?_
 have hf:=full_c h s d t hg.at'.len
 have hl:=lead_c h s d t hg
 by_cases hF:Hr d t
 · rw [decide_eq_true hF] at hf
   have hV1:=K9a hF
   have hV2:=F7a hF
   obtain ⟨hN1,hN2,hN3⟩:=G7a d t
   generalize Sc d t=N at *
   generalize Oe d=z at *
   generalize Laa d t=V at *
   obtain ⟨tl,ta⟩:=t
   dsimp only at hN2 hN3
   clear hg hF
   cases ta
   · have hN3':=fun k=>hN3 k (.inr (.inl rfl))
     clear hN2 hN3
     repeat' (first|apply Ac|apply Au|apply Aa|apply Ab|(apply Aw;exact J;exact J)|(apply Ad;(iterate 3 exact J))|(apply Ai;exact J;exact Av rfl QM rfl;exact J;exact J)|(apply Af;(iterate 3 exact J);(first|(apply Ah;(iterate 3 exact J);exact QR;(iterate 3 exact J);skip)|(apply Ao;exact J;intro b;skip)|(apply Ag;exact J;intro b;skip)|(apply Aq;exact J;exact Maa;exact hf;skip)|(apply Ay;exact J;exact has74;exact hl;rintro v2 h2 hle2 rfl;skip)))|(apply Aj;exact J;all_goals (intro hc;try simp only [hcS,reduceCtorEq] at hc;try (exfalso;omega)))|(apply Ba;exact J;exact J;all_goals (intro hc;try simp only [hcS,reduceCtorEq] at hc;try (exfalso;omega))))
     all_goals first
      | (exfalso;simp at hc;done)
      | (exfalso;omega)
      | (refine Df rfl rfl rfl rfl ?_;rw [hV1 (by omega)];done)
      | (refine Df rfl rfl rfl rfl ?_;rw [hV2 (by omega),show N=z.goals by omega];done)
      | (refine Df rfl rfl rfl rfl ?_;rw [hV2 (by omega),show N=z.pens by omega];done)
   · have hN2':=fun k k1 k2=>hN2 k k1 rfl k2
     have hN3':z.goals=0→(tl≠2∨z.away=0)→N=z.pens:=fun k k1=>hN3 k (k1.imp_right .inr)
     clear hN2 hN3
     repeat' (first|apply Ac|apply Au|apply Aa|apply Ab|(apply Aw;exact J;exact J)|(apply Ad;(iterate 3 exact J))|(apply Ai;exact J;exact Av rfl QM rfl;exact J;exact J)|(apply Af;(iterate 3 exact J);(first|(apply Ah;(iterate 3 exact J);exact QR;(iterate 3 exact J);skip)|(apply Ao;exact J;intro b;skip)|(apply Ag;exact J;intro b;skip)|(apply Aq;exact J;exact Maa;exact hf;skip)|(apply Ay;exact J;exact has74;exact hl;rintro v2 h2 hle2 rfl;skip)))|(apply Aj;exact J;all_goals (intro hc;try simp only [hcS,reduceCtorEq] at hc;try (exfalso;omega)))|(apply Ba;exact J;exact J;all_goals (intro hc;try simp only [hcS,reduceCtorEq] at hc;try (exfalso;omega))))
     all_goals first
      | (exfalso;simp at hc;done)
      | (exfalso;omega)
      | (refine Df rfl rfl rfl rfl ?_;rw [hV1 (by omega)];done)
      | (refine Df rfl rfl rfl rfl ?_;rw [hV2 (by omega),show N=z.goals by omega];done)
      | (refine Df rfl rfl rfl rfl ?_;rw [hV2 (by omega),show N=z.away by omega];done)
      | (refine Df rfl rfl rfl rfl ?_;rw [hV2 (by omega),show N=z.pens by omega];done)
 · rw [decide_eq_false hF] at hf
   rw [winV_open hF]
   clear hl
   repeat' (first|apply Ac|apply Aa|apply Ab|(apply Ad;(iterate 3 exact J))|(apply Ai;exact J;exact Av rfl QM rfl;exact J;exact J)|(apply Af;(iterate 3 exact J);(first|(apply Ao;exact J;intro b;skip)|(apply Aq;exact J;exact Maa;exact hf;skip)))|(apply Aj;exact J;all_goals (intro hc;try simp only [hcS,reduceCtorEq] at hc;try (exfalso;omega))))
   all_goals first
    | (exfalso;simp at hc;done)
    | (exact Df rfl rfl rfl rfl rfl)
end Go.Hw
namespace Go.Hw
open Go
attribute [local irreducible] GO GOl GDp Val Fn Res At Fx Blk By Dk Cl Has Yl
open Go.Proofs (Tryz.prog)
theorem Mxa {d:Bp}{t:Dh}(h:¬ Nk d t):Jw d t=210:=by unfold Jw;rw [if_neg h]
theorem checkD_1 {d:Bp}{t:Dh}(h:Nk d t){x:Dm}(hx:x∈d.ls)(hr:¬ Hc x):Jw d t=1:=by unfold Jw;rw [if_pos h,if_neg (fun k=>hr (k x hx))]
theorem Mwa {d:Bp}{t:Dh}(h:Nk d t)(hr:∀ x∈d.ls,Hc x){i:Nat}(hi:i<d.ls.length)(hl:¬ Cua d i (d.ls.getD i Ep)):Jw d t=210:=by unfold Jw;rw [if_pos h,if_pos hr,if_neg (fun k=>hl (k i hi))]
theorem Fda (h:Ro)(s:Sli)(d:Bp)(t:Dh)(ha:K7a h (s,d)):Res Tryz.prog 41 #[Yc s d,Gca t] h (fun u _=>u=.int .i64 (Jw d t)):=by
 refine Bq (args:=[_,_]) ts_ok Go.Proofs.Tryz.func41 rfl rfl fun w0 X0 => ?_
 have hx:=ha.1
 dsimp only at hx
 have hlen:=hx.len
 have hno:=Mxa (d:=d) (t:=t)
 have h1x:=fun k x hx hr=>checkD_1 (d:=d) (t:=t) k (x:=x) hx hr
 have hlg:=fun k hr i hi hl=>Mwa (d:=d) (t:=t) k hr (i:=i) hi hl
 have hz:=checkD_zero (d:=d) (t:=t)
 generalize Jw d t=E at *
 have hr:=Og h t
 have hca:=Bta h d.a
 have hcb:=Bta h d.b
 by_cases h0:Nk d t
 · have h0':=h0
   obtain ⟨o1,o2,o3,o4,o5⟩:=h0'
   rw [decide_eq_true o1] at hr
   rw [decide_eq_true o2] at hca
   rw [decide_eq_true o3] at hcb
   have o5':(s.n:Int)≤t.legs:=by omega
   have hn2:s.n≤2:=by unfold Ik at o1;omega
   repeat' (first|apply Ac|apply Au|apply Ak|apply Aa|apply Ab|(apply Af;(iterate 3 exact J);apply Ao (e:=62);exact J;intro b2)|(apply Af;(iterate 3 exact J);apply Ao (e:=24);exact J;intro b3)|(apply Ad;(iterate 3 exact J))|(apply Ai;exact J;exact Av rfl QM rfl;exact J;exact J)|(apply Af;(iterate 3 exact J);(first|(apply Aq;exact J;exact Pw;exact hr;skip)|(apply Aq;exact J;exact has75;(first|exact hca|exact hcb);skip)))|(apply Aj;exact J;all_goals (intro hc;try simp only [hcS,reduceCtorEq] at hc;try (exfalso;omega)))|(apply Ba;exact J;exact J;all_goals (intro hc;try simp only [hcS,reduceCtorEq] at hc;try (exfalso;omega))))
   all_goals (try (exfalso;simp at hc;done))
   all_goals (try (exfalso;omega))
   refine Bt (X:=Nat×Ro) (fun x=>x.1≤s.n∧Le h x.2∧∀ y∈d.ls.take x.1,Hc y) (fun x=>s.n-x.1) (fun x=>[(46,.int .i64 x.1),(45,.int .i64 s.n),(44,.slice s.A s.n s.c),(2,Rf b2),(3,Rf b3)])
    (fun _=>[Blk b2 62 (Mra s d),Blk b3 24 (tieC t)]) (fun x=>x.2) (0,h) ⟨by dsimp only;omega,Le.refl _,by simp⟩ QS QT rfl ?_
   rintro ⟨k,h1⟩ ⟨hk,hle,hI⟩ ih
   dsimp only at hk hle hI ih ⊢
   by_cases hkn:k<s.n
   · have a1:=hx.addrD hkn
     have c1:At h1 ((addrD s.A).add (k * I6a.size)) (Jb (d.ls.getD k Ep)):=(hx.cellsD Ep hkn).le hle
     have et:=Fq Ep (xs:=d.ls) hlen hkn
     have hm:=mem7 Ep (show k<d.ls.length by omega)
     generalize d.ls.getD k Ep=x at *
     have hck:=Fea h1 x
     by_cases hro:Hc x
     · rw [if_pos hro] at hck
       have h3:=fun h' (hl:Le h1 h')=>ih (k+1,h') ⟨by dsimp only;omega,hle.trans hl,fun y hy=>by
        rw [et,List.mem_append,List.mem_singleton] at hy
        rcases hy with hy|rfl
        · exact hI y hy
        · exact hro⟩ (by dsimp only;omega)
       clear ih
       repeat' (first|apply Ac|apply Au|apply Ap|apply Ak|apply Aa|apply Ab|(apply Af;(iterate 3 exact J);apply Ag (e:=64);exact J;intro bX)|(apply Bg;(iterate 3 exact J);omega;exact J;exact J)|(apply Ad;(iterate 3 exact J))|(apply Ai;exact J;exact Av rfl QM rfl;exact J;exact J)|(apply Bd;exact J;exact J;(first|(apply Be (j:=k);(iterate 5 exact J);exact a1;(with_reducible exact J);omega)|(apply Ar;exact J;exact Bh rfl c1 rfl));exact QA)|(apply Af;(iterate 3 exact J);(first|(apply Ah;(iterate 3 exact J);exact QR;(iterate 3 exact J);skip)|(apply Ay;exact J;exact Mba;exact hck;rintro v2 h2 hle2 rfl;skip)))|(apply Aj;exact J;all_goals (intro hc;try simp only [hcS,reduceCtorEq] at hc;try (exfalso;omega))))
       all_goals first
        | (exfalso;simp at hc;done)
        | (exfalso;omega)
        | (have h4:=h3 _ hle2
           refine Bw QS QT (h4))
     · rw [if_neg hro] at hck
       have hE:=h1x h0 x hm hro
       clear ih hz
       repeat' (first|apply Ac|apply Au|apply Ak|apply Aa|apply Ab|(apply Af;(iterate 3 exact J);apply Ag (e:=64);exact J;intro bX)|(apply Ad;(iterate 3 exact J))|(apply Ai;exact J;exact Av rfl QM rfl;exact J;exact J)|(apply Bd;exact J;exact J;(first|(apply Be (j:=k);(iterate 5 exact J);exact a1;(with_reducible exact J);omega)|(apply Ar;exact J;exact Bh rfl c1 rfl));exact QA)|(apply Af;(iterate 3 exact J);(first|(apply Ah;(iterate 3 exact J);exact QR;(iterate 3 exact J);skip)|(apply Ay;exact J;exact Mba;exact hck;rintro v2 h2 hle2 rfl;skip)))|(apply Aj;exact J;all_goals (intro hc;try simp only [hcS,reduceCtorEq] at hc;try (exfalso;omega))))
       all_goals first
        | (exfalso;simp at hc;done)
        | (exfalso;omega)
        | (exact Cb rfl rfl rfl (by rw [hE]))
   · rw [List.take_of_length_le (by omega)] at hI
     clear ih h1x hno
     have hE210:=hlg h0 hI
     have hE0:(∀ i,i<s.n→Cua d i (d.ls.getD i Ep))→E=0:=fun k=>hz.2 ⟨h0,hI,fun i hi=>k i (by omega)⟩
     clear hz hlg
     repeat' (first|apply Ac|apply Ak|apply Aa|apply Ab|(apply Bn;exact J)|(apply Ad;(iterate 3 exact J))|(apply Ai;exact J;exact Av rfl QM rfl;exact J;exact J)|(apply Aj;exact J;all_goals (intro hc;try simp only [hcS,reduceCtorEq] at hc;try (exfalso;omega))))
     all_goals (try (exfalso;omega))
     refine Bt (X:=Nat) (fun k=>k≤s.n∧∀ i,i<k→Cua d i (d.ls.getD i Ep)) (fun k=>s.n-k) (fun k=>[(59,.int .i64 k),(58,.int .i64 s.n),(57,.slice s.A s.n s.c),(2,Rf b2),(3,Rf b3)])
      (fun _=>[Blk b2 62 (Mra s d),Blk b3 24 (tieC t)]) (fun _=>h1) 0 ⟨by omega,fun i hi=>absurd hi (by omega)⟩ QS QT rfl ?_
     rintro k ⟨hk,hL⟩ ih
     by_cases hkn:k<s.n
     · have a1:=hx.addrD hkn
       have c1:At h1 ((addrD s.A).add (k * I6a.size)) (Jb (d.ls.getD k Ep)):=(hx.cellsD Ep hkn).le hle
       have c0:At h1 ((addrD s.A).add (0 * I6a.size)) (Jb (d.ls.getD 0 Ep)):=(hx.cellsD Ep (show 0<s.n by omega)).le hle
       have e0:d.ls.getD 0 Ep=d.ls.headD Ep:=by cases d.ls <;> rfl
       have hle1:=leg_nat h1 s d t k
       have h21:=hE210 k (by omega)
       have h3:=fun (hl:Cua d k (d.ls.getD k Ep))=>ih (k+1) ⟨by omega,fun i hi=>by
        by_cases e:i=k
        · rw [e];exact hl
        · exact hL i (by omega)⟩ (by omega)
       rw [e0] at c0
       unfold Cua at h3 h21
       generalize d.ls.headD Ep=y0 at *
       generalize d.ls.getD k Ep=x at *
       have hsc:=Wr h1 x y0
       generalize legA d k=la at *
       generalize legB d k=lb at *
       clear ih hL hE210
       by_cases hlo:x.g.h=la∧x.g.a=lb∧8≤x.g.c∧Cx x y0
       · have h4:=h3 hlo
         obtain ⟨l1,l2,l3,l4⟩:=hlo
         rw [decide_eq_true l4] at hsc
         clear h3 h21
         repeat' (first|apply Ac|apply Au|apply Ap|apply Ak|apply Aa|apply Ab|(apply Af;(iterate 3 exact J);apply Ag (e:=64);exact J;intro bX)|(apply Af;(iterate 3 exact J);apply Ag (e:=38);exact J;intro bG)|(apply Bg;(iterate 3 exact J);omega;exact J;exact J)|(apply Ad;(iterate 3 exact J))|(apply Ai;exact J;exact Av rfl QM rfl;exact J;exact J)|(apply Bd;exact J;exact J;(first|(apply Be (j:=k);(iterate 5 exact J);exact a1;(with_reducible exact J);omega)|(apply Ar;exact J;exact Bh rfl c1 rfl));exact QA)|(apply Af;(iterate 3 exact J);(first|(apply Ah;(iterate 3 exact J);exact QR;(iterate 3 exact J);skip)|(apply Aq;exact J;exact has73;exact hle1;skip)))|(apply Bf (n:=15) [0,1,2,3,4,5,6,7,8,9,10,11,12,13,14,15,16,17,18,19,20,21,22,23] [(0,0),(1,0),(2,0),(3,0),(4,0),(5,0),(6,0),(7,0),(8,0),(9,0),(10,0),(11,0),(12,0),(13,0),(14,0),(15,0),(16,0),(17,0),(18,0),(19,0),(20,0),(21,1),(22,0),(23,0)];kernel_rfl)|(apply Ce;exact J;kernel_rfl;(iterate 3 exact J))|(apply Bj;exact J;kernel_rfl;(iterate 3 exact J);exact QM;exact J;exact J)|(apply De;exact J;kernel_rfl;exact J;exact J;(first|(apply Be (j:=0);(iterate 5 exact J);exact a1;omega;omega)|(apply Ar;exact J;exact Bh rfl c0 rfl));exact QA)|(apply Br;exact J;kernel_rfl;(iterate 3 exact J);(first|(apply Aq;exact J;exact has35;exact hsc;refine ⟨Le.refl _,QN,?_⟩)))|(apply Bm;kernel_rfl;exact J)|(apply Ig;(iterate 5 exact J);all_goals (intro hc;try simp only [hcS,reduceCtorEq] at hc;try (exfalso;omega)))|(apply Aj;exact J;all_goals (intro hc;try simp only [hcS,reduceCtorEq] at hc;try (exfalso;omega))))
         all_goals first
          | (exfalso;simp at hc;done)
          | (exfalso;omega)
          | (refine Bw QS QT (h4))
       · have hE:=h21 hlo
         clear h3 h21
         repeat' (first|apply Ac|apply Au|apply Ap|apply Ak|apply Aa|apply Ab|(apply Af;(iterate 3 exact J);apply Ag (e:=64);exact J;intro bX)|(apply Af;(iterate 3 exact J);apply Ag (e:=38);exact J;intro bG)|(apply Bg;(iterate 3 exact J);omega;exact J;exact J)|(apply Ad;(iterate 3 exact J))|(apply Ai;exact J;exact Av rfl QM rfl;exact J;exact J)|(apply Bd;exact J;exact J;(first|(apply Be (j:=k);(iterate 5 exact J);exact a1;(with_reducible exact J);omega)|(apply Ar;exact J;exact Bh rfl c1 rfl));exact QA)|(apply Af;(iterate 3 exact J);(first|(apply Ah;(iterate 3 exact J);exact QR;(iterate 3 exact J);skip)|(apply Aq;exact J;exact has73;exact hle1;skip)))|(apply Bf (n:=15) [0,1,2,3,4,5,6,7,8,9,10,11,12,13,14,15,16,17,18,19,20,21,22,23] [(0,0),(1,0),(2,0),(3,0),(4,0),(5,0),(6,0),(7,0),(8,0),(9,0),(10,0),(11,0),(12,0),(13,0),(14,0),(15,0),(16,0),(17,0),(18,0),(19,0),(20,0),(21,1),(22,0),(23,0)];kernel_rfl)|(apply GP_un;exact J;kernel_rfl;exact J;exact J)|(apply Ce;exact J;kernel_rfl;(iterate 3 exact J))|(apply Bj;exact J;kernel_rfl;(iterate 3 exact J);exact QM;exact J;exact J)|(apply De;exact J;kernel_rfl;exact J;exact J;(first|(apply Be (j:=0);(iterate 5 exact J);exact a1;omega;omega)|(apply Ar;exact J;exact Bh rfl c0 rfl));exact QA)|(apply Br;exact J;kernel_rfl;(iterate 3 exact J);(first|(apply Aq;exact J;exact has35;exact hsc;refine ⟨Le.refl _,QN,?_⟩)))|(apply Bm;kernel_rfl;exact J)|(apply Ig;(iterate 5 exact J);all_goals (intro hc;try simp only [hcS,reduceCtorEq] at hc;try (exfalso;omega)))|(apply Aj;exact J;all_goals (intro hc;try simp only [hcS,reduceCtorEq] at hc;try (exfalso;omega)))|(apply K2a;exact J;kernel_rfl;exact J;exact J))
         all_goals first
          | (exact Cb rfl rfl rfl (by rw [hE]))
          | (exfalso;apply hlo;refine ⟨?_,?_,?_,?_⟩ <;> first|assumption|omega)
     · have hE:=hE0 fun i hi=>hL i (by omega)
       clear ih hE0 hE210
       repeat' (first|apply Ac|apply Aa|apply Ab|(apply Bn;exact J)|(apply Ad;(iterate 3 exact J))|(apply Aj;exact J;all_goals (intro hc;try simp only [hcS,reduceCtorEq] at hc;try (exfalso;omega))))
       all_goals first
        | (exfalso;omega)
        | (exact Cb rfl rfl rfl (by rw [hE]))
 · have hE:=hno h0
   clear hno h1x hlg hz
   repeat' (first|apply Ac|apply Au|apply Ak|apply Aa|apply Ab|(apply Aw;exact J;exact J)|(apply Ad;(iterate 3 exact J))|(apply Ai;exact J;exact Av rfl QM rfl;exact J;exact J)|(apply Af;(iterate 3 exact J);(first|(apply Ao;exact J;intro b;skip)|(apply Aq;exact J;exact Pw;exact hr;skip)|(apply Aq;exact J;exact has75;(first|exact hca|exact hcb);skip)))|(apply Aj;exact J;all_goals (intro hc;try simp only [hcS,reduceCtorEq] at hc;try (exfalso;omega)))|(apply Ba;exact J;exact J;all_goals (intro hc;try simp only [hcS,reduceCtorEq] at hc;try (exfalso;omega))))
   all_goals first
    | (exact Cb rfl rfl rfl (by rw [hE]))
    | (exfalso;apply h0;refine ⟨?_,?_,?_,?_,?_⟩ <;> first|assumption|omega)
theorem Zj (h:Ro)(s:Sli)(d:Bp)(t:Dh)(ha:K7a h (s,d)):Res Tryz.prog 12 #[Yc s d,Gca t] h (fun u _=>u=.tuple #[.int .i64 (Kh d t).1,.int .i64 (Kh d t).2]):=by
 refine Bq (args:=[_,_]) ts_ok Go.Proofs.Tryz.func12 rfl rfl fun w0 X0 => ?_
 have hck:=Fda h s d t ha
 have hz:=checkD_zero (d:=d) (t:=t)
 unfold Kh
 by_cases h0:Jw d t=0
 · have ho:=hz.1 h0
   have hw:=fun h' (hl:Le h h')=>Ri h' s d t ((DuG.of ha ho).le hl)
   rw [h0] at hck
   rw [if_neg (fun k=>k h0)]
   cases hwd:Ke d t with
   | none =>
     obtain ⟨q,hq⟩:=Ly hwd
     rw [hq] at hw
     dsimp only
     clear hz ho
     repeat' (first|apply Ac|apply Au|apply Aa|apply Ab|(apply Ad;(iterate 3 exact J))|(apply Ai;exact J;exact Av rfl QM rfl;exact J;exact J)|(apply Af;(iterate 3 exact J);(first|(apply Ao;exact J;intro b;skip)|(apply Ay;exact J;exact Hea;exact hck;rintro v2 h2 hle2 rfl;skip)|(apply Ay;exact J;exact Xn;exact hw _ QL;rintro v3 h3 hle3 rfl;skip)))|(apply Aj;exact J;all_goals (intro hc;try simp only [hcS,reduceCtorEq] at hc;try (exfalso;omega))))
     all_goals first
      | (exfalso;simp at hc;done)
      | (exfalso;omega)
      | (exact Df rfl rfl rfl rfl rfl)
   | some w =>
     rw [Nw hwd] at hw
     dsimp only
     clear hz ho
     repeat' (first|apply Ac|apply Au|apply Aa|apply Ab|(apply Ad;(iterate 3 exact J))|(apply Ai;exact J;exact Av rfl QM rfl;exact J;exact J)|(apply Af;(iterate 3 exact J);(first|(apply Ao;exact J;intro b;skip)|(apply Ay;exact J;exact Hea;exact hck;rintro v2 h2 hle2 rfl;skip)|(apply Ay;exact J;exact Xn;exact hw _ QL;rintro v3 h3 hle3 rfl;skip)))|(apply Aj;exact J;all_goals (intro hc;try simp only [hcS,reduceCtorEq] at hc;try (exfalso;omega))))
     all_goals first
      | (exfalso;simp at hc;done)
      | (exfalso;omega)
      | (exact Df rfl rfl rfl rfl rfl)
 · rw [if_pos h0]
   generalize Jw d t=E at *
   clear hz
   repeat' (first|apply Ac|apply Aa|apply Ab|(apply Ad;(iterate 3 exact J))|(apply Ai;exact J;exact Av rfl QM rfl;exact J;exact J)|(apply Af;(iterate 3 exact J);(first|(apply Ao;exact J;intro b;skip)|(apply Ay;exact J;exact Hea;exact hck;rintro v2 h2 hle2 rfl;skip)))|(apply Aj;exact J;all_goals (intro hc;try simp only [hcS,reduceCtorEq] at hc;try (exfalso;omega))))
   all_goals first
    | (exfalso;omega)
    | (exact Df rfl rfl rfl rfl rfl)
end Go.Hw
