import Derived.Test.YtgbamiehiokacaaGreatDoorXA
import Derived.Test.YtgbamiehiokacaaGreatDoorRE
import Derived.Test.YtgbamiehiokacaaGreatDoorVF
import Derived.Test.YtgbamiehiokacaaGreatDoorRF
set_option linter.all false
set_option maxRecDepth 100000
set_option maxHeartbeats 8000000
namespace Go.Hw
open Go
attribute [local irreducible] GO GOl GDp Val Fn Res CellsAt ValE Blk OwnS MapA OwnPf Has Yl SepA forceL decC memS suspC suspN suspOne yelC cardsF nextC regF
open Go.Proofs (Tryz.prog)
theorem Jj (h:Ro)(A:Option Addr)(n c:Nat)(l:List (Fsh×Fct))(hx:FactsAt h A n l)(hn:n≤65536)(pl day:Int):Res Tryz.prog 36 #[.slice A n c,.int .i64 pl,.int .i64 day] h (fun u _=>u=.tuple #[.int .i64 (if (regF (fcs l) pl day).mTo<0 then 0 else (regF (fcs l) pl day).mTo),.bool (decide (0≤(regF (fcs l) pl day).mTo))]):=by
 refine Bi (args:=[_,_,_]) ts_ok Go.Proofs.Tryz.func36 rfl rfl fun w0 X0 => ?_
 have h32:In32 (fcs l):=Kz hx.fat
 have hcan:=fun h' (hl:Le h h')=>Jx h' A n c l (hx.le hl) hn
 rw [← regR_eq h32]
 generalize canonL (fcs l)=C at *
 repeat' (first|apply Ac|apply Ag|apply Aa|apply Ab|(apply Ad;(iterate 3 exact J))|(apply Ai;(iterate 3 exact J);(first|(apply Ba;exact J;exact has56;exact hcan _ QL;rintro w1 h1 hle1 ⟨A3,k3,c3,l3,rfl,hL⟩;skip))))
 obtain ⟨_,hLa,hLe⟩:=hL
 have hlen3:=hLa.row.len
 have hk6:=hLa.small
 rw [← hLe]
 clear hcan hLe h32
 refine Bj (X:=Nat) (fun k=>k≤k3) (fun k=>k3-k)
  (fun k=>[(10,.int .i64 k),(9,.int .i64 ((fcs (l3.take k)).foldl (takeR pl day) lastZ).day),(8,.int .i64 ((fcs (l3.take k)).foldl (takeR pl day) lastZ).mTo),(0,.slice A3 k3 c3),(1,.int .i64 pl),(2,.int .i64 day)])
  (fun _=>[]) (fun _=>h1) 0 (by omega) QS QT rfl ?_
 rintro k hk ih
 by_cases hkn:k<k3
 · have a1:=hLa.row.addrD hkn
   have cc:CellsAt h1 ((addrD A3).add (k * ty54.size)) (encF82 (l3.getD k p0)):=hLa.row.cellsD p0 hkn
   have et:=Cl p0 hlen3 hkn
   generalize l3.getD k p0=q at *
   have h3:=ih (k+1) (by omega) (by omega)
   have hsn:(fcs (l3.take (k+1))).foldl (takeR pl day) lastZ=takeR pl day ((fcs (l3.take k)).foldl (takeR pl day) lastZ) q.2:=by rw [et,Md,List.foldl_append];rfl
   rw [hsn] at h3
   generalize (fcs (l3.take k)).foldl (takeR pl day) lastZ=z at *
   clear ih hsn et
   unfold takeR at h3
   by_cases hP:q.2.kind=6∧q.2.mP=pl∧q.2.day≤day∧z.day≤q.2.day
   · rw [if_pos hP] at h3
     obtain ⟨p1,p2,p3,p4⟩:=hP
     repeat' (first|apply Ac|apply Av|apply Ah|apply Ag|apply Aa|apply Ab|(apply Bf;(iterate 3 exact J);omega;exact J;exact J)|(apply Ad;(iterate 3 exact J))|(apply Ao;exact J;exact Bb rfl QM rfl;exact J;exact J)|(apply Be;exact J;exact J;(first|(apply Az (j:=k);(iterate 5 exact J);exact a1;(with_reducible exact J);omega)|(apply Aq;exact J;exact Bh rfl cc rfl));exact QA)|(apply Ai;(iterate 3 exact J);(first|(apply Aj;(iterate 3 exact J);exact QR;(iterate 3 exact J);skip)|(apply Ap;exact J;intro b;skip)))|(apply Af;exact J;all_goals (intro hc;try simp only [hcS,reduceCtorEq] at hc;try (exfalso;omega)))|(apply Bc;exact J;exact J;all_goals (intro hc;try simp only [hcS,reduceCtorEq] at hc;try (exfalso;omega))))
     all_goals first
      | (exfalso;omega)
      | contradiction
      | (refine Bn QS QT (h3))
   · rw [if_neg hP] at h3
     repeat' (first|apply Ac|apply Av|apply Ah|apply Ag|apply Aa|apply Ab|(apply Au;exact J;exact J)|(apply Bf;(iterate 3 exact J);omega;exact J;exact J)|(apply Ad;(iterate 3 exact J))|(apply Ao;exact J;exact Bb rfl QM rfl;exact J;exact J)|(apply Be;exact J;exact J;(first|(apply Az (j:=k);(iterate 5 exact J);exact a1;(with_reducible exact J);omega)|(apply Aq;exact J;exact Bh rfl cc rfl));exact QA)|(apply Ai;(iterate 3 exact J);(first|(apply Aj;(iterate 3 exact J);exact QR;(iterate 3 exact J);skip)|(apply Ap;exact J;intro b;skip)))|(apply Af;exact J;all_goals (intro hc;try simp only [hcS,reduceCtorEq] at hc;try (exfalso;omega)))|(apply Bc;exact J;exact J;all_goals (intro hc;try simp only [hcS,reduceCtorEq] at hc;try (exfalso;omega))))
     all_goals first
      | (exfalso;exact hP ⟨by assumption,by assumption,by assumption,by assumption⟩)
      | (exfalso;omega)
      | contradiction
      | (refine Bn QS QT (h3))
 · rw [List.take_of_length_le (by omega)]
   clear ih
   generalize ((fcs l3).foldl (takeR pl day) lastZ).mTo=t at *
   by_cases ht:t<0
   · rw [if_pos ht,decide_eq_false (by omega)]
     repeat' (first|apply Ac|apply Aa|apply Ab|(apply Bl;exact J)|(apply Ad;(iterate 3 exact J))|(apply Af;exact J;all_goals (intro hc;try simp only [hcS,reduceCtorEq] at hc;try (exfalso;omega))))
     all_goals first
      | (exfalso;omega)
      | (exact Dp rfl rfl rfl rfl rfl)
   · rw [if_neg ht,decide_eq_true (by omega)]
     repeat' (first|apply Ac|apply Av|apply Aa|apply Ab|(apply Bl;exact J)|(apply Ad;(iterate 3 exact J))|(apply Af;exact J;all_goals (intro hc;try simp only [hcS,reduceCtorEq] at hc;try (exfalso;omega))))
     all_goals first
      | (exfalso;omega)
      | (exact Dp rfl rfl rfl rfl rfl)
open Classical in
theorem movedR_c (h:Ro)(A:Option Addr)(n c:Nat)(l:List (Fsh×Fct))(hx:FactsAt h A n l)(hn:n≤65536)(pl:Int):Res Tryz.prog 171 #[.slice A n c,.int .i64 pl] h (fun u _=>u=.bool (decide (∃ x∈fcs l,MvOf pl x))):=by
 refine Bi (args:=[_,_]) ts_ok Go.Proofs.Tryz.func171 rfl rfl fun w0 X0 => ?_
 have h32:In32 (fcs l):=Kz hx.fat
 have hcan:=fun h' (hl:Le h h')=>Jx h' A n c l (hx.le hl) hn
 have hsp:=(Cp (fcs l) h32).2
 repeat' (first|apply Ac|apply Ag|apply Aa|apply Ab|(apply Ad;(iterate 3 exact J))|(apply Ai;(iterate 3 exact J);(first|(apply Ba;exact J;exact has56;exact hcan _ QL;rintro w1 h1 hle1 ⟨A3,k3,c3,l3,rfl,hL⟩;skip))))
 obtain ⟨_,hLa,hLe⟩:=hL
 have hlen3:=hLa.row.len
 have hk6:=hLa.small
 have hex:(∃ x∈fcs l,MvOf pl x)↔∃ q∈l3,q.2.kind=6∧q.2.mP=pl:=by
  constructor
  · rintro ⟨x,m,q⟩
    have:x∈fcs l3:=by rw [hLe];exact (hsp x).2 ⟨m,q.2.2⟩
    obtain ⟨y,hy,e⟩:=List.mem_map.1 this
    exact ⟨y,hy,by rw [show y.2=x from e];exact ⟨q.1,q.2.1⟩⟩
  · rintro ⟨y,hy,q1,q2⟩
    have:y.2∈canonL (fcs l):=by rw [← hLe];exact List.mem_map.2 ⟨y,hy,rfl⟩
    have:=(hsp y.2).1 this
    exact ⟨y.2,this.1,q1,q2,this.2⟩
 have hde:decide (∃ x∈fcs l,MvOf pl x)=decide (∃ q∈l3,q.2.kind=6∧q.2.mP=pl):=decide_eq_decide.2 hex
 rw [hde]
 clear hcan hLe h32 hsp hex hde
 refine Bj (X:=Nat) (fun k=>k≤k3∧∀ q∈l3.take k,¬ (q.2.kind=6∧q.2.mP=pl)) (fun k=>k3-k)
  (fun k=>[(5,.int .i64 k),(0,.slice A3 k3 c3),(1,.int .i64 pl)])
  (fun _=>[]) (fun _=>h1) 0 ⟨by omega,by simp⟩ QS QT rfl ?_
 rintro k ⟨hk,hI⟩ ih
 by_cases hkn:k<k3
 · have a1:=hLa.row.addrD hkn
   have cc:CellsAt h1 ((addrD A3).add (k * ty54.size)) (encF82 (l3.getD k p0)):=hLa.row.cellsD p0 hkn
   have et:=Cl p0 hlen3 hkn
   have hm:=mem7 p0 (show k<l3.length by omega)
   generalize l3.getD k p0=q at *
   by_cases hP:q.2.kind=6∧q.2.mP=pl
   · rw [decide_eq_true ⟨q,hm,hP⟩]
     obtain ⟨p1,p2⟩:=hP
     clear ih
     repeat' (first|apply Ac|apply Av|apply Ag|apply Aa|apply Ab|(apply Ad;(iterate 3 exact J))|(apply Be;exact J;exact J;(first|(apply Az (j:=k);(iterate 5 exact J);exact a1;(with_reducible exact J);omega)|(apply Aq;exact J;exact Bh rfl cc rfl)|(apply Aq;exact J;first|exact Bh rfl (by assumption) rfl|exact Bz rfl (by assumption) rfl|exact By rfl (by assumption) rfl|exact Lv_roF3 rfl (by assumption) rfl));exact QA)|(apply Af;exact J;all_goals (intro hc;try simp only [hcS,reduceCtorEq] at hc;try (exfalso;omega)))|(apply Bc;exact J;exact J;all_goals (intro hc;try simp only [hcS,reduceCtorEq] at hc;try (exfalso;omega))))
     all_goals first
      | (exfalso;omega)
      | contradiction
      | (exact Bt rfl rfl rfl rfl)
   · have h3:=ih (k+1) ⟨by omega,fun y hy=>by
      rw [et,List.mem_append,List.mem_singleton] at hy
      rcases hy with w|w
      · exact hI y w
      · rw [w];exact hP⟩ (by omega)
     clear ih
     repeat' (first|apply Ac|apply Av|apply Ah|apply Ag|apply Aa|apply Ab|(apply Au;exact J;exact J)|(apply Bf;(iterate 3 exact J);omega;exact J;exact J)|(apply Ad;(iterate 3 exact J))|(apply Be;exact J;exact J;(first|(apply Az (j:=k);(iterate 5 exact J);exact a1;(with_reducible exact J);omega)|(apply Aq;exact J;exact Bh rfl cc rfl)|(apply Aq;exact J;first|exact Bh rfl (by assumption) rfl|exact Bz rfl (by assumption) rfl|exact By rfl (by assumption) rfl|exact Lv_roF3 rfl (by assumption) rfl));exact QA)|(apply Af;exact J;all_goals (intro hc;try simp only [hcS,reduceCtorEq] at hc;try (exfalso;omega)))|(apply Bc;exact J;exact J;all_goals (intro hc;try simp only [hcS,reduceCtorEq] at hc;try (exfalso;omega))))
     all_goals first
      | (exfalso;exact hP ⟨by assumption,by assumption⟩)
      | (exfalso;omega)
      | contradiction
      | (refine Bn QS QT (h3))
 · rw [List.take_of_length_le (by omega)] at hI
   rw [decide_eq_false (fun ⟨q,m,w⟩=>hI q m w)]
   clear ih
   repeat' (first|apply Ac|apply Aa|apply Ab|(apply Bl;exact J)|(apply Ad;(iterate 3 exact J))|(apply Af;exact J;all_goals (intro hc;try simp only [hcS,reduceCtorEq] at hc;try (exfalso;omega))))
   all_goals first
    | (exfalso;omega)
    | (exact Bt rfl rfl rfl rfl)
theorem A5a (h:Ro)(A:Option Addr)(n c:Nat)(l:List (Fsh×Fct))(hx:FactsAt h A n l)(hn:n≤65536)(pl day:Int):Res Tryz.prog 38 #[.slice A n c,.int .i64 pl,.int .i64 day] h (fun u _=>u=.bool (unfitL (canonL (fcs l)) pl day)):=by
 refine Bi (args:=[_,_,_]) ts_ok Go.Proofs.Tryz.func38 rfl rfl fun w0 X0 => ?_
 have e:unfitL (canonL (fcs l)) pl day=((forceL (canonL (fcs l))).map (·.ru)).any (unfB pl day):=rfl
 rw [e]
 obtain ⟨L,hL⟩:∃ L,L=(forceL (canonL (fcs l))).map (·.ru):=⟨_,rfl⟩
 have hfi:=fun h' (hl:Le h h')=>Cva h' A n c l (hx.le hl) hn
 rw [← hL] at hfi ⊢
 clear hL e
 repeat' (first|apply Ac|apply Ag|apply Aa|apply Ab|(apply Ad;(iterate 3 exact J))|(apply Ai;(iterate 3 exact J);(first|(apply Ba;exact J;exact has67;exact hfi _ QL;rintro w1 h1 hle1 ⟨A3,c3,rl,rfl,hsl,rfl,hn3⟩;skip))))
 clear hfi
 refine Bj (X:=Nat) (fun k=>k≤rl.length∧(rl.take k).any (unfB pl day)=false) (fun k=>rl.length-k)
  (fun k=>[(8,.int .i64 k),(7,.slice A3 rl.length c3),(1,.int .i64 pl),(2,.int .i64 day)])
  (fun _=>[]) (fun _=>h1) 0 ⟨by omega,rfl⟩ QS QT rfl ?_
 rintro k ⟨hk,hI⟩ ih
 by_cases hkn:k<rl.length
 · have a1:=hsl.addrD hkn
   have cc:CellsAt h1 ((addrD A3).add (k * ty44.size)) (rulC (rl.getD k rul0)):=hsl.cellsD rul0 hkn
   have et:=Cl rul0 (xs:=rl) rfl hkn
   have hm:=mem7 rul0 hkn
   generalize rl.getD k rul0=r at *
   by_cases hP:r.kind=6∧r.player=pl∧r.lo≤day∧day≤r.hi
   · have e9:rl.any (unfB pl day)=true:=List.any_eq_true.2 ⟨r,hm,decide_eq_true hP⟩
     rw [e9]
     obtain ⟨p1,p2,p3,p4⟩:=hP
     clear ih
     repeat' (first|apply Ac|apply Av|apply Ag|apply Aa|apply Ab|(apply Ad;(iterate 3 exact J))|(apply Be;exact J;exact J;(first|(apply Az (j:=k);(iterate 5 exact J);exact a1;(with_reducible exact J);omega)|(apply Aq;exact J;first|exact Bh rfl (by assumption) rfl|exact Bz rfl (by assumption) rfl|exact By rfl (by assumption) rfl|exact Lv_roF3 rfl (by assumption) rfl));exact QA)|(apply Af;exact J;all_goals (intro hc;try simp only [hcS,reduceCtorEq] at hc;try (exfalso;omega)))|(apply Bc;exact J;exact J;all_goals (intro hc;try simp only [hcS,reduceCtorEq] at hc;try (exfalso;omega))))
     all_goals first
      | (exfalso;omega)
      | contradiction
      | (exact Bt rfl rfl rfl rfl)
   · have h3:=ih (k+1) ⟨by omega,by rw [et,List.any_append,hI,List.any_cons,show unfB pl day r=false from decide_eq_false hP];rfl⟩ (by omega)
     clear ih
     repeat' (first|apply Ac|apply Av|apply Ah|apply Ag|apply Aa|apply Ab|(apply Au;exact J;exact J)|(apply Bf;(iterate 3 exact J);omega;exact J;exact J)|(apply Ad;(iterate 3 exact J))|(apply Be;exact J;exact J;(first|(apply Az (j:=k);(iterate 5 exact J);exact a1;(with_reducible exact J);omega)|(apply Aq;exact J;first|exact Bh rfl (by assumption) rfl|exact Bz rfl (by assumption) rfl|exact By rfl (by assumption) rfl|exact Lv_roF3 rfl (by assumption) rfl));exact QA)|(apply Af;exact J;all_goals (intro hc;try simp only [hcS,reduceCtorEq] at hc;try (exfalso;omega)))|(apply Bc;exact J;exact J;all_goals (intro hc;try simp only [hcS,reduceCtorEq] at hc;try (exfalso;omega))))
     all_goals first
      | (exfalso;exact hP ⟨by assumption,by assumption,by assumption,by assumption⟩)
      | (exfalso;omega)
      | contradiction
      | (refine Bn QS QT (h3))
 · rw [List.take_of_length_le (by omega)] at hI
   rw [hI]
   clear ih
   repeat' (first|apply Ac|apply Aa|apply Ab|(apply Bl;exact J)|(apply Ad;(iterate 3 exact J))|(apply Af;exact J;all_goals (intro hc;try simp only [hcS,reduceCtorEq] at hc;try (exfalso;omega))))
   all_goals first
    | (exfalso;omega)
    | (exact Bt rfl rfl rfl rfl)
theorem Aya (h:Ro)(x y:Fsh×FScore):Val Tryz.prog 168 #[.agg (encSc x).toArray,.agg (encSc y).toArray] h (.bool (decide (LtS x.2 y.2))):=by
 refine Ay (args:=[_,_]) ts_ok Go.Proofs.Tryz.func168 rfl rfl fun w0 X0 => ?_
 repeat' (first|apply Ac|apply Av|apply Aa|apply Ab|(apply Ad;(iterate 3 exact J))|(apply Ao;exact J;exact Bb rfl QM rfl;exact J;exact J)|(apply Ai;(iterate 3 exact J);(first|(apply Aj;(iterate 3 exact J);exact QR;(iterate 3 exact J);skip)|(apply Ar;exact J;intro b;skip)|(apply Ap;exact J;intro b;skip)))|(apply Af;exact J;all_goals (intro hc;try simp only [hcS,reduceCtorEq] at hc;try (exfalso;omega))))
 all_goals (first|(apply Aw;(iterate 3 exact J)))
 all_goals (refine Cb ?_;(try simp only [ltI_t,ltI_f,Ew,eqI_f] at *);unfold LtS;omega)
theorem Bda (h:Ro)(s:Fsh)(x:FSheet)(hx:ShAt h s x)(hl:x.hc.length≤1000∧x.ac.length≤1000)(p:Int):Res Tryz.prog 49 #[sheetV s x,.int .i64 p] h (fun u _=>u=.tuple #[.int .i64 (cardsF x p).1,.bool (cardsF x p).2]):=by
 refine Bi (args:=[_,_]) ts_ok Go.Proofs.Tryz.func49 rfl rfl fun w0 X0 => ?_
 have hn1:=hx.hc.len
 have hn2:=hx.ac.len
 have hh:=hx.hc
 have ha:=hx.ac
 obtain ⟨cs,hcs⟩:∃ cs,cs=x.hc++x.ac:=⟨_,rfl⟩
 have hcl:cs.length=s.hc.n+s.ac.n:=by rw [hcs,List.length_append,hn1,hn2]
 have hcf:cardsF x p=cs.foldl (cardS p) (0,false):=by rw [hcs];unfold cardsF;rfl
 repeat' (first|apply Ac|apply Ag|apply Aa|apply Ab|(apply Ad;(iterate 3 exact J))|(apply Ai;(iterate 3 exact J);(first|(apply Ar;exact J;intro b;skip)))|(apply Bd (n:=3) [0,1,2,3,4,5,6,7] [(1,0),(2,0),(4,0),(5,0),(0,1),(3,1),(6,1),(7,0)];kernel_rfl)|(apply Ca;exact J;kernel_rfl;(iterate 3 exact J))|(apply Bo;exact J;kernel_rfl;(iterate 3 exact J);exact QM;exact J;exact J)|(apply Bp;exact J;kernel_rfl;(iterate 3 exact J);(first|(apply Bq (n:=0);(iterate 3 exact J);exact List.cons_ne_nil _ _;(iterate 6 exact J);intro b8;refine ⟨Le.refl _,QN,?_⟩)|(apply Bg (enc:=encC) (n:=0) (xs:=[]) (ys:=x.hc);(iterate 7 exact J);exact hh.le QL;exact fun _=>rfl;exact fun _=>Bv rfl;intro v1;exact QR;omega;exact J;intro A1 c1;refine ⟨Le.refl _,QN,?_⟩)|(apply Bg (enc:=encC) (n:=0+s.hc.n) (xs:=[]++x.hc) (ys:=x.ac);(iterate 7 exact J);exact ha.le QL;exact fun _=>rfl;exact fun _=>Bv rfl;intro v1;exact QR;omega;exact J;intro A2 c2;refine ⟨Le.refl _,QN,?_⟩)))|(apply Bk;kernel_rfl;exact J))
 all_goals (try (exfalso;omega))
 rw [List.nil_append,Nat.zero_add,← hcs]
 refine Db (enc:=encC) (e:=161) (sz:=2) (n:=s.hc.n+s.ac.n) (xs:=cs) (fun _=>rfl) hcl QK ?_
 intro A7 c7 h7 hle7 e7 hnc7 hs7
 cases e7
 rw [hcf]
 refine Bj (X:=Nat) (fun k=>k≤s.hc.n+s.ac.n∧0≤((cs.take k).foldl (cardS p) (0,false)).1∧((cs.take k).foldl (cardS p) (0,false)).1≤2) (fun k=>s.hc.n+s.ac.n-k)
  (fun k=>[(9,.int .i64 k),(8,.slice A2 (s.hc.n+s.ac.n) c2),(6,.int .i64 ((cs.take k).foldl (cardS p) (0,false)).1),(7,.bool ((cs.take k).foldl (cardS p) (0,false)).2),(1,.int .i64 p)])
  (fun _=>[]) (fun _=>h7) 0 ⟨by omega,Mf p (cs.take 0) (0,false) ⟨by decide,by decide⟩⟩ QS QT rfl ?_
 rintro k ⟨hk,hb⟩ ih
 by_cases hkn:k<s.hc.n+s.ac.n
 · have a1:=hs7.addrD hkn
   have cc:CellsAt h7 ((addrD A2).add (k * ty161.size)) (encC (cs.getD k card0)):=hs7.cellsD card0 hkn
   have et:=Cl card0 hcl hkn
   generalize cs.getD k card0=q at *
   have hsn:(cs.take (k+1)).foldl (cardS p) (0,false)=cardS p ((cs.take k).foldl (cardS p) (0,false)) q:=by rw [et,List.foldl_append];rfl
   have hb2:=Mf p (cs.take (k+1)) (0,false) ⟨by decide,by decide⟩
   have h3:=ih (k+1) ⟨by omega,hb2⟩ (by omega)
   rw [hsn] at h3
   clear ih hb2 hsn et
   generalize (cs.take k).foldl (cardS p) (0,false)=z at *
   obtain ⟨z1,z2⟩:=z
   obtain ⟨qp,qr⟩:=q
   dsimp only at hb h3 cc
   unfold cardS at h3
   by_cases hq:qp=p
   · rw [if_pos hq] at h3
     cases qr
     · simp only [Bool.false_eq_true,if_false] at h3
       repeat' (first|apply Ac|apply Av|apply Ah|apply Ag|apply Aa|apply Ab|(apply GOl_min;(iterate 3 exact J);intro wn hwn)|(apply Bf;(iterate 3 exact J);omega;exact J;exact J)|(apply Ad;(iterate 3 exact J))|(apply Be;exact J;exact J;(first|(apply Az (j:=k);(iterate 5 exact J);exact a1;(with_reducible exact J);omega)|(apply Aq;exact J;exact Bh rfl cc rfl)|(apply Aq;exact J;first|exact Bh rfl (by assumption) rfl|exact Bz rfl (by assumption) rfl|exact By rfl (by assumption) rfl|exact Lv_roF3 rfl (by assumption) rfl));exact QA)|(apply Af;exact J;all_goals (intro hc;try simp only [hcS,reduceCtorEq] at hc;try (exfalso;omega)))|(apply Bc;exact J;exact J;all_goals (intro hc;try simp only [hcS,reduceCtorEq] at hc;try (exfalso;omega))))
       all_goals first
        | (exfalso;omega)
        | (exfalso;simp at hc;done)
        | (rw [hwn];refine Bn QS QT (h3))
     · rw [if_pos rfl] at h3
       dsimp only at h3
       repeat' (first|apply Ac|apply Av|apply Ah|apply Ag|apply Aa|apply Ab|(apply Bf;(iterate 3 exact J);omega;exact J;exact J)|(apply Ad;(iterate 3 exact J))|(apply Be;exact J;exact J;(first|(apply Az (j:=k);(iterate 5 exact J);exact a1;(with_reducible exact J);omega)|(apply Aq;exact J;exact Bh rfl cc rfl)|(apply Aq;exact J;first|exact Bh rfl (by assumption) rfl|exact Bz rfl (by assumption) rfl|exact By rfl (by assumption) rfl|exact Lv_roF3 rfl (by assumption) rfl));exact QA)|(apply Af;exact J;all_goals (intro hc;try simp only [hcS,reduceCtorEq] at hc;try (exfalso;omega)))|(apply Bc;exact J;exact J;all_goals (intro hc;try simp only [hcS,reduceCtorEq] at hc;try (exfalso;omega))))
       all_goals first
        | (exfalso;omega)
        | (exfalso;simp at hc;done)
        | (refine Bn QS QT (h3))
   · rw [if_neg hq] at h3
     dsimp only at h3
     repeat' (first|apply Ac|apply Av|apply Ah|apply Ag|apply Aa|apply Ab|(apply Au;exact J;exact J)|(apply Bf;(iterate 3 exact J);omega;exact J;exact J)|(apply Ad;(iterate 3 exact J))|(apply Be;exact J;exact J;(first|(apply Az (j:=k);(iterate 5 exact J);exact a1;(with_reducible exact J);omega)|(apply Aq;exact J;exact Bh rfl cc rfl));exact QA)|(apply Af;exact J;all_goals (intro hc;try simp only [hcS,reduceCtorEq] at hc;try (exfalso;omega)))|(apply Bc;exact J;exact J;all_goals (intro hc;try simp only [hcS,reduceCtorEq] at hc;try (exfalso;omega))))
     all_goals first
      | (exfalso;omega)
      | (exfalso;simp at hc;done)
      | (refine Bn QS QT (h3))
 · rw [List.take_of_length_le (by omega)]
   clear ih
   repeat' (first|apply Ac|apply Aa|apply Ab|(apply Bl;exact J)|(apply Ad;(iterate 3 exact J))|(apply Af;exact J;all_goals (intro hc;try simp only [hcS,reduceCtorEq] at hc;try (exfalso;omega))))
   all_goals first
    | (exfalso;omega)
    | (exact Dp rfl rfl rfl rfl rfl)
end Go.Hw
namespace Go.Hw
open Go
attribute [local irreducible] GO GOl GDp Val Fn Res CellsAt ValE Blk OwnS MapA OwnPf Has Yl SepA forceL decC memS suspC suspN suspOne yelC cardsF nextC regF
open Go.Proofs (Tryz.prog)
structure MemP (x:FSheet) (i k:Nat) (o:List (Int×Int)):Prop where
 sorted:o.Pairwise fun a b=>a.1<b.1
 mem:∀ m:Int×Int,m∈o↔(m.1∈x.hs.take i∧m.2=x.g.h)∨(m.1∈x.asn.take k∧m.2=x.g.a)
 hs:∀ m∈o,∀ p∈x.hs.drop i,m.1<p
 asd:∀ m∈o,∀ p∈x.asn.drop k,m.1<p
 len:o.length=i+k
theorem MemP.zero (x:FSheet):MemP x 0 0 []:=⟨.nil,fun m=>by simp,fun m hm=>absurd hm (by simp),fun m hm=>absurd hm (by simp),rfl⟩
theorem Nk {l:List Int}(h:l.Pairwise (· < ·)){i:Nat}(hi:i<l.length):∀ p∈l.drop (i+1),l[i]<p:=fun p hp=>by
 rw [← List.take_append_drop i l,List.drop_eq_getElem_cons hi,List.pairwise_append,List.pairwise_cons] at h
 exact h.2.1.1 p hp
theorem MemP.stepH {x:FSheet}{i k:Nat}{o:List (Int×Int)}(h:MemP x i k o)(hinc:x.hs.Pairwise (· < ·))(hi:i<x.hs.length)(hk:∀ p∈x.asn.drop k,x.hs[i]<p):MemP x (i+1) k (o++[(x.hs[i],x.g.h)]):=by
 have hin:x.hs[i]∈x.hs.drop i:=by rw [List.drop_eq_getElem_cons hi];exact List.mem_cons_self
 refine ⟨List.pairwise_append.2 ⟨h.sorted,by simp,fun a ha b hb => ?_⟩,fun m => ?_,fun m hm p hp => ?_,fun m hm p hp => ?_,by rw [List.length_append,h.len,List.length_singleton];omega⟩
 · rw [List.mem_singleton] at hb;subst hb
   exact h.hs a ha _ hin
 · rw [List.mem_append,List.mem_singleton,h.mem m,← List.take_append_getElem hi,List.mem_append,List.mem_singleton]
   obtain ⟨m1,m2⟩:=m
   simp only [Prod.mk.injEq]
   constructor
   · rintro ((⟨q,e⟩|q)|⟨e1,e2⟩)
     · exact .inl ⟨.inl q,e⟩
     · exact .inr q
     · exact .inl ⟨.inr e1,e2⟩
   · rintro (⟨q|q,e⟩|q)
     · exact .inl (.inl ⟨q,e⟩)
     · exact .inr ⟨q,e⟩
     · exact .inl (.inr q)
 · rcases List.mem_append.1 hm with w|w
   · exact h.hs m w p (by rw [List.drop_eq_getElem_cons hi];exact List.mem_cons_of_mem _ hp)
   · rw [List.mem_singleton] at w;subst w
     exact Nk hinc hi p hp
 · rcases List.mem_append.1 hm with w|w
   · exact h.asd m w p hp
   · rw [List.mem_singleton] at w;subst w
     exact hk p hp
theorem MemP.stepA {x:FSheet}{i k:Nat}{o:List (Int×Int)}(h:MemP x i k o)(hinc:x.asn.Pairwise (· < ·))(hk:k<x.asn.length)(hi:∀ p∈x.hs.drop i,x.asn[k]<p):MemP x i (k+1) (o++[(x.asn[k],x.g.a)]):=by
 have hin:x.asn[k]∈x.asn.drop k:=by rw [List.drop_eq_getElem_cons hk];exact List.mem_cons_self
 refine ⟨List.pairwise_append.2 ⟨h.sorted,by simp,fun a ha b hb => ?_⟩,fun m => ?_,fun m hm p hp => ?_,fun m hm p hp => ?_,by rw [List.length_append,h.len,List.length_singleton];omega⟩
 · rw [List.mem_singleton] at hb;subst hb
   exact h.asd a ha _ hin
 · rw [List.mem_append,List.mem_singleton,h.mem m,← List.take_append_getElem hk,List.mem_append,List.mem_singleton]
   obtain ⟨m1,m2⟩:=m
   simp only [Prod.mk.injEq]
   constructor
   · rintro ((q|⟨q,e⟩)|⟨e1,e2⟩)
     · exact .inl q
     · exact .inr ⟨.inl q,e⟩
     · exact .inr ⟨.inr e1,e2⟩
   · rintro (q|⟨q|q,e⟩)
     · exact .inl (.inl q)
     · exact .inl (.inr ⟨q,e⟩)
     · exact .inr ⟨q,e⟩
 · rcases List.mem_append.1 hm with w|w
   · exact h.hs m w p hp
   · rw [List.mem_singleton] at w;subst w
     exact hi p hp
 · rcases List.mem_append.1 hm with w|w
   · exact h.asd m w p (by rw [List.drop_eq_getElem_cons hk];exact List.mem_cons_of_mem _ hp)
   · rw [List.mem_singleton] at w;subst w
     exact Nk hinc hk p hp
theorem MemP.done {x:FSheet}{i k:Nat}{o:List (Int×Int)}(h:MemP x i k o)(hi:x.hs.length≤i)(hk:x.asn.length≤k):IsMem x o:=⟨h.sorted,fun m=>by rw [h.mem m,List.take_of_length_le hi,List.take_of_length_le hk]⟩
theorem dropped {l:List Int}{v:Int}(hinc:l.Pairwise (· < ·)){i:Nat}(h:i<l.length→v<l.getD i 0):∀ p∈l.drop i,v<p:=fun p hp=>by
 by_cases hi:i<l.length
 · have h1:=h hi
   rw [List.getD_eq_getElem?_getD,List.getElem?_eq_getElem hi,Option.getD_some] at h1
   rw [List.drop_eq_getElem_cons hi] at hp
   rcases List.mem_cons.1 hp with e|e
   · rw [e];exact h1
   · have:=Nk hinc hi p e
     omega
 · rw [List.drop_of_length_le (by omega)] at hp
   cases hp
theorem Ru {l:List Int}{i:Nat}(hi:i<l.length):l[i]=l.getD i 0:=by simp [List.getD,List.getElem?_eq_getElem hi]
theorem Bsa (h:Ro)(s:Fsh)(x:FSheet)(hx:ShAt h s x)(hok:SheetOk x):Res Tryz.prog 88 #[sheetV s x] h (fun u h'=>∃ A1 c1 A2 c2,u=.tuple #[.slice A1 (memS x).length c1,.slice A2 (memS x).length c2]∧SlOf encI 1 h' A1 (memS x).length ((memS x).map (·.1))∧SlOf encI 1 h' A2 (memS x).length ((memS x).map (·.2))):=by
 refine Bi (args:=[_]) ts_ok Go.Proofs.Tryz.func88 rfl rfl fun w0 X0 => ?_
 have hn1:=hx.hs.len
 have hn2:=hx.asn.len
 obtain ⟨⟨l1,_,i1⟩,⟨l2,_,i2⟩⟩:SquadOk x.hs∧SquadOk x.asn:=⟨hok.2.2.2.2.2.1,hok.2.2.2.2.2.2.1⟩
 have hdis:∀ p∈x.hs,p ∉ x.asn:=hok.2.2.2.2.2.2.2.2.2
 have hh:=hx.hs
 have ha:=hx.asn
 repeat' (first|apply Ac|apply Ag|apply Aa|apply Ab|(apply Ad;(iterate 3 exact J))|(apply Ai;(iterate 3 exact J);(first|(apply Ar;exact J;intro b;skip)|(apply Bq (n:=0);(iterate 3 exact J);exact List.cons_ne_nil _ _;(iterate 6 exact J);intro b8;skip))))
 rename_i b4
 generalize b8=b5
 generalize b=b1
 refine Bj (X:=Nat×Nat×List (Int×Int)×Nat×Option Addr×Nat×Option Addr×Nat×Ro) (fun y=>y.1≤s.hs.n∧y.2.1≤s.asn.n∧MemP x y.1 y.2.1 y.2.2.1∧y.2.2.2.1=y.1+y.2.1∧Le h y.2.2.2.2.2.2.2.2) (fun y=>s.hs.n+s.asn.n-(y.1+y.2.1))
  (fun y=>[(6,.int .i64 y.1),(7,.int .i64 y.2.1),(4,.slice y.2.2.2.2.1 y.2.2.2.1 y.2.2.2.2.2.1),(5,.slice y.2.2.2.2.2.2.1 y.2.2.2.1 y.2.2.2.2.2.2.2.1),(1,ptrV b1)])
  (fun y=>[OwnS 3 1 (.slice y.2.2.2.2.1 y.2.2.2.1 y.2.2.2.2.2.1) y.2.2.2.1 ((y.2.2.1.map (·.1)).flatMap encI),OwnS 3 1 (.slice y.2.2.2.2.2.2.1 y.2.2.2.1 y.2.2.2.2.2.2.2.1) y.2.2.2.1 ((y.2.2.1.map (·.2)).flatMap encI),Blk b1 40 (sheetC s x)]) (fun y=>y.2.2.2.2.2.2.2.2) (0,0,[],0,some ⟨b4,0,none⟩,0,some ⟨b5,0,none⟩,0,h) ⟨by dsimp only;omega,by dsimp only;omega,MemP.zero x,rfl,Le.refl _⟩ QS QT rfl ?_
 rintro ⟨i,k,o,m,A1,c1,A2,c2,h1⟩ ⟨hi,hk,hP,hm,hle⟩ ih
 dsimp only at hi hk hP hm hle ih ⊢
 have hol:=hP.len
 by_cases hdone:i<s.hs.n∨k<s.asn.n
 · by_cases htake:k=s.asn.n∨(i<s.hs.n∧x.hs.getD i 0<x.asn.getD k 0)
   · have hin:i<s.hs.n:=by omega
     have a1:=hh.addrD hin
     have d1:CellsAt h1 ((addrD s.hs.A).add (i * ty3.size)) (encI (x.hs.getD i 0)):=(hh.cellsD 0 hin).le hle
     have hdr:∀ p∈x.asn.drop k,x.hs.getD i 0<p:=dropped i2 fun q=>htake.elim (fun w=>absurd q (by omega)) (fun w=>w.2)
     have hnew:=hP.stepH i1 (by omega) (by rw [Ru];exact hdr)
     rw [Ru] at hnew
     by_cases hkn:k<s.asn.n
     · have hlt:x.hs.getD i 0<x.asn.getD k 0:=by omega
       have a2:=ha.addrD hkn
       have d2:CellsAt h1 ((addrD s.asn.A).add (k * ty3.size)) (encI (x.asn.getD k 0)):=(ha.cellsD 0 hkn).le hle
       clear hdone htake
       generalize x.hs.getD i 0=p at *
       generalize x.asn.getD k 0=r at *
       repeat' (first|apply Ac|apply Av|apply Ah|apply Ag|apply Aa|apply Ab|(apply Au;exact J;exact J)|(apply Bf;(iterate 3 exact J);omega;exact J;exact J)|(apply Ad;(iterate 3 exact J))|(apply Ao;exact J;exact Bb rfl QM rfl;exact J;exact J)|(apply Be;exact J;exact J;(first|(apply Az (j:=i) (n:=s.hs.n);(iterate 5 exact J);exact a1;(with_reducible exact J);omega)|(apply Aq;exact J;apply Bh;exact J;(with_reducible exact d1);exact J));exact QA)|(apply Ai;(iterate 3 exact J);(first|(apply At (enc:=encI) (n:=1) [p];(iterate 3 exact J);exact List.cons_ne_nil _ _;(iterate 4 exact J);exact fun _=>rfl;exact J;exact J;intro b6 h6 hle6 hs6;skip)|(apply At (enc:=encI) (n:=1) [x.g.h];(iterate 3 exact J);exact List.cons_ne_nil _ _;(iterate 4 exact J);exact fun _=>rfl;exact J;exact J;intro b7 h7 hle7 hs7;skip)|(apply Bg (enc:=encI) (n:=m) (xs:=o.map (·.1)) (ys:=[p]);(iterate 7 exact J);exact hs6;exact fun _=>rfl;exact fun x=>Bv rfl;intro v1;exact QR;omega;exact J;intro A5 c5;skip)|(apply Bg (enc:=encI) (n:=m) (xs:=o.map (·.2)) (ys:=[x.g.h]);(iterate 7 exact J);exact hs7;exact fun _=>rfl;exact fun x=>Bv rfl;intro v1;exact QR;omega;exact J;intro A6 c6;skip)))|(apply Bd (n:=6) [0,1,2,3,4,5,6,7,8,9,10,11,12,13,14,15,16,17,18,19,20,21,22,23,24] [(0,0),(1,0),(2,0),(3,0),(4,0),(5,0),(6,0),(7,0),(8,0),(9,0),(10,0),(11,0),(12,0),(13,0),(14,0),(15,0),(16,0),(17,0),(18,0),(19,0),(20,0),(21,0),(22,0),(23,0),(24,0)];kernel_rfl)|(apply Ca;exact J;kernel_rfl;(iterate 3 exact J))|(apply Bo;exact J;kernel_rfl;(iterate 3 exact J);exact QM;exact J;exact J)|(apply Ce;exact J;kernel_rfl;exact J;exact J;(first|(apply Az (j:=i) (n:=s.hs.n);(iterate 5 exact J);exact a1;(with_reducible exact J);omega)|(apply Aq;exact J;apply Bh;exact J;(with_reducible exact d1);exact J)|(apply Az (j:=k) (n:=s.asn.n);(iterate 5 exact J);exact a2;(with_reducible exact J);omega)|(apply Aq;exact J;apply Bh;exact J;(with_reducible exact d2);exact J));exact QA)|(apply Bk;kernel_rfl;exact J)|(apply Cf;(iterate 5 exact J);all_goals (intro hc;try simp only [hcS,reduceCtorEq] at hc;try (exfalso;omega)))|(apply Af;exact J;all_goals (intro hc;try simp only [hcS,reduceCtorEq] at hc;try (exfalso;omega)))|(apply Bc;exact J;exact J;all_goals (intro hc;try simp only [hcS,reduceCtorEq] at hc;try (exfalso;omega))))
       all_goals first
        | (exfalso;omega)
        | contradiction
        | (have h3:=ih (i+1,k,o++[(p,x.g.h)],m+1,A5,c5,A6,c6,h7) ⟨by dsimp only;omega,by dsimp only;omega,hnew,by dsimp only;omega,hle.trans (hle6.trans hle7)⟩ (by dsimp only;omega)
           dsimp only at h3
           rw [List.map_append,List.map_append] at h3
           refine Bn QS QT (h3))
     · clear hdone htake
       generalize x.hs.getD i 0=p at *
       repeat' (first|apply Ac|apply Av|apply Ah|apply Ag|apply Aa|apply Ab|(apply Au;exact J;exact J)|(apply Bf;(iterate 3 exact J);omega;exact J;exact J)|(apply Ad;(iterate 3 exact J))|(apply Ao;exact J;exact Bb rfl QM rfl;exact J;exact J)|(apply Be;exact J;exact J;(first|(apply Az (j:=i) (n:=s.hs.n);(iterate 5 exact J);exact a1;(with_reducible exact J);omega)|(apply Aq;exact J;apply Bh;exact J;(with_reducible exact d1);exact J));exact QA)|(apply Ai;(iterate 3 exact J);(first|(apply At (enc:=encI) (n:=1) [p];(iterate 3 exact J);exact List.cons_ne_nil _ _;(iterate 4 exact J);exact fun _=>rfl;exact J;exact J;intro b6 h6 hle6 hs6;skip)|(apply At (enc:=encI) (n:=1) [x.g.h];(iterate 3 exact J);exact List.cons_ne_nil _ _;(iterate 4 exact J);exact fun _=>rfl;exact J;exact J;intro b7 h7 hle7 hs7;skip)|(apply Bg (enc:=encI) (n:=m) (xs:=o.map (·.1)) (ys:=[p]);(iterate 7 exact J);exact hs6;exact fun _=>rfl;exact fun x=>Bv rfl;intro v1;exact QR;omega;exact J;intro A5 c5;skip)|(apply Bg (enc:=encI) (n:=m) (xs:=o.map (·.2)) (ys:=[x.g.h]);(iterate 7 exact J);exact hs7;exact fun _=>rfl;exact fun x=>Bv rfl;intro v1;exact QR;omega;exact J;intro A6 c6;skip)))|(apply Bd (n:=6) [0,1,2,3,4,5,6,7,8,9,10,11,12,13,14,15,16,17,18,19,20,21,22,23,24] [(0,0),(1,0),(2,0),(3,0),(4,0),(5,0),(6,0),(7,0),(8,0),(9,0),(10,0),(11,0),(12,0),(13,0),(14,0),(15,0),(16,0),(17,0),(18,0),(19,0),(20,0),(21,0),(22,0),(23,0),(24,0)];kernel_rfl)|(apply Gw;exact J;kernel_rfl;exact J;exact J)|(apply Ca;exact J;kernel_rfl;(iterate 3 exact J))|(apply Bo;exact J;kernel_rfl;(iterate 3 exact J);exact QM;exact J;exact J)|(apply Bk;kernel_rfl;exact J)|(apply Cf;(iterate 5 exact J);all_goals (intro hc;try simp only [hcS,reduceCtorEq] at hc;try (exfalso;omega)))|(apply Af;exact J;all_goals (intro hc;try simp only [hcS,reduceCtorEq] at hc;try (exfalso;omega)))|(apply Bc;exact J;exact J;all_goals (intro hc;try simp only [hcS,reduceCtorEq] at hc;try (exfalso;omega))))
       all_goals first
        | (exfalso;omega)
        | contradiction
        | (have h3:=ih (i+1,k,o++[(p,x.g.h)],m+1,A5,c5,A6,c6,h7) ⟨by dsimp only;omega,by dsimp only;omega,hnew,by dsimp only;omega,hle.trans (hle6.trans hle7)⟩ (by dsimp only;omega)
           dsimp only at h3
           rw [List.map_append,List.map_append] at h3
           refine Bn QS QT (h3))
   · have hkn:k<s.asn.n:=by omega
     have a2:=ha.addrD hkn
     have d2:CellsAt h1 ((addrD s.asn.A).add (k * ty3.size)) (encI (x.asn.getD k 0)):=(ha.cellsD 0 hkn).le hle
     have hne:i<s.hs.n→x.asn.getD k 0<x.hs.getD i 0:=fun q=>by
      have h1:x.hs.getD i 0∈x.hs:=mem7 0 (by omega)
      have h2:x.asn.getD k 0∈x.asn:=mem7 0 (by omega)
      have h3:x.hs.getD i 0≠x.asn.getD k 0:=fun e=>hdis _ h1 (e ▸ h2)
      omega
     have hnew:=hP.stepA i2 (by omega) (by rw [Ru];exact dropped i1 fun q=>hne (by omega))
     rw [Ru] at hnew
     by_cases hin:i<s.hs.n
     · have hlt:=hne hin
       have a1:=hh.addrD hin
       have d1:CellsAt h1 ((addrD s.hs.A).add (i * ty3.size)) (encI (x.hs.getD i 0)):=(hh.cellsD 0 hin).le hle
       clear hdone htake hne
       generalize x.hs.getD i 0=p at *
       generalize x.asn.getD k 0=r at *
       repeat' (first|apply Ac|apply Av|apply Ah|apply Ag|apply Aa|apply Ab|(apply Au;exact J;exact J)|(apply Bf;(iterate 3 exact J);omega;exact J;exact J)|(apply Ad;(iterate 3 exact J))|(apply Ao;exact J;exact Bb rfl QM rfl;exact J;exact J)|(apply Be;exact J;exact J;(first|(apply Az (j:=k) (n:=s.asn.n);(iterate 5 exact J);exact a2;(with_reducible exact J);omega)|(apply Aq;exact J;apply Bh;exact J;(with_reducible exact d2);exact J));exact QA)|(apply Ai;(iterate 3 exact J);(first|(apply At (enc:=encI) (n:=1) [r];(iterate 3 exact J);exact List.cons_ne_nil _ _;(iterate 4 exact J);exact fun _=>rfl;exact J;exact J;intro b6 h6 hle6 hs6;skip)|(apply At (enc:=encI) (n:=1) [x.g.a];(iterate 3 exact J);exact List.cons_ne_nil _ _;(iterate 4 exact J);exact fun _=>rfl;exact J;exact J;intro b7 h7 hle7 hs7;skip)|(apply Bg (enc:=encI) (n:=m) (xs:=o.map (·.1)) (ys:=[r]);(iterate 7 exact J);exact hs6;exact fun _=>rfl;exact fun x=>Bv rfl;intro v1;exact QR;omega;exact J;intro A5 c5;skip)|(apply Bg (enc:=encI) (n:=m) (xs:=o.map (·.2)) (ys:=[x.g.a]);(iterate 7 exact J);exact hs7;exact fun _=>rfl;exact fun x=>Bv rfl;intro v1;exact QR;omega;exact J;intro A6 c6;skip)))|(apply Bd (n:=6) [0,1,2,3,4,5,6,7,8,9,10,11,12,13,14,15,16,17,18,19,20,21,22,23,24] [(0,0),(1,0),(2,0),(3,0),(4,0),(5,0),(6,0),(7,0),(8,0),(9,0),(10,0),(11,0),(12,0),(13,0),(14,0),(15,0),(16,0),(17,0),(18,0),(19,0),(20,0),(21,0),(22,0),(23,0),(24,0)];kernel_rfl)|(apply Ca;exact J;kernel_rfl;(iterate 3 exact J))|(apply Bo;exact J;kernel_rfl;(iterate 3 exact J);exact QM;exact J;exact J)|(apply Ce;exact J;kernel_rfl;exact J;exact J;(first|(apply Az (j:=i) (n:=s.hs.n);(iterate 5 exact J);exact a1;(with_reducible exact J);omega)|(apply Aq;exact J;apply Bh;exact J;(with_reducible exact d1);exact J)|(apply Az (j:=k) (n:=s.asn.n);(iterate 5 exact J);exact a2;(with_reducible exact J);omega)|(apply Aq;exact J;apply Bh;exact J;(with_reducible exact d2);exact J));exact QA)|(apply Bk;kernel_rfl;exact J)|(apply Cf;(iterate 5 exact J);all_goals (intro hc;try simp only [hcS,reduceCtorEq] at hc;try (exfalso;omega)))|(apply Af;exact J;all_goals (intro hc;try simp only [hcS,reduceCtorEq] at hc;try (exfalso;omega)))|(apply Bc;exact J;exact J;all_goals (intro hc;try simp only [hcS,reduceCtorEq] at hc;try (exfalso;omega))))
       all_goals first
        | (exfalso;omega)
        | contradiction
        | (have h3:=ih (i,k+1,o++[(r,x.g.a)],m+1,A5,c5,A6,c6,h7) ⟨by dsimp only;omega,by dsimp only;omega,hnew,by dsimp only;omega,hle.trans (hle6.trans hle7)⟩ (by dsimp only;omega)
           dsimp only at h3
           rw [List.map_append,List.map_append] at h3
           refine Bn QS QT (h3))
     · clear hdone htake hne
       generalize x.asn.getD k 0=r at *
       repeat' (first|apply Ac|apply Av|apply Ah|apply Ag|apply Aa|apply Ab|(apply Bf;(iterate 3 exact J);omega;exact J;exact J)|(apply Ad;(iterate 3 exact J))|(apply Ao;exact J;exact Bb rfl QM rfl;exact J;exact J)|(apply Be;exact J;exact J;(first|(apply Az (j:=k) (n:=s.asn.n);(iterate 5 exact J);exact a2;(with_reducible exact J);omega)|(apply Aq;exact J;apply Bh;exact J;(with_reducible exact d2);exact J));exact QA)|(apply Ai;(iterate 3 exact J);(first|(apply At (enc:=encI) (n:=1) [r];(iterate 3 exact J);exact List.cons_ne_nil _ _;(iterate 4 exact J);exact fun _=>rfl;exact J;exact J;intro b6 h6 hle6 hs6;skip)|(apply At (enc:=encI) (n:=1) [x.g.a];(iterate 3 exact J);exact List.cons_ne_nil _ _;(iterate 4 exact J);exact fun _=>rfl;exact J;exact J;intro b7 h7 hle7 hs7;skip)|(apply Bg (enc:=encI) (n:=m) (xs:=o.map (·.1)) (ys:=[r]);(iterate 7 exact J);exact hs6;exact fun _=>rfl;exact fun x=>Bv rfl;intro v1;exact QR;omega;exact J;intro A5 c5;skip)|(apply Bg (enc:=encI) (n:=m) (xs:=o.map (·.2)) (ys:=[x.g.a]);(iterate 7 exact J);exact hs7;exact fun _=>rfl;exact fun x=>Bv rfl;intro v1;exact QR;omega;exact J;intro A6 c6;skip)))|(apply Bd (n:=6) [0,1,2,3,4,5,6,7,8,9,10,11,12,13,14,15,16,17,18,19,20,21,22,23,24] [(0,0),(1,0),(2,0),(3,0),(4,0),(5,0),(6,0),(7,0),(8,0),(9,0),(10,0),(11,0),(12,0),(13,0),(14,0),(15,0),(16,0),(17,0),(18,0),(19,0),(20,0),(21,0),(22,0),(23,0),(24,0)];kernel_rfl)|(apply Gw;exact J;kernel_rfl;exact J;exact J)|(apply Ca;exact J;kernel_rfl;(iterate 3 exact J))|(apply Bo;exact J;kernel_rfl;(iterate 3 exact J);exact QM;exact J;exact J)|(apply Bk;kernel_rfl;exact J)|(apply Cf;(iterate 5 exact J);all_goals (intro hc;try simp only [hcS,reduceCtorEq] at hc;try (exfalso;omega)))|(apply Af;exact J;all_goals (intro hc;try simp only [hcS,reduceCtorEq] at hc;try (exfalso;omega)))|(apply Bc;exact J;exact J;all_goals (intro hc;try simp only [hcS,reduceCtorEq] at hc;try (exfalso;omega))))
       all_goals first
        | (exfalso;omega)
        | contradiction
        | (have h3:=ih (i,k+1,o++[(r,x.g.a)],m+1,A5,c5,A6,c6,h7) ⟨by dsimp only;omega,by dsimp only;omega,hnew,by dsimp only;omega,hle.trans (hle6.trans hle7)⟩ (by dsimp only;omega)
           dsimp only at h3
           rw [List.map_append,List.map_append] at h3
           refine Bn QS QT (h3))
 · have him:=hP.done (by omega) (by omega)
   have hye:=Re him
   rw [← hye]
   clear ih
   refine Db (enc:=encI) (e:=3) (sz:=1) (n:=m) (xs:=o.map (·.1)) (fun _=>rfl) (by rw [List.length_map];omega) QK ?_
   intro A7 c7 h7 hle7 e7 hnc7 hs7
   cases e7
   refine Db (enc:=encI) (e:=3) (sz:=1) (n:=m) (xs:=o.map (·.2)) (fun _=>rfl) (by rw [List.length_map];omega) QK ?_
   intro A8 c8 h8 hle8 e8 hnc8 hs8
   cases e8
   have hml:m=o.length:=by omega
   subst hml
   repeat' (first|apply Ac|apply Aa|apply Ab|(apply Bl;exact J)|(apply Ad;(iterate 3 exact J))|(apply Ao;exact J;exact Bb rfl QM rfl;exact J;exact J)|(apply Af;exact J;all_goals (intro hc;try simp only [hcS,reduceCtorEq] at hc;try (exfalso;omega)))|(apply Bc;exact J;exact J;all_goals (intro hc;try simp only [hcS,reduceCtorEq] at hc;try (exfalso;omega))))
   all_goals first
    | (exfalso;omega)
    | (exact Dp rfl rfl rfl rfl ⟨A1,c1,A2,c2,rfl,hs7.le hle8,hs8⟩)
theorem ins_ok {L:List Fct}{s c:Int}{D:List FScore}{x:FScore}{n:Nat}(hs:D.Pairwise LtS)(hD:∀ y∈D,DecOk L s c y)(hx:DecOk L s c x)(hn:n≤D.length)(h1:∀ t,t<n→LtS (D.getD t score0) x)(h2:n<D.length→¬ LtS (D.getD n score0) x)(hne:x ∉ D):(D.take n++x::D.drop n).Pairwise LtS:=by
 have hp:=hs
 rw [← List.take_append_drop n D,List.pairwise_append] at hp
 obtain ⟨p1,p2,p3⟩:=hp
 have hlo:∀ y∈D.take n,LtS y x:=fun y hy=>by
  obtain ⟨t,ht,e⟩:=List.getElem_of_mem hy
  rw [List.length_take] at ht
  have:=h1 t (by omega)
  rw [List.getD_eq_getElem?_getD,List.getElem?_eq_getElem (show t<D.length by omega),Option.getD_some] at this
  rw [← e,List.getElem_take]
  exact this
 have hhi:∀ y∈D.drop n,LtS x y:=fun y hy=>by
  by_cases hnD:n<D.length
  · have h3:=h2 hnD
    rw [List.getD_eq_getElem?_getD,List.getElem?_eq_getElem hnD,Option.getD_some] at h3
    have hm:D[n]∈D:=List.getElem_mem _
    have h4:LtS x D[n]:=by
     rcases LtS.tri (hD _ hm) hx with w|w|w
     · exact absurd w h3
     · exact absurd (w ▸ hm) hne
     · exact w
    rw [List.drop_eq_getElem_cons hnD] at hy p2
    rw [List.pairwise_cons] at p2
    rcases List.mem_cons.1 hy with e|e
    · rw [e];exact h4
    · exact LtS.trans _ _ _ h4 (p2.1 y e)
  · rw [List.drop_of_length_le (by omega)] at hy;cases hy
 refine List.pairwise_append.2 ⟨p1,List.pairwise_cons.2 ⟨hhi,p2⟩,fun a ha b hb => ?_⟩
 rcases List.mem_cons.1 hb with e|e
 · rw [e];exact hlo a ha
 · exact p3 a ha b e
theorem ins_mem {α:Type}{D:List α}{x y:α}(n:Nat):y∈D.take n++x::D.drop n↔y=x∨y∈D:=by
 conv=>rhs;rw [← List.take_append_drop n D]
 rw [List.mem_append,List.mem_cons,List.mem_append]
 constructor
 · rintro (h|h|h)
   · exact .inr (.inl h)
   · exact .inl h
   · exact .inr (.inr h)
 · rintro (h|h|h)
   · exact .inr (.inl h)
   · exact .inl h
   · exact .inr (.inr h)
theorem Csa {L:List Fct}(h32:In32 L){gs:List FGame}(hn:gs.Nodup){k:Nat}(hk:k<gs.length)(h2:(scoreF L gs[k]).kind=2):scoreF L gs[k] ∉ agreedL L (gs.take k):=fun hm=>by
 obtain ⟨g,hg,e,_⟩:=It.1 hm
 obtain ⟨_,_,_,_,e1,g1,_⟩:=Cu h32 h2
 obtain ⟨_,_,_,_,e3,g3,_⟩:=Cu h32 (g:=g) (by rw [e];exact h2)
 have:g=gs[k]:=by rw [← g1,e1,← e,← e3,g3]
 rw [← List.take_append_drop k gs,List.drop_eq_getElem_cons hk,List.nodup_append] at hn
 exact hn.2.2 g hg gs[k] List.mem_cons_self this
theorem Cha (h:Ro)(A:Option Addr)(n c:Nat)(l:List (Fsh×Fct))(hx:FactsAt h A n l)(hn6:n≤65536)(season comp:Int):Res Tryz.prog 87 #[.slice A n c,.int .i64 season,.int .i64 comp] h (fun u h'=>∃ A' c' ds,u=.slice A' ds.length c'∧SlOf encSc 15 h' A' ds.length ds∧(∀ p∈ds,ScAt h' p)∧IsDec (fcs l) season comp (ds.map (·.2))∧ds.length≤n∧ds.length≤c'):=by
 refine Bi (args:=[_,_,_]) ts_ok Go.Proofs.Tryz.func87 rfl rfl fun w0 X0 => ?_
 have h32:=Ee hx
 have hlenL:(fcs l).length=n:=by unfold fcs;rw [List.length_map,hx.row.len]
 have hga:=fun h' (hl:Le h h')=>gamesR_c h' A n c l (hx.le hl) hn6 season comp
 have hsc:=fun h' (hl:Le h h') g=>Zd h' A n c l (hx.le hl) hn6 g
 have hgl:=Nr hx season comp
 have hmem:=fun x=>Lk (l:=l) h32 (s:=season) (c:=comp) (x:=x)
 have hnd:(gamesL l season comp).Nodup:=(Nq l season comp).imp fun {a b} hab e=>by subst e;exact LtG.irrefl _ hab
 have hgok:∀ g∈gamesL l season comp,g.s=season∧g.c=comp:=fun g hg=>⟨(Gk.1 hg).1,(Gk.1 hg).2.1⟩
 rw [show cont l=fcs l from rfl] at hsc
 generalize gamesL l season comp=gs at *
 generalize hL:fcs l=L at *
 clear hL hx
 repeat' (first|apply Ac|apply Ag|apply Aa|apply Ab|(apply Ad;(iterate 3 exact J))|(apply Ai;(iterate 3 exact J);(first|(apply Bm (cs:=[]);(iterate 3 exact J);exact List.cons_ne_nil _ _;(iterate 4 exact J);intro b1 h1 hle1 hcs1;skip)|(apply Ba;exact J;exact has167;exact hga _ QL;rintro w1 h2 hle2 ⟨A3,c3,rfl,hsl⟩;skip))))
 clear hga
 refine Bj (X:=Nat×List (Fsh×FScore)×Option Addr×Nat×Ro) (fun x=>x.1≤gs.length∧Le h2 x.2.2.2.2∧(∀ p∈x.2.1,ScAt x.2.2.2.2 p)∧(x.2.1.map (·.2)).Pairwise LtS∧(∀ y,y∈x.2.1.map (·.2)↔y∈agreedL L (gs.take x.1))∧x.2.1.length≤x.1∧SlOf encSc 15 x.2.2.2.2 x.2.2.1 x.2.1.length x.2.1∧x.2.1.length≤x.2.2.2.1) (fun x=>gs.length-x.1)
  (fun x=>[(9,.int .i64 x.1),(8,.slice A3 gs.length c3),(7,.slice x.2.2.1 x.2.1.length x.2.2.2.1),(0,.slice A n c)])
  (fun x=>[]) (fun x=>x.2.2.2.2) (0,[],some ⟨b1,0,none⟩,0,h2) ⟨by dsimp only;omega,Le.refl _,by simp,by simp,by simp [agreedL],by simp,SlOf.nil,Nat.le_refl _⟩ QS QT rfl ?_
 rintro ⟨k,out,A4,c4,hh⟩ ⟨hk,hle,hat,hso,hme,hol,hsl4,hoc⟩ ih
 dsimp only at hk hle hat hso hme hol hsl4 hoc ih ⊢
 obtain ⟨m,hm⟩:∃ m,m=out.length:=⟨_,rfl⟩
 rw [← hm] at hol hsl4 hoc ⊢
 by_cases hkn:k<gs.length
 · have a1:=hsl.addrD hkn
   have d1:CellsAt hh ((addrD A3).add (k * ty35.size)) (gameC (gs.getD k g9)):=(hsl.cellsD g9 hkn).le hle
   have et:=Cl g9 (xs:=gs) rfl hkn
   have egk:gs.getD k g9=gs[k]:=by simp [List.getD,List.getElem?_eq_getElem hkn]
   have hnew:=Csa h32 hnd hkn
   have hgm:=hgok _ (mem7 g9 hkn)
   rw [← egk] at hnew
   generalize gs.getD k g9=g at *
   have e0:=Lp L (gs.take k) g
   rw [← et] at e0
   have hsg:=fun h' (hl:Le h h')=>hsc h' hl g
   have hDx:(scoreF L g).kind=2→DecOk L season comp (scoreF L g):=fun q=>Jr h32 ⟨g,hgm.1,hgm.2,rfl,q⟩
   have hDo:∀ y∈out.map (·.2),DecOk L season comp y:=fun y hy=>by
    have:=(hme y).1 hy
    obtain ⟨g',hg',e1,e2⟩:=It.1 this
    have:=hgok g' (List.mem_of_mem_take hg')
    exact Jr h32 ⟨g',this.1,this.2,e1,e2⟩
   generalize scoreF L g=x at *
   by_cases hk2:x.kind=2
   · rw [if_pos hk2] at e0
     have hnew:=hnew hk2
     have hDx:=hDx hk2
     clear hmem hsc
     repeat' (first|apply Ac|apply Av|apply Ag|apply Aa|apply Ab|(apply Ai;(iterate 3 exact J);apply Ap (e:=84);exact J;intro b10)|(apply Ad;(iterate 3 exact J))|(apply Ao;exact J;exact Bb rfl QM rfl;exact J;exact J)|(apply Be;exact J;exact J;(first|(apply Az (j:=k);(iterate 5 exact J);exact a1;(with_reducible exact J);omega)|(apply Aq;exact J;exact Bh rfl d1 rfl));exact QA)|(apply Ai;(iterate 3 exact J);(first|(apply Aj;(iterate 3 exact J);exact QR;(iterate 3 exact J);skip)|(apply Ba;exact J;exact has94;exact hsg _ QL;rintro w2 h3 hle3 ⟨s,rfl,hs1,hs2⟩;skip)))|(apply Af;exact J;all_goals (intro hc;try simp only [hcS,reduceCtorEq] at hc;try (exfalso;omega))))
     all_goals (try (exfalso;omega))
     have hsl5:=hsl4.le hle3
     refine Bj (X:=Nat) (fun j=>j≤m∧∀ t,t<j→LtS ((out.map (·.2)).getD t score0) x) (fun j=>m-j)
      (fun j=>[(11,.int .i64 j),(9,.int .i64 k),(8,.slice A3 gs.length c3),(7,.slice A4 m c4),(10,ptrV b10),(0,.slice A n c)])
      (fun j=>[Blk b10 84 (encSc (s,x))]) (fun j=>h3) 0 ⟨by omega,fun t ht=>absurd ht (by omega)⟩ QS QT rfl ?_
     rintro j ⟨hj,hI⟩ ih2
     have hgd:(out.map (·.2)).getD j score0=(out.getD j sc0).2:=by
      rcases Nat.lt_or_ge j out.length with w|w
      · simp [List.getD,List.getElem?_eq_getElem w]
      · simp [List.getD,List.getElem?_eq_none w];rfl
     by_cases hgo:j<m∧LtS (out.getD j sc0).2 x
     · obtain ⟨hjm,hlt⟩:=hgo
       have b1':=hsl5.addrD hjm
       have e1:CellsAt h3 ((addrD A4).add (j * ty84.size)) (encSc (out.getD j sc0)):=hsl5.cellsD sc0 hjm
       have hbf:=Aya h3 (out.getD j sc0) (s,x)
       rw [decide_eq_true hlt] at hbf
       have h4:=ih2 (j+1) ⟨by omega,fun t ht=>by
        rcases Nat.lt_or_ge t j with w|w
        · exact hI t w
        · have:t=j:=by omega
          subst this;rw [hgd];exact hlt⟩ (by omega)
       generalize out.getD j sc0=y at *
       clear ih2 ih
       repeat' (first|apply Ac|apply Av|apply Ah|apply Ag|apply Aa|apply Ab|(apply Bf;(iterate 3 exact J);omega;exact J;exact J)|(apply Ad;(iterate 3 exact J))|(apply Bd (n:=9) [0,1,2,3,4,5,6,7,8,9,10,11] [(0,0),(1,0),(2,0),(3,0),(4,0),(5,0),(6,0),(7,0),(8,0),(9,0),(10,1),(11,0)];kernel_rfl)|(apply Ca;exact J;kernel_rfl;(iterate 3 exact J))|(apply Bo;exact J;kernel_rfl;(iterate 3 exact J);exact QM;exact J;exact J)|(apply Ce;exact J;kernel_rfl;exact J;exact J;(first|(apply Az (j:=j) (n:=m);(iterate 5 exact J);exact b1';(with_reducible exact J);omega)|(apply Aq;exact J;apply Bh;exact J;(with_reducible exact e1);exact J));exact QA)|(apply Bp;exact J;kernel_rfl;(iterate 3 exact J);(first|(apply Ak;exact J;exact has168;exact hbf;refine ⟨Le.refl _,QN,?_⟩)))|(apply Bk;kernel_rfl;exact J)|(apply Cf;(iterate 5 exact J);all_goals (intro hc;try simp only [hcS,reduceCtorEq] at hc;try (exfalso;omega)))|(apply Af;exact J;all_goals (intro hc;try simp only [hcS,reduceCtorEq] at hc;try (exfalso;omega))))
       all_goals first
        | (exfalso;omega)
        | (refine Bn QS QT (h4))
     · have hins:=ins_ok hso hDo hDx (n:=j) (by rw [List.length_map];omega) hI (fun q=>by rw [hgd];rw [List.length_map] at q;exact fun w=>hgo ⟨by omega,w⟩) (fun q=>hnew ((hme x).1 q))
       rw [← List.map_take,← List.map_drop] at hins
       have hinm:=fun y=>ins_mem (D:=out.map (·.2)) (x:=x) (y:=y) j
       rw [← List.map_take,← List.map_drop] at hinm
       clear ih2
       have hih:=fun A' c' h' (hl:Le h3 h') (hs':SlOf encSc 15 h' A' (j+1+(m-j)) (out.take j++[(s,x)]++out.drop j)) (hc':j+1+(m-j)≤c')=>ih (k+1,out.take j++[(s,x)]++out.drop j,A',c',h') ⟨by dsimp only;omega,hle.trans (hle3.trans hl),fun q hq=>by
        rw [List.append_assoc,List.mem_append,List.mem_append,List.mem_singleton] at hq
        rcases hq with w|w|w
        · exact (hat q (List.mem_of_mem_take w)).le (hle3.trans hl)
        · subst w;exact ⟨hs1.le hl,hs2⟩
        · exact (hat q (List.mem_of_mem_drop w)).le (hle3.trans hl),by
        dsimp only
        rw [List.append_assoc,List.map_append,List.map_append]
        exact hins,fun y=>by
        dsimp only
        rw [List.append_assoc,List.map_append,List.map_append,e0,List.mem_append (s:=agreedL L (gs.take k)),List.mem_singleton,← hme y]
        exact (hinm y).trans or_comm,by dsimp only;simp;omega,by
        have e:(out.take j++[(s,x)]++out.drop j).length=j+1+(m-j):=by simp;omega
        dsimp only
        rw [e];exact hs',by
        have e:(out.take j++[(s,x)]++out.drop j).length=j+1+(m-j):=by simp;omega
        dsimp only
        rw [e];exact hc'⟩ (by dsimp only;omega)
       have elen:(out.take j++[(s,x)]++out.drop j).length=j+1+(m-j):=by simp;omega
       dsimp only at hih
       rw [elen] at hih
       clear ih
       have hhi:=hsl5.high (hi:=j) (c:=c4) hj hoc
       have hlo:=hsl5.low (lo:=j) (c:=c4) hj hoc
       by_cases hjm:j<m
       case' pos =>
        have b1':=hsl5.addrD hjm
        have e1:CellsAt h3 ((addrD A4).add (j * ty84.size)) (encSc (out.getD j sc0)):=hsl5.cellsD sc0 hjm
        have hbf:=Aya h3 (out.getD j sc0) (s,x)
        rw [decide_eq_false (fun w=>hgo ⟨hjm,w⟩)] at hbf
       all_goals (repeat' (first|apply Ac|apply Ah|apply Aa|apply Ab|(apply Bl;exact J)|(apply Bf;(iterate 3 exact J);omega;exact J;exact J)|(apply Ad;(iterate 3 exact J))|(apply Bd (n:=9) [0,1,2,3,4,5,6,7,8,9,10,11] [(0,0),(1,0),(2,0),(3,0),(4,0),(5,0),(6,0),(7,0),(8,0),(9,0),(10,1),(11,0)];kernel_rfl)|(apply Bd (n:=11) [0,1,2,3,4,5,6,7,8,9,10,11,12] [(1,0),(2,0),(3,0),(5,0),(8,0),(9,0),(10,0),(0,2),(10,6),(4,2),(4,6),(6,1),(7,1),(11,1),(12,0),(4,1),(7,1),(11,1),(12,0),(0,1),(4,1),(7,1),(11,1),(12,0)];kernel_rfl)|(apply Gw;exact J;kernel_rfl;exact J;exact J)|(apply Ca;exact J;kernel_rfl;(iterate 3 exact J))|(apply Bo;exact J;kernel_rfl;(iterate 3 exact J);exact QM;exact J;exact J)|(apply Ce;exact J;kernel_rfl;exact J;exact J;(first|(apply Az (j:=j) (n:=m);(iterate 5 exact J);exact b1';(with_reducible exact J);omega)|(apply Aq;exact J;apply Bh;exact J;(with_reducible exact e1);exact J)|(apply Ic (hi:=j) (n:=m) (c:=c4);(iterate 6 exact J);omega;omega)|(apply Du (lo:=j) (n:=m) (c:=c4);(iterate 6 exact J);omega));exact QA)|(apply Bp;exact J;kernel_rfl;(iterate 3 exact J);(first|(apply Ak;exact J;exact has168;exact hbf;refine ⟨Le.refl _,QN,?_⟩)|(apply Bq (n:=0);(iterate 3 exact J);exact List.cons_ne_nil _ _;(iterate 6 exact J);intro b8;refine ⟨Le.refl _,QN,?_⟩)|(apply At (enc:=encSc) (n:=1) [(s,x)];(iterate 3 exact J);exact List.cons_ne_nil _ _;(iterate 4 exact J);exact Dx;exact J;exact J;intro b5 h5 hle5 hs5;refine ⟨hle5,QN,?_⟩)|(apply Bg (enc:=encSc) (n:=0) (m:=j) (xs:=[]) (ys:=out.take j);(iterate 7 exact J);exact hhi.le QL;exact Dx;exact fun x=>Bv rfl;intro v1;exact QR;omega;exact J;intro A5 c5;refine ⟨Le.refl _,QN,?_⟩)|(apply Bg (enc:=encSc) (n:=0+j) (m:=1) (xs:=[]++out.take j) (ys:=[(s,x)]);(iterate 7 exact J);exact hs5.le QL;exact Dx;exact fun x=>Bv rfl;intro v1;exact QR;omega;exact J;intro A6 c6;refine ⟨Le.refl _,QN,?_⟩)|(apply Bg (enc:=encSc) (n:=0+j+1) (m:=m-j) (xs:=[]++out.take j++[(s,x)]) (ys:=out.drop j);(iterate 7 exact J);exact hlo.le QL;exact Dx;exact fun x=>Bv rfl;intro v1;exact QR;omega;exact J;intro A7 c7;refine ⟨Le.refl _,QN,?_⟩)))|(apply Fg;kernel_rfl;exact J;exact J)|(apply Cj;(iterate 4 exact J);(first|(apply Bq (n:=0);(iterate 3 exact J);exact List.cons_ne_nil _ _;(iterate 6 exact J);intro b8;refine ⟨Le.refl _,QN,?_⟩)|(apply At (enc:=encSc) (n:=1) [(s,x)];(iterate 3 exact J);exact List.cons_ne_nil _ _;(iterate 4 exact J);exact Dx;exact J;exact J;intro b5 h5 hle5 hs5;refine ⟨hle5,QN,?_⟩)|(apply Bg (enc:=encSc) (n:=0) (m:=j) (xs:=[]) (ys:=out.take j);(iterate 7 exact J);exact hhi.le QL;exact Dx;exact fun x=>Bv rfl;intro v1;exact QR;omega;exact J;intro A5 c5;refine ⟨Le.refl _,QN,?_⟩)))|(apply Bk;kernel_rfl;exact J)|(apply Cf;(iterate 5 exact J);all_goals (intro hc;try simp only [hcS,reduceCtorEq] at hc;try (exfalso;omega)))|(apply Af;exact J;all_goals (intro hc;try simp only [hcS,reduceCtorEq] at hc;try (exfalso;omega)))|(apply Qr;exact J;kernel_rfl;exact J;exact J)))
       all_goals (try (exfalso;omega))
       all_goals
        rw [List.nil_append,Nat.zero_add]
        refine Db (enc:=encSc) (e:=84) (sz:=15) (n:=j+1+(m-j)) (xs:=out.take j++[(s,x)]++out.drop j) Dx elen QK ?_
        intro A9 c9 h9 hle9 e9 hnc9 hs9
        cases e9
        have h8:=hih A7 c7 h9 QL hs9 hnc9
        refine Bn QS QT (h8)
   · rw [if_neg hk2] at e0
     clear hmem hsc
     repeat' (first|apply Ac|apply Av|apply Ag|apply Aa|apply Ab|(apply Bl;exact J)|(apply Bf;(iterate 3 exact J);omega;exact J;exact J)|(apply Ad;(iterate 3 exact J))|(apply Ao;exact J;exact Bb rfl QM rfl;exact J;exact J)|(apply Be;exact J;exact J;(first|(apply Az (j:=k);(iterate 5 exact J);exact a1;(with_reducible exact J);omega)|(apply Aq;exact J;exact Bh rfl d1 rfl));exact QA)|(apply Ai;(iterate 3 exact J);(first|(apply Aj;(iterate 3 exact J);exact QR;(iterate 3 exact J);skip)|(apply Ap;exact J;intro b;skip)|(apply Ba;exact J;exact has94;exact hsg _ QL;rintro w2 h3 hle3 ⟨s,rfl,hs1,hs2⟩;skip)))|(apply Af;exact J;all_goals (intro hc;try simp only [hcS,reduceCtorEq] at hc;try (exfalso;omega))))
     all_goals first
      | (exfalso;omega)
      | (have h4:=ih (k+1,out,A4,c4,h3) ⟨by dsimp only;omega,hle.trans hle3,fun q hq=>(hat q hq).le hle3,hso,fun y=>by dsimp only;rw [e0];exact hme y,by dsimp only;omega,by dsimp only;rw [← hm];exact hsl4.le hle3,by dsimp only;omega⟩ (by dsimp only;omega)
         dsimp only at h4
         rw [← hm] at h4
         refine Bn QS QT (h4))
 · rw [List.take_of_length_le (by omega)] at hme
   clear ih hsc
   have hdec:IsDec L season comp (out.map (·.2)):=⟨hso,fun y=>(hme y).trans (hmem y)⟩
   have hyl:=hdec.len h32
   rw [List.length_map,hlenL] at hyl
   subst hm
   repeat' (first|apply Ac|apply Aa|apply Ab|(apply Bl;exact J)|(apply Ad;(iterate 3 exact J))|(apply Af;exact J;all_goals (intro hc;try simp only [hcS,reduceCtorEq] at hc;try (exfalso;omega))))
   all_goals first
    | (exfalso;omega)
    | (exact Bt rfl rfl rfl ⟨A4,c4,out,rfl,hsl4,hat,hdec,hyl,hoc⟩)
end Go.Hw
