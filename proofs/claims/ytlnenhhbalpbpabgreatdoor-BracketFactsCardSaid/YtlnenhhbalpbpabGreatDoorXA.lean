import Derived.Test.YtlnenhhbalpbpabGreatDoorVE
import Derived.Test.YtlnenhhbalpbpabGreatDoorSB
import Derived.Test.YtlnenhhbalpbpabGreatDoorHwXd
import Derived.Test.YtlnenhhbalpbpabGreatDoorFD
import Derived.Test.YtlnenhhbalpbpabGreatDoorHD
import Derived.Test.YtlnenhhbalpbpabGreatDoorHB
import Derived.Lib.AppendZeros
set_option linter.all false
set_option maxRecDepth 100000
set_option maxHeartbeats 8000000
namespace Go.Hw
open Go
attribute [local irreducible] GO GOl GDp Val Fn Res At Fx Blk By Dk Cl Has Yl Mn Ew Yx Vd Md Pq
open Go.Proofs (Tryz.prog)
theorem idxFR_c (h:Ro)(A:Option Addr)(n c:Nat)(l:List Iz)(hx:Cc Lw 17 h A n l)(hn:n≤1000000)(f:FuncId)(fs cs:List Value)(p:Iz→Bool)(hh:Has Tryz.prog f)
  (hf:∀ x∈l,Val Tryz.prog f (fs++[Ta x]++cs).toArray h (.bool (p x))) :
  Val Tryz.prog 214 #[.slice A n c,.func (.func f) fs.toArray cs.toArray] h (.int .i64 (Jy p l 0)):=by
 refine Az (args:=[_,_]) ts_ok Go.Proofs.Tryz.func214 rfl rfl fun w0 X0 => ?_
 have hlen:=hx.len
 repeat' (first|apply Ac|apply Ak|apply Aa|apply Ab|(apply Ad;(iterate 3 exact J)))
 refine Bt (X:=Nat) (fun k=>k≤n∧Jy p (l.drop k) k=Jy p l 0) (fun k=>n-k) (fun k=>[(8,.int .i64 k),(7,.int .i64 n),(0,.slice A n c),(1,.func (.func f) fs.toArray cs.toArray)]) (fun _=>[]) (fun _=>h) 0 ⟨by omega,rfl⟩ QS QT rfl ?_
 rintro k ⟨hk,hI⟩ ih
 by_cases hkn:k<n
 · have a1:=hx.addrD hkn
   have c1:=hx.cellsD Ps hkn
   have hd:=Zd Ps hlen hkn
   have hv:=hf _ (mem7 Ps (show k<l.length by omega))
   generalize l.getD k Ps=x at *
   repeat' (first|apply Ac|apply Au|apply Ap|apply Ak|apply Aa|apply Ab|(apply Bg;(iterate 3 exact J);omega;exact J;exact J)|(apply Ad;(iterate 3 exact J))|(apply Bd;exact J;exact J;(first|(apply Be (j:=k);(iterate 5 exact J);exact a1;(with_reducible exact J);omega)|(apply Ar;exact J;exact Bh rfl c1 rfl));exact QA)|(apply Af;(iterate 3 exact J);(first|(apply Cd (f:=f) (fs:=fs) (cs:=cs);exact J;exact J;exact hh;exact hv;skip)))|(apply Aj;exact J;all_goals (intro hc;try simp only [hcS,reduceCtorEq] at hc;try (exfalso;omega)))|(apply Bb;(iterate 3 exact J)))
   · rw [← hI,hd,Jy,if_pos hc]
   · have h3:=ih (k+1) ⟨by omega,by rw [← hI,hd,Jy,if_neg (by simp [hc])]⟩ (by omega)
     refine Bw QS QT (h3)
 · repeat' (first|apply Ac|apply Aa|apply Ab|(apply Bn;exact J)|(apply Ad;(iterate 3 exact J))|(apply Aj;exact J;all_goals (intro hc;try simp only [hcS,reduceCtorEq] at hc;try (exfalso;omega)))|(apply Bb;(iterate 3 exact J)))
   rw [← hI,show k=l.length by omega,List.drop_length];rfl
theorem conFR_c (h:Ro)(A:Option Addr)(n c:Nat)(l:List Iz)(hx:Cc Lw 17 h A n l)(hn:n≤1000000)(f:FuncId)(fs cs:List Value)(p:Iz→Bool)(hh:Has Tryz.prog f)
  (hf:∀ x∈l,Val Tryz.prog f (fs++[Ta x]++cs).toArray h (.bool (p x))) :
  Val Tryz.prog 164 #[.slice A n c,.func (.func f) fs.toArray cs.toArray] h (.bool (l.any p)):=by
 refine Az (args:=[_,_]) ts_ok Go.Proofs.Tryz.func164 rfl rfl fun w0 X0 => ?_
 repeat' (first|apply Ac|apply Aa|apply Ab|(apply Ad;(iterate 3 exact J))|(apply Af;(iterate 3 exact J);(first|(apply Aq;exact J;exact has214;exact idxFR_c _ _ _ _ _ hx hn f fs cs p hh hf;skip)))|(apply Bb;(iterate 3 exact J)))
 rw [Up];congr 1;rw [Bool.eq_iff_iff,decide_eq_true_eq];exact Iq _ _ _
theorem unfit1_c (h:Ro)(r:Iz)(b1 b2:Nat)(pl day:Int)(h1:At h ⟨b1,0,none⟩ [.int .i64 pl])(h2:At h ⟨b2,0,none⟩ [.int .i64 day]):Val Tryz.prog 166 #[Ta r,.pointer (some ⟨b1,0,none⟩),.pointer (some ⟨b2,0,none⟩)] h (.bool (unfB pl day r)):=by
 refine Az (args:=[_,_,_]) ts_ok Go.Proofs.Tryz.func166 rfl rfl fun w0 X0 => ?_
 unfold unfB
 repeat' (first|apply Ac|apply Aa|apply Ab|(apply Aw;exact J;exact J)|(apply Ad;(iterate 3 exact J))|(apply Ai;exact J;exact Av rfl QM rfl;exact J;exact J)|(apply Bd;exact J;exact J;(first|(apply Ar;exact J;exact Bh rfl h1 rfl)|(apply Ar;exact J;exact Bh rfl h2 rfl));exact QA)|(apply Af;(iterate 3 exact J);(first|(apply Ao;exact J;intro b;skip)))|(apply Ba;exact J;exact J;all_goals (intro hc;try simp only [hcS,reduceCtorEq] at hc;try (exfalso;omega)))|(apply Bb;(iterate 3 exact J)))
 all_goals (refine Dg ?_;(try rw [Bra]);grind)
theorem Unfit_c (h:Ro)(hG:Kg h)(A:Option Addr)(n c:Nat)(l:List (Fsh×Fct))(hx:Co h A n l)(pl day:Int):Res Tryz.prog 103 #[.slice A n c,.int .i64 pl,.int .i64 day] h (fun u _=>u=.bool (Zk (Da (fcs l)) pl day)):=by
 refine Bq (args:=[_,_,_]) ts_ok Go.Proofs.Tryz.func103 rfl rfl fun w0 X0 => ?_
 have e:Zk (Da (fcs l)) pl day=((Ew (Da (fcs l))).map (·.ru)).any (unfB pl day):=rfl
 rw [e]
 obtain ⟨L,hL⟩:∃ L,L=(Ew (Da (fcs l))).map (·.ru):=⟨_,rfl⟩
 have hfi:=fun h' (hl:Le h h')=>InForce_c h' (hG.le hl) A n c l (hx.le hl)
 rw [← hL] at hfi ⊢
 clear hL e
 repeat' (first|apply Ac|apply Aa|apply Ab|(apply Ad;(iterate 3 exact J))|(apply Af;(iterate 3 exact J);(first|(apply Ao;exact J;intro b;skip))))
 rename_i bp
 generalize b=bd
 refine K4a (b:=bp) (e:=3) QK ?_
 intro h1 hle1 hc1
 refine K4a (b:=bd) (e:=3) QK ?_
 intro h2 hle2 hc2
 repeat' (first|apply Ab|(apply Ad;(iterate 3 exact J))|(apply Af;(iterate 3 exact J);(first|(apply Ay;exact J;exact has165;exact hfi _ QL;rintro w1 h3 hle3 ⟨A3,c3,rl,rfl,hsl,rfl,hn3⟩;skip)|(apply Aq;exact J;exact has164;exact conFR_c _ A3 _ c3 rl hsl hn3 166 [] [.pointer (some ⟨bp,0,none⟩),.pointer (some ⟨bd,0,none⟩)] (unfB pl day) has166 (fun r _=>unfit1_c _ r bp bd pl day (hc1.le QL) (hc2.le QL));skip))))
 all_goals first
  | ((first|(apply Cb;(iterate 3 exact J)));rfl)
def Jj (p:Fsh×Bz):List Value:=.int .i64 p.2.kind::(Wo p.1 p.2.sh++[.int .i64 p.2.day])
theorem Xy (p:Fsh×Bz):(Jj p).length=15:=rfl
def sc0:Fsh×Bz:=(Nv,No)
instance:Inhabited (Fsh×Bz):=⟨sc0⟩
def cmpS (a b:Fsh×Bz):Int:=orL [Ey a.2.day b.2.day,Ey a.2.sh.g.h b.2.sh.g.h,Ey a.2.sh.g.a b.2.sh.g.a]
theorem cmpS_lt {a b:Fsh×Bz}:cmpS a b<0↔LtS a.2 b.2:=by
 unfold cmpS LtS
 simp only [Rx,show orL []=0 from rfl]
 unfold Ey
 (repeat' split) <;> omega
theorem ltOfS (a b:Fsh×Bz):Go.Proofs.ltOf cmpS a b=decide (LtS a.2 b.2):=by
 unfold Go.Proofs.ltOf;rw [decide_eq_decide];exact cmpS_lt
theorem swoS:Go.Sort.SWO (Go.Proofs.ltOf cmpS) where
 irrefl x:=by rw [ltOfS];exact decide_eq_false (LtS.irrefl x.2)
 trans x y z h1 h2:=by rw [ltOfS,decide_eq_true_eq] at *;exact LtS.trans _ _ _ h1 h2
 ntrans x y z h1 h2:=by rw [ltOfS,decide_eq_false_iff_not] at *;unfold LtS at *;omega
theorem Msa (h:Ro)(x y:Fsh×Bz):Res Tryz.prog 210 #[.agg (Jj x).toArray,.agg (Jj y).toArray] h (fun u _=>u=.int .i64 (cmpS x y)):=by
 refine Bq (args:=[_,_]) ts_ok Go.Proofs.Tryz.func210 rfl rfl fun w0 X0 => ?_
 unfold cmpS
 generalize hor:orL [Ey x.2.day y.2.day,Ey x.2.sh.g.h y.2.sh.g.h,Ey x.2.sh.g.a y.2.sh.g.a]=o at *
 repeat' (first|apply Ac|apply Aa|apply Ab|(apply Ad;(iterate 3 exact J))|(apply Af;(iterate 3 exact J);(first|(apply Ao;exact J;intro b;skip)))|(apply Bf (n:=1) [0,1,2,6,7,8,3,4,5,9] [(0,0),(1,0),(2,0),(3,0),(4,0),(5,0),(6,2),(3,7),(7,1),(8,1),(9,1),(6,1),(8,1),(9,1)];kernel_rfl)|(apply Bf (n:=2) [0,1,2,3,4,5,6,7,8,9,10,11,12,13,14,15,16,17] [(0,0),(1,0),(2,0),(3,0),(5,0),(6,0),(7,0),(8,0),(10,0),(11,0),(12,0),(13,0),(4,1),(9,1),(14,1),(15,1),(16,1),(17,0)];kernel_rfl)|(apply Ce;exact J;kernel_rfl;(iterate 3 exact J))|(apply Bj;exact J;kernel_rfl;(iterate 3 exact J);exact QM;exact J;exact J)|(apply Br;exact J;kernel_rfl;(iterate 3 exact J);(first|(apply Ah;(iterate 3 exact J);exact QR;(iterate 3 exact J);refine ⟨Le.refl _,QN,?_⟩)|(apply Ag;exact J;intro b;refine ⟨Le.refl _,QN,?_⟩)|(apply Aq;exact J;exact Mca;exact Tu _ _ _;refine ⟨Le.refl _,QN,?_⟩)|(apply Bu (e:=3) (cs:=[Ey x.2.day y.2.day,Ey x.2.sh.g.h y.2.sh.g.h,Ey x.2.sh.g.a y.2.sh.g.a].map fun i=>.int .i64 i);(iterate 3 exact J);exact List.cons_ne_nil _ _;(iterate 4 exact J);intro b1 h1 hle1 hcs1;refine ⟨hle1,QN,?_⟩)|(apply Aq;exact J;exact has27;(have hv7:=or7_c _ _ 3 3 [Ey x.2.day y.2.day,Ey x.2.sh.g.h y.2.sh.g.h,Ey x.2.sh.g.a y.2.sh.g.a] (Gv hcs1) (by omega);rw [hor] at hv7;exact hv7);refine ⟨Le.refl _,QN,?_⟩)))|(apply Ia;kernel_rfl;exact J;exact J)|(apply Cj;(iterate 4 exact J);(first|(apply Ag;exact J;intro b;refine ⟨Le.refl _,QN,?_⟩)))|(apply Bm;kernel_rfl;exact J)|(apply Cb;(iterate 3 exact J)))
 all_goals rfl
theorem sortSc_c (h:Ro)(v:Value)(xs:List (Fsh×Bz))(n:Nat)(hn:n≤1000000)(hx:xs.length=n) :
  Fn Tryz.prog 209 #[v,.func (.func 210) #[] #[]] [By 130 15 v n (xs.flatMap Jj)] h fun u Es _=>u=.tuple #[]∧∃ ys:List (Fsh×Bz),ys.Perm xs∧(ys.Pairwise fun x y=>¬ LtS y.2 x.2)∧Es=[By 130 15 v n (ys.flatMap Jj)]:=by
 have hN:∀ (p:Option Addr) (cap:Nat) (w:World),Calls Tryz.prog 209 #[.slice p 0 cap,.func (.func 210) #[] #[]] w fun e w'=>e=.returned (.tuple #[])∧w'=w:=fun p cap w=>Go.Proofs.AnyF.slices_SortFunc_none Go.Proofs.Tryz.sortScores p cap _ w
 have hC:∀ (blk off cap:Nat) (d:Array (Fsh×Bz)) (w:World),Go.Proofs.CmpLays Tryz.prog 210 #[] Jj 15 cmpS blk off d.size w→Go.Sort.HoldsK Jj 15 w blk off d→blk<w.heap.size→d.size<4611686018427387904 →
  Calls Tryz.prog 209 #[.slice (some ⟨blk,off,none⟩) d.size cap,.func (.func 210) #[] #[]] w fun e w'=>e=.returned (.tuple #[])∧∃ d' n os,Go.Sort.PermIn 0 d.size d d'∧Go.Sort.SortedIn (Go.Proofs.ltOf cmpS) 0 d.size d'∧w'=Go.Proofs.sortWorldK Jj 15 w blk off n d' os:=fun blk off cap d w hc hH hb hs =>
  Go.Proofs.AnyQ.slices_SortFunc Go.Proofs.Tryz.sortScores 15 (fun w=>ts_ok.run_agg (n:=130) rfl w) (fun w=>ts_ok.run_size (n:=130) rfl w) Jj (fun _=>rfl) (fun a=>Ci rfl) cmpS swoS 210 #[] blk off cap d w (Go.Proofs.enters_of Go.Proofs.Tryz.func210 (by kernel_rfl) rfl) hc hH hb hs
 have hcmp:∀ x y:Fsh×Bz,Res Tryz.prog 210 (#[.agg (Jj x).toArray,.agg (Jj y).toArray]++#[]) h fun u _=>u=.int .i64 (cmpS x y):=fun x y=>by
  rw [Array.append_empty]
  exact Msa h x y
 have key:=Bba (α:=Fsh×Bz) (P:=Tryz.prog) (f:=209) (gf:=210) (cb:=#[]) Jj 15 (fun _=>rfl) (by decide) cmpS h hC hN hcmp 130 v xs n (by omega) hx
 refine key.mono ?_
 rintro u Es h' hle ⟨rfl,ys,hp,hso,rfl⟩
 refine ⟨rfl,ys,hp,hso.imp fun {a b} hab => ?_,rfl⟩
 rw [ltOfS,decide_eq_false_iff_not] at hab
 exact hab
def ScAt (h:Ro) (p:Fsh×Bz):Prop:=Vl h p.1 p.2.sh∧Iea p.2.sh
theorem ScAt.le {h h':Ro}{p:Fsh×Bz}(a:ScAt h p)(hl:Le h h'):ScAt h' p:=⟨a.1.le hl,a.2⟩
noncomputable def Jr (L:List Fct) (gs:List Bl):List Bz:=(gs.map (Cm L)).filter fun x=>decide (x.kind=2)
theorem Fqa (L:List Fct)(gs:List Bl)(g:Bl):Jr L (gs++[g])=if (Cm L g).kind=2 then Jr L gs++[Cm L g] else Jr L gs:=by
 unfold Jr
 rw [List.map_append,List.filter_append]
 by_cases h:(Cm L g).kind=2 <;> simp [h]
theorem Iba {L:List Fct}{gs:List Bl}{x:Bz}:x∈Jr L gs↔∃ g∈gs,Cm L g=x∧x.kind=2:=by
 unfold Jr
 rw [List.mem_filter,List.mem_map,decide_eq_true_eq]
 exact ⟨fun ⟨⟨g,h1,h2⟩,h3⟩=>⟨g,h1,h2,h3⟩,fun ⟨g,h1,h2,h3⟩=>⟨⟨g,h1,h2⟩,h3⟩⟩
theorem Eua {l:List (Fsh×Fct)}(h32:Kd (fcs l)){s c:Int}{x:Bz}:x∈Jr (fcs l) (Np l s c)↔∃ g:Bl,g.s=s∧g.c=c∧Cm (fcs l) g=x∧x.kind=2:=by
 rw [Iba]
 constructor
 · rintro ⟨g,h1,h2,h3⟩
   have:=Aka.1 h1
   exact ⟨g,this.1,this.2.1,h2,h3⟩
 · rintro ⟨g,h1,h2,rfl,h4⟩
   obtain ⟨f,m,ok,k,e,eg,d⟩:=Fk h32 h4
   exact ⟨g,Aka.2 ⟨h1,h2,f,m,k,ok,eg⟩,rfl,h4⟩
theorem Coa {l:List (Fsh×Fct)}(h32:Kd (fcs l))(s c:Int):(Jr (fcs l) (Np l s c)).Nodup:=by
 have hn:(Np l s c).Nodup:=(gamesL_lt l s c).imp fun {a b} hab e=>by subst e;exact LtG.irrefl _ hab
 unfold Jr
 rw [List.filter_map]
 refine List.pairwise_map.2 ((hn.filter _).imp_of_mem fun {a b} ha hb hab e=>hab ?_)
 have ka:=(List.mem_filter.1 ha).2
 have kb:=(List.mem_filter.1 hb).2
 obtain ⟨_,_,_,_,e1,g1,_⟩:=Fk h32 (g:=a) (by simpa using ka)
 obtain ⟨_,_,_,_,e2,g2,_⟩:=Fk h32 (g:=b) (by simpa using kb)
 rw [← g1,← g2,e1,e2,e]
theorem Hia {h:Ro}{A:Option Addr}{n:Nat}{l:List (Fsh×Fct)}(hx:Co h A n l)(s c:Int):(Np l s c).length≤1000000:=by
 unfold Np
 rw [Dja]
 unfold Hv
 rw [List.length_map]
 exact Nat.le_trans (List.length_filter_le _ _) (Zz hx)
theorem Ica (L:List Fct)(gs:List Bl):(Jr L gs).length≤gs.length:=by
 unfold Jr
 exact Nat.le_trans (List.length_filter_le _ _) (by rw [List.length_map];exact Nat.le_refl _)
theorem Gx {h:Ro}{A:Option Addr}{n:Nat}{l:List (Fsh×Fct)}(hx:Co h A n l):Kd (fcs l):=fun f hf=>by
 unfold fcs at hf
 obtain ⟨p,hp,rfl⟩:=List.mem_map.1 hf
 exact (hx.fat p hp).1.void
theorem decided_c (h:Ro)(hG:Kg h)(A:Option Addr)(n c:Nat)(l:List (Fsh×Fct))(hx:Co h A n l)(season comp:Int):Res Tryz.prog 158 #[.slice A n c,.int .i64 season,.int .i64 comp] h (fun u h'=>∃ A' c' ds,u=.slice A' ds.length c'∧Cc Jj 15 h' A' ds.length ds∧(∀ p∈ds,ScAt h' p)∧Ox (fcs l) season comp (ds.map (·.2))∧ds.length≤n∧ds.length≤c'):=by
 refine Bq (args:=[_,_,_]) ts_ok Go.Proofs.Tryz.func158 rfl rfl fun w0 X0 => ?_
 have h32:=Gx hx
 have hlenL:(fcs l).length=n:=by unfold fcs;rw [List.length_map,hx.row.len]
 have hga:=fun h' (hl:Le h h')=>games_c h' (hG.le hl) A n c l (hx.le hl) season comp
 have hsc:=fun h' (hl:Le h h') g=>Bda h' (hG.le hl) A n c l (hx.le hl) g
 have hgl:=Hia hx season comp
 have hmem:=fun x=>Eua (l:=l) h32 (s:=season) (c:=comp) (x:=x)
 have hnd:=Coa h32 season comp
 rw [show Ara l=fcs l from rfl] at hsc
 generalize Np l season comp=gs at *
 generalize hL:fcs l=L at *
 clear hL hx
 repeat' (first|apply Ac|apply Ak|apply Aa|apply Ab|(apply Ad;(iterate 3 exact J))|(apply Af;(iterate 3 exact J);(first|(apply Ay;exact J;exact has208;exact hga _ QL;rintro w1 h1 hle1 ⟨A3,c3,rfl,hsl⟩;skip))))
 refine Eh 130 15 ?_
 refine Bt (X:=Nat×List (Fsh×Bz)×Option Addr×Nat×Ro) (fun x=>x.1≤gs.length∧Le h1 x.2.2.2.2∧(∀ p∈x.2.1,ScAt x.2.2.2.2 p)∧x.2.1.map (·.2)=Jr L (gs.take x.1)) (fun x=>gs.length-x.1)
  (fun x=>[(16,.int .i64 x.1),(15,.int .i64 gs.length),(14,.slice A3 gs.length c3),(7,.slice x.2.2.1 x.2.1.length x.2.2.2.1),(0,.slice A n c)])
  (fun x=>[By 130 15 (.slice x.2.2.1 x.2.1.length x.2.2.2.1) x.2.1.length (x.2.1.flatMap Jj)]) (fun x=>x.2.2.2.2) (0,[],none,0,h1) ⟨by dsimp only;omega,Le.refl _,by simp,rfl⟩ QS QT rfl ?_
 rintro ⟨k,out,A4,c4,hh⟩ ⟨hk,hle,hat,ho⟩ ih
 dsimp only at hk hle hat ho ih ⊢
 have hol:out.length≤k:=by
  have q:=congrArg List.length ho
  have q2:=Ica L (gs.take k)
  rw [List.length_map] at q
  rw [List.length_take] at q2
  omega
 by_cases hkn:k<gs.length
 · have a1:=hsl.addrD hkn
   have c1:=(hsl.cellsD g9 hkn).le hle
   have et:=Fq g9 (xs:=gs) rfl hkn
   generalize gs.getD k g9=g at *
   have e0:=Fqa L (gs.take k) g
   rw [← et] at e0
   have hsg:=fun h' (hl:Le h h')=>hsc h' hl g
   generalize Cm L g=x at *
   have hle0:Le h hh:=QL
   by_cases hk2:x.kind=2
   · rw [if_pos hk2,← ho] at e0
     clear hga hmem hnd
     repeat' (first|apply Ac|apply Au|apply Ap|apply Ak|apply Aa|apply Ab|(apply Bg;(iterate 3 exact J);omega;exact J;exact J)|(apply Ad;(iterate 3 exact J))|(apply Ai;exact J;exact Av rfl QM rfl;exact J;exact J)|(apply Bd;exact J;exact J;(first|(apply Be (j:=k);(iterate 5 exact J);exact a1;(with_reducible exact J);omega)|(apply Ar;exact J;exact Bh rfl c1 rfl));exact QA)|(apply Af;(iterate 3 exact J);(first|(apply Ah;(iterate 3 exact J);exact QR;(iterate 3 exact J);skip)|(apply Ag;exact J;intro b;skip)|(apply Ay;exact J;exact Hca;exact hsg _ QL;rintro w2 h2 hle2 ⟨s,rfl,hs1,hs2⟩;skip)|(apply Bc (enc:=Jj) (n:=1) [(s,x)];(iterate 3 exact J);exact List.cons_ne_nil _ _;(iterate 4 exact J);exact Xy;exact J;exact J;intro b5 h5 hle5 hs5;skip)|(apply Bk (enc:=Jj) (xs:=out);(iterate 7 exact J);exact hs5;exact Xy;exact fun x=>Ci rfl;intro v1;exact QR;omega;exact J;intro A5 c5;skip)))|(apply Aj;exact J;all_goals (intro hc;try simp only [hcS,reduceCtorEq] at hc;try (exfalso;omega))))
     all_goals first
      | (exfalso;omega)
      | (have h3:=ih (k+1,out++[(s,x)],A5,c5,h5) ⟨by dsimp only;omega,hle.trans (hle2.trans hle5),fun q hq=>by
          rcases List.mem_append.1 hq with w|w
          · exact (hat q w).le (hle2.trans hle5)
          · rw [List.mem_singleton] at w;subst w;exact ⟨hs1.le hle5,hs2⟩,by dsimp only;rw [e0,List.map_append];rfl⟩ (by dsimp only;omega)
         dsimp only at h3
         rw [List.length_append] at h3
         refine Bw QS QT (h3))
   · rw [if_neg hk2] at e0
     clear hga hmem hnd
     repeat' (first|apply Ac|apply Au|apply Ap|apply Ak|apply Aa|apply Ab|(apply Bg;(iterate 3 exact J);omega;exact J;exact J)|(apply Ad;(iterate 3 exact J))|(apply Ai;exact J;exact Av rfl QM rfl;exact J;exact J)|(apply Bd;exact J;exact J;(first|(apply Be (j:=k);(iterate 5 exact J);exact a1;(with_reducible exact J);omega)|(apply Ar;exact J;exact Bh rfl c1 rfl));exact QA)|(apply Af;(iterate 3 exact J);(first|(apply Ah;(iterate 3 exact J);exact QR;(iterate 3 exact J);skip)|(apply Ag;exact J;intro b;skip)|(apply Ay;exact J;exact Hca;exact hsg _ QL;rintro w2 h2 hle2 ⟨s,rfl,hs1,hs2⟩;skip)))|(apply Aj;exact J;all_goals (intro hc;try simp only [hcS,reduceCtorEq] at hc;try (exfalso;omega))))
     all_goals first
      | (exfalso;omega)
      | (have h3:=ih (k+1,out,A4,c4,h2) ⟨by dsimp only;omega,hle.trans hle2,fun q hq=>(hat q hq).le hle2,by dsimp only;rw [e0];exact ho⟩ (by dsimp only;omega)
         dsimp only at h3
         refine Bw QS QT (h3))
 · rw [List.take_of_length_le (by omega)] at ho
   clear ih hsc hga
   repeat' (first|apply Ac|apply Aa|apply Ab|(apply Bn;exact J)|(apply Ad;(iterate 3 exact J))|(apply Af;(iterate 3 exact J);(first|(apply Bi;exact J;exact has209;exact sortSc_c _ _ out out.length (by omega) rfl;exact QT;rintro vs Es9 h9 hle9 ⟨rfl,ys,hpm,hso,rfl⟩;skip)))|(apply Aj;exact J;all_goals (intro hc;try simp only [hcS,reduceCtorEq] at hc;try (exfalso;omega))))
   all_goals (try (exfalso;omega))
   refine Ge (enc:=Jj) (e:=130) (sz:=15) (n:=out.length) (xs:=ys) Xy (hpm.length_eq) QK ?_
   intro A7 c7 h7 hle7 e7 hnc7 hs7
   cases e7
   have hdec:Ox L season comp (ys.map (·.2)):=Loa h32 (fun x=>by rw [ho];exact hmem x) (by rw [ho];exact hnd) (hpm.map _) (List.pairwise_map.2 hso)
   have hyl:=hdec.len h32
   rw [List.length_map,hlenL] at hyl
   have hye:=hpm.length_eq
   rw [← hye] at hs7
   skip
   all_goals first
    | (exact Cb rfl rfl rfl ⟨A4,c4,ys,by rw [hye],hs7,fun p hp=>((hat p (hpm.mem_iff.1 hp)).le (hle9.trans hle7)),hdec,hyl,by rw [hye];exact hnc7⟩)
end Go.Hw
namespace Go.Hw
open Go
open Go.Proofs (Tryz.prog)
theorem Zh {C:Ctx}{l:Sl}{Es:List Asn}{h:Ro}{G:Value→List Asn→Ro→Prop}{ty:TypeId}{pos:String}{aft:Array Edge}{gd:Option (Nat×Bool)}{dst:Option Tmp}{t tn e:TypeId}{x y:Operand}{n:Nat}{T N E:Ty}(hT:Cu t C.ts=some T)(hTd:T.desc=.slice e)(hN:Cu tn C.ts=some N)(hNd:N.desc=.int .i64)(hE:Cu e C.ts=some E)(hEz:E.zero.cells.size=E.size)(hEs:Nat.blt 0 E.size=true)(hEb:Nat.ble E.bytes 100000=true)
  (hx:evl l x=some (.slice none 0 0)) (hy:evl l y=some (.int .i64 (n:Int))) (hn:0<n∧n≤1000000000)
  (g:∀ b c zs,n≤c→G (.slice (some ⟨b,0,none⟩) n c) (By e E.size (.slice (some ⟨b,0,none⟩) n c) n zs::Es) h):Hq C l Es h ⟨dst,.call ⟨.builtin .append,#[x,y],#[t,tn]⟩,ty,pos,aft,gd⟩ G:=fun a w hs hp=>by
 obtain ⟨i,hi,hi1,hi2,hi3⟩:=C.ok.info hE
 obtain ⟨D0,hu,hb0⟩:=C.ok.und hT
 rw [hTd] at hb0;rw [Dd hb0] at hu
 obtain ⟨D1,hu1,hb1⟩:=C.ok.und hN
 rw [hNd] at hb1;rw [Ie hb1] at hu1
 have hEb':E.bytes≤100000:=Nat.le_of_ble_eq_true hEb
 have hEs':0<E.size:=Nat.le_of_ble_eq_true hEs
 have h48:n * i.bytes≤281474976710656:=by
  rw [hi2]
  exact Nat.le_trans (Nat.mul_le_mul hn.2 hEb') (by decide)
 have hr:=Lib.run_append_nil_zeros (P:=C.P) w t tn ty e i E.zero .i64 .i64 hu hu1 hi hi3 n hn.1 (by rw [hi1];exact hEs') (by omega) h48
 have hge:=grownCap_ge w n 0 e
 have hcm:=grownCap_le_maxLen w n 0 e (by unfold maxLen;omega)
 have hsz:∀ m,(Builtin.zeroCells E.zero.cells m).size=m * E.size:=fun m=>by unfold Builtin.zeroCells;simp [hEz]
 refine .inl ⟨_,_,_,h,by simp only [execOp,resolve,invoke,builtin,Sem.run_bind,Sem.run_pure,Result.andThen_ok,List.map_toArray,List.map_cons,List.map_nil,hs.eval hx,hs.eval hy,hr];rfl,(hp.drew).alloc (.cells (Builtin.zeroCells E.zero.cells n++Builtin.zeroCells E.zero.cells (grownCap w n 0 e-n)) e) (By e E.size (.slice (some ⟨w.heap.size,0,none⟩) n (grownCap w n 0 e)) n (Builtin.zeroCells E.zero.cells n).toList) (fun m hm=>(show (By e E.size (.slice (some ⟨w.heap.size,0,none⟩) n (grownCap w n 0 e)) n (Builtin.zeroCells E.zero.cells n).toList).holds [w.heap.size] m from by exact ⟨by simp [hsz],.inr ⟨w.heap.size,grownCap w n 0 e,_,rfl,rfl,hm,hge,hcm,(by rw [Array.size_append,hsz,hsz,← Nat.add_mul];congr 1;omega),(by rw [Array.toList_append];exact List.take_left' (by simp [hsz]))⟩⟩)),g _ _ _ hge⟩
attribute [local irreducible] GO GOl GDp Val Fn Res At Fx Blk By Dk Cl Has Yl Mn Ew Yx Vd Md Pq
theorem Dla (A:Option Addr)(c sz:Nat):Nm A c sz=A:=by
 unfold Nm
 split
 · rfl
 · cases A <;> simp [Addr.add]
theorem growC_c (h:Ro)(n:Nat)(hn:n≤1000000000):Fn Tryz.prog 254 #[.slice none 0 0,.int .i64 n] [] h fun u Es _=>Es=[By 197 2 u 0 []]:=by
 refine Bo (args:=[_,_]) ts_ok Go.Proofs.Tryz.func254 rfl rfl fun w0 X0 => ?_
 refine Eh 197 2 ?_
 by_cases h0:n=0
 · subst h0
   repeat' (first|apply Ac|apply Au|apply Aa|apply Ab|(apply Lt;(iterate 3 exact J);omega;exact J;exact J)|(apply Ad;(iterate 3 exact J))|(apply Aj;exact J;all_goals (intro hc;try simp only [hcS,reduceCtorEq] at hc;try (exfalso;omega))))
   exact Ca rfl rfl rfl (List.Sublist.refl _) rfl
 · repeat' (first|apply Ac|apply Au|apply Aa|apply Ab|(apply Lt;(iterate 3 exact J);omega;exact J;exact J)|(apply Ad;(iterate 3 exact J))|(apply Bd;exact J;exact J;(first|(apply Mp (hi:=0);(iterate 6 exact J);omega;omega));exact QA)|(apply Af;(iterate 3 exact J);(first|(apply Zh;(iterate 10 exact J);(constructor <;> omega);intro b2 c2 zs hc2;skip)))|(apply Aj;exact J;all_goals (intro hc;try simp only [hcS,reduceCtorEq] at hc;try (exfalso;omega))))
   rw [Dla]
   refine GO_asn (A':=By 197 2 (.slice (some ⟨b2,0,none⟩) 0 c2) 0 []) QR (fun D m hD=>by have:=Kwa (m:=0) (Nat.zero_le _) hD;rw [show ty197.size=2 from rfl] at this;simpa using this) ?_
   exact Ca rfl rfl rfl (.cons_cons _ (List.nil_sublist _)) rfl
theorem concatC_c (h:Ro)(A B:Option Addr)(n c m d bb:Nat)(x y:List Fy)(hx:Cc Aoa 2 h A n x)(hy:Cc Aoa 2 h B m y)(hn:n≤100000000)(hm:m≤100000000)(hb:At h ⟨bb,0,none⟩ [.slice A n c,.slice B m d]) :
  Res Tryz.prog 211 #[.slice (some ⟨bb,0,none⟩) 2 2] h fun u h'=>∃ A' c',u=.slice A' (n+m) c'∧Cc Aoa 2 h' A' (n+m) (x++y):=by
 refine Bq (args:=[_]) ts_ok Go.Proofs.Tryz.func211 rfl rfl fun w0 X0 => ?_
 have hb0:=Cea hb (k:=0) rfl
 have hb1:=Cea hb (k:=1) rfl
 have hxl:=hx.len
 have hyl:=hy.len
 repeat' (first|apply Ac|apply Au|apply Ap|apply Ak|apply Aa|apply Ab|(apply Bn;exact J)|(apply Iva)|(apply F3a)|(apply Bg;(iterate 3 exact J);omega;exact J;exact J)|(apply Ad;(iterate 3 exact J))|(apply Bd;exact J;exact J;(first|(apply Hz (j:=0);(iterate 5 exact J);omega;omega)|(apply Hz (j:=1);(iterate 5 exact J);omega;omega)|(apply Ar;exact J;exact Bh rfl (hb0.le QL) rfl)|(apply Ar;exact J;exact Bh rfl (hb1.le QL) rfl));exact QA)|(apply Af;(iterate 3 exact J);(first|(apply Bi;exact J;exact has254;(have hg7:=growC_c h (n+m) (by omega);rw [show ((n+m:Nat):Int)=0+(n:Int)+(m:Int) by omega] at hg7;exact hg7);exact QT;rintro vg Eg hg9 hlg rfl;skip)|(apply Bk (enc:=Aoa) (xs:=[]) (ys:=x);(iterate 7 exact J);exact hx.le QL;exact fun _=>rfl;exact fun _=>Ci rfl;intro v1;exact QR;omega;exact J;intro A1 c1;skip)|(apply Bk (enc:=Aoa) (xs:=[]++x) (ys:=y);(iterate 7 exact J);exact hy.le QL;exact fun _=>rfl;exact fun _=>Ci rfl;intro v1;exact QR;omega;exact J;intro A1 c1;skip)))|(apply Aj;exact J;all_goals (intro hc;try simp only [hcS,reduceCtorEq] at hc;try (exfalso;omega))))
 all_goals
  rw [List.nil_append,Nat.zero_add]
  refine Ge (enc:=Aoa) (e:=197) (sz:=2) (n:=n+m) (xs:=x++y) (fun _=>rfl) (by rw [List.length_append,hxl,hyl]) QK ?_
  intro A7 c7 h7 hle7 e7 hnc7 hs7
  cases e7
  exact Cb rfl rfl rfl ⟨_,_,rfl,hs7⟩
theorem Er {κ α:Type}[DecidableEq κ]{ek:κ→Value}{ev:α→Value}{z0:α}{C:Ctx}{l:Sl}{h:Ro}{ty:TypeId}{pos:String}{aft:Array Edge}{gd:Option (Nat×Bool)}{dst:Option Tmp}{t k e:TypeId}{x y:Operand}{b:Nat}{key:κ}{m:List (κ×α)}{T E:Ty}{q:α}(K:Vn C.P k ek)(hT:Cu t C.ts=some T)(hTd:T.desc=.map k e)(hE:Cu e C.ts=some E)(hz:E.zero=ev z0)
  (hx:evl l x=some (.map (some b))) (hy:evl l y=some (ek key)) (hq:(Cv key m).getD z0=q):OV C l [Dk ek ev b m] h ⟨dst,.lookup t x y false,ty,pos,aft,gd⟩ (ev q):=by
 have:=If (ev:=ev) (h:=h) (ty:=ty) (pos:=pos) (aft:=aft) (gd:=gd) (dst:=dst) (c:=false) (m:=m) (b:=b) K hT hTd hE hx hy rfl
 subst hq
 cases hl:Cv key m with
 | none=>rw [hl] at this;rw [show ev ((none:Option α).getD z0)=E.zero from hz.symm];exact this
 | some a=>rw [hl] at this;exact this
def ekN (i:Int):Value:=.int .i64 i
def evCd (z:Int×Bool):Value:=.agg #[.int .i64 z.1,.bool z.2]
theorem KN:Vn Tryz.prog 3 ekN:=K7
def cardM (m:List (Int×(Int×Bool))) (c:Fy):List (Int×(Int×Bool)):=Jo c.p (Vi c.p ((Cv c.p m).getD (0,false)) c) m
theorem M1a (m:List (Int×(Int×Bool)))(c:Fy)(p:Int):(Cv p (cardM m c)).getD (0,false)=Vi p ((Cv p m).getD (0,false)) c:=by
 unfold cardM
 rw [To]
 by_cases h:c.p=p
 · subst h;simp
 · rw [if_neg h]
   unfold Vi
   rw [if_neg h]
def Qh (cs:List Fy):List (Int×(Int×Bool)):=cs.foldl cardM []
theorem Yj (cs:List Fy)(c:Fy):Qh (cs++[c])=cardM (Qh cs) c:=by unfold Qh;rw [List.foldl_append];rfl
theorem Yk (cs:List Fy)(p:Int):(Cv p (Qh cs)).getD (0,false)=cs.foldl (Vi p) (0,false):=by
 refine Dka (P:=fun cs=>(Cv p (Qh cs)).getD (0,false)=cs.foldl (Vi p) (0,false)) rfl (fun l x ih => ?_) cs
 rw [Yj,M1a,ih,List.foldl_append];rfl
theorem cardMs_bd (cs:List Fy)(p:Int):0≤((Cv p (Qh cs)).getD (0,false)).1∧((Cv p (Qh cs)).getD (0,false)).1≤2:=by
 rw [Yk];exact Kla p cs (0,false) ⟨by decide,by decide⟩
theorem shownE_c (h:Ro)(s:Fsh)(x:El)(hx:Vl h s x)(hl:x.hc.length≤1000∧x.ac.length≤1000):Fn Tryz.prog 159 #[Dma s x] [] h fun u Es h'=>∃ bm m,u=.map (some bm)∧Es=[Dk ekN evCd bm m]∧∀ p,(Cv p m).getD (0,false)=Jl x p:=by
 refine Bo (args:=[_]) ts_ok Go.Proofs.Tryz.func159 rfl rfl fun w0 X0 => ?_
 have hn1:=hx.hc.len
 have hn2:=hx.ac.len
 obtain ⟨cs,hcs⟩:∃ cs,cs=x.hc++x.ac:=⟨_,rfl⟩
 have hcl:cs.length=s.hc.n+s.ac.n:=by rw [hcs,List.length_append,hn1,hn2]
 repeat' (first|apply Ac|apply Ak|apply Aa|apply Ab|(apply Ad;(iterate 3 exact J))|(apply Ai;exact J;exact Av rfl QM rfl;exact J;exact J)|(apply Af;(iterate 3 exact J);(first|(apply Ao;exact J;intro b;skip)|(apply Et ekN evCd;intro bm;skip)|(apply Bu (e:=41) (cs:=[.slice s.hc.A s.hc.n s.hc.c,.slice s.ac.A s.ac.n s.ac.c]);(iterate 3 exact J);exact List.cons_ne_nil _ _;(iterate 4 exact J);intro b1 h1 hle1 hcs1;skip)|(apply Ay;exact J;exact has211;exact concatC_c _ s.hc.A s.ac.A s.hc.n s.hc.c s.ac.n s.ac.c b1 x.hc x.ac (hx.hc.le QL) (hx.ac.le QL) (by omega) (by omega) hcs1;rintro vc h2 hle2 ⟨A2,c2,rfl,hs2⟩;skip))))
 rw [← hcs] at hs2
 have hK:=KN
 refine Bt (X:=Nat) (fun k=>k≤s.hc.n+s.ac.n) (fun k=>s.hc.n+s.ac.n-k)
  (fun k=>[(15,.int .i64 k),(14,.int .i64 ((s.hc.n+s.ac.n:Nat):Int)),(13,.slice A2 (s.hc.n+s.ac.n) c2),(3,.map (some bm))])
  (fun k=>[Dk ekN evCd bm (Qh (cs.take k))]) (fun _=>h2) 0 (by omega) QS QT rfl ?_
 rintro k hk ih
 by_cases hkn:k<s.hc.n+s.ac.n
 · have a1:=hs2.addrD hkn
   have c1:=hs2.cellsD Kr hkn
   have et:=Fq Kr (xs:=cs) hcl hkn
   generalize cs.getD k Kr=z at *
   have hsn:=Yj (cs.take k) z
   have hbd:=cardMs_bd (cs.take k) z.p
   rw [← et] at hsn
   have h3:=ih (k+1) (by omega) (by omega)
   rw [hsn] at h3
   generalize Qh (cs.take k)=m at *
   unfold cardM at h3
   obtain ⟨q,hq⟩:∃ q,(Cv z.p m).getD (0,false)=q:=⟨_,rfl⟩
   rw [hq] at h3 hbd
   unfold Vi at h3
   rw [if_pos rfl] at h3
   obtain ⟨zp,zr⟩:=z
   obtain ⟨q1,q2⟩:=q
   dsimp only at hq hbd h3 a1 c1
   cases zr
   · rw [if_neg (by decide)] at h3
     repeat' (first|apply Ac|apply Au|apply Ap|apply Ak|apply Aa|apply Ab|(apply GOl_min;(iterate 3 exact J);intro wn hwn)|(apply Bg;(iterate 3 exact J);omega;exact J;exact J)|(apply Ad;(iterate 3 exact J))|(apply Ai;exact J;exact Av rfl QM rfl;exact J;exact J)|(apply Bd;exact J;exact J;(first|(apply Be (j:=k);(iterate 5 exact J);exact a1;(with_reducible exact J);omega)|(apply Ar;exact J;exact Bh rfl c1 rfl)|(apply Er (ek:=ekN) (ev:=evCd) (z0:=(0,false)) (key:=zp) (b:=bm) (m:=m) hK;(iterate 6 exact J);exact hq));exact QA)|(apply Af;(iterate 3 exact J);(first|(apply Ah;(iterate 3 exact J);exact QR;(iterate 3 exact J);skip)|(apply Ag;exact J;intro b;skip)|(apply Cy (ek:=ekN) (ev:=evCd) (b:=bm) (m:=m) (key:=zp) (u:=(min 2 (q1+1),q2)) hK;(iterate 5 exact J);rw [hwn];exact J;exact QR;skip)))|(apply Aj;exact J;all_goals (intro hc;try simp only [hcS,reduceCtorEq] at hc;try (exfalso;omega))))
     all_goals first
      | (exfalso;omega)
      | (exfalso;simp at hc;done)
      | (refine Bw QS QT (h3))
   · rw [if_pos rfl] at h3
     repeat' (first|apply Ac|apply Au|apply Ap|apply Ak|apply Aa|apply Ab|(apply Bg;(iterate 3 exact J);omega;exact J;exact J)|(apply Ad;(iterate 3 exact J))|(apply Ai;exact J;exact Av rfl QM rfl;exact J;exact J)|(apply Bd;exact J;exact J;(first|(apply Be (j:=k);(iterate 5 exact J);exact a1;(with_reducible exact J);omega)|(apply Ar;exact J;exact Bh rfl c1 rfl)|(apply Er (ek:=ekN) (ev:=evCd) (z0:=(0,false)) (key:=zp) (b:=bm) (m:=m) hK;(iterate 6 exact J);exact hq));exact QA)|(apply Af;(iterate 3 exact J);(first|(apply Ah;(iterate 3 exact J);exact QR;(iterate 3 exact J);skip)|(apply Ag;exact J;intro b;skip)|(apply Cy (ek:=ekN) (ev:=evCd) (b:=bm) (m:=m) (key:=zp) (u:=(q1,true)) hK;(iterate 6 exact J);exact QR;skip)))|(apply Aj;exact J;all_goals (intro hc;try simp only [hcS,reduceCtorEq] at hc;try (exfalso;omega))))
     all_goals first
      | (exfalso;omega)
      | (exfalso;simp at hc;done)
      | (refine Bw QS QT (h3))
 · rw [List.take_of_length_le (by omega)]
   clear ih
   repeat' (first|apply Ac|apply Aa|apply Ab|(apply Bn;exact J)|(apply Ad;(iterate 3 exact J))|(apply Aj;exact J;all_goals (intro hc;try simp only [hcS,reduceCtorEq] at hc;try (exfalso;omega))))
   all_goals first
    | (exfalso;omega)
    | (exact Ca rfl rfl rfl (by (repeat (first|exact List.Sublist.refl _|exact List.nil_sublist _|apply List.Sublist.cons_cons|apply List.Sublist.cons));done) ⟨bm,Qh cs,rfl,rfl,fun p=>by rw [Yk,hcs];rfl⟩)
def Ij (m:Int×Int):List Value:=[.int .i64 m.1,.int .i64 m.2]
def m0:Int×Int:=(0,0)
theorem L1a (h:Ro)(x y:Int×Int):Val Tryz.prog 213 #[.agg (Ij x).toArray,.agg (Ij y).toArray] h (.int .i64 (Ey x.1 y.1)):=by
 refine Az (args:=[_,_]) ts_ok Go.Proofs.Tryz.func213 rfl rfl fun w0 X0 => ?_
 repeat' (first|apply Ac|apply Aa|apply Ab|(apply Ad;(iterate 3 exact J))|(apply Ai;exact J;exact Av rfl QM rfl;exact J;exact J)|(apply Af;(iterate 3 exact J);(first|(apply Ao;exact J;intro b;skip)|(apply Aq;exact J;exact Mca;exact Tu _ _ _;skip)))|(apply Bb;(iterate 3 exact J)))
 all_goals rfl
theorem ltOfM (x y:Int×Int):Go.Proofs.ltOf (fun (x y:Int×Int)=>Ey x.1 y.1) x y=decide (x.1<y.1):=by
 unfold Go.Proofs.ltOf
 rw [decide_eq_decide];exact Yf
theorem cmpM_swo:Go.Sort.SWO (Go.Proofs.ltOf fun (x y:Int×Int)=>Ey x.1 y.1) where
 irrefl x:=by rw [ltOfM,decide_eq_false_iff_not];omega
 trans x y z h1 h2:=by rw [ltOfM,decide_eq_true_eq] at *;omega
 ntrans x y z h1 h2:=by rw [ltOfM,decide_eq_false_iff_not] at *;omega
theorem sortM_c (h:Ro)(v:Value)(xs:List (Int×Int))(n:Nat)(hn:n≤1000000)(hx:xs.length=n) :
  Fn Tryz.prog 212 #[v,.func (.func 213) #[] #[]] [By 187 2 v n (xs.flatMap Ij)] h fun u Es _=>u=.tuple #[]∧∃ ys:List (Int×Int),ys.Perm xs∧(ys.Pairwise fun x y=>x.1≤y.1)∧Es=[By 187 2 v n (ys.flatMap Ij)]:=by
 have hN:∀ (p:Option Addr) (cap:Nat) (w:World),Calls Tryz.prog 212 #[.slice p 0 cap,.func (.func 213) #[] #[]] w fun e w'=>e=.returned (.tuple #[])∧w'=w:=fun p cap w=>Go.Proofs.AnyF.slices_SortFunc_none Go.Proofs.Tryz.sortMembers p cap _ w
 have hC:∀ (blk off cap:Nat) (d:Array (Int×Int)) (w:World),Go.Proofs.CmpLays Tryz.prog 213 #[] Ij 2 (fun x y=>Ey x.1 y.1) blk off d.size w→Go.Sort.HoldsK Ij 2 w blk off d→blk<w.heap.size→d.size<4611686018427387904 →
  Calls Tryz.prog 212 #[.slice (some ⟨blk,off,none⟩) d.size cap,.func (.func 213) #[] #[]] w fun e w'=>e=.returned (.tuple #[])∧∃ d' n os,Go.Sort.PermIn 0 d.size d d'∧Go.Sort.SortedIn (Go.Proofs.ltOf fun (x y:Int×Int)=>Ey x.1 y.1) 0 d.size d'∧w'=Go.Proofs.sortWorldK Ij 2 w blk off n d' os:=fun blk off cap d w hc hH hb hs =>
  Go.Proofs.AnyQ.slices_SortFunc Go.Proofs.Tryz.sortMembers 2 (fun w=>ts_ok.run_agg (n:=187) rfl w) (fun w=>ts_ok.run_size (n:=187) rfl w) Ij (fun _=>rfl) (fun a=>Ci rfl) (fun x y=>Ey x.1 y.1) cmpM_swo 213 #[] blk off cap d w (Go.Proofs.enters_of Go.Proofs.Tryz.func213 (by kernel_rfl) rfl) hc hH hb hs
 have hcmp:∀ x y:Int×Int,Res Tryz.prog 213 (#[.agg (Ij x).toArray,.agg (Ij y).toArray]++#[]) h fun u _=>u=.int .i64 (Ey x.1 y.1):=fun x y=>by
  rw [Array.append_empty]
  exact Ug (L1a h x y)
 have key:=Bba (α:=Int×Int) (P:=Tryz.prog) (f:=212) (gf:=213) (cb:=#[]) Ij 2 (fun _=>rfl) (by decide) (fun x y=>Ey x.1 y.1) h hC hN hcmp 187 v xs n (by omega) hx
 refine key.mono ?_
 rintro u Es h' hle ⟨rfl,ys,hp,hso,rfl⟩
 refine ⟨rfl,ys,hp,hso.imp fun {a b} hab => ?_,rfl⟩
 rw [ltOfM,decide_eq_false_iff_not] at hab
 omega
def memU (x:El):List (Int×Int):=x.hs.map (fun p=>(p,x.g.h))++x.asn.map fun p=>(p,x.g.a)
theorem Zr {x:El}(hx:Gw x){ys:List (Int×Int)}(hp:ys.Perm (memU x))(hs:ys.Pairwise fun a b=>a.1≤b.1):Qa x ys:=by
 obtain ⟨_,_,_,_,_,h1,h2,_,_,h3⟩:=hx
 have hn:((memU x).map (·.1)).Nodup:=by
  unfold memU
  rw [List.map_append,List.map_map,List.map_map]
  refine List.nodup_append.2 ⟨?_,?_,?_⟩
  · rw [show x.hs.map ((fun m:Int×Int=>m.1) ∘ fun p=>(p,x.g.h))=x.hs by simp [Function.comp_def]]
    exact h1.2.2.imp fun {a b} hab e=>by omega
  · rw [show x.asn.map ((fun m:Int×Int=>m.1) ∘ fun p=>(p,x.g.a))=x.asn by simp [Function.comp_def]]
    exact h2.2.2.imp fun {a b} hab e=>by omega
  · intro a ha b hb e
    simp only [Function.comp_def,List.map_id'] at ha hb
    subst e
    exact h3 a ha hb
 have hn2:(ys.map (·.1)).Nodup:=(hp.map _).nodup_iff.2 hn
 refine ⟨?_,fun m => ?_⟩
 · have h5:ys.Pairwise fun a b=>a.1≠b.1:=List.pairwise_map.1 hn2
   exact (List.pairwise_and_iff.2 ⟨hs,h5⟩).imp fun {a b} ⟨q1,q2⟩=>by omega
 · rw [hp.mem_iff]
   unfold memU
   rw [List.mem_append,List.mem_map,List.mem_map]
   obtain ⟨a,b⟩:=m
   constructor
   · rintro (⟨p,q,e⟩|⟨p,q,e⟩)
     · cases e;exact .inl ⟨q,rfl⟩
     · cases e;exact .inr ⟨q,rfl⟩
   · rintro (⟨q,e⟩|⟨q,e⟩)
     · dsimp only at q e;subst e;exact .inl ⟨a,q,rfl⟩
     · dsimp only at q e;subst e;exact .inr ⟨a,q,rfl⟩
theorem members_c (h:Ro)(s:Fsh)(x:El)(hx:Vl h s x)(hok:Gw x):Res Tryz.prog 160 #[Dma s x] h fun u h'=>∃ A' c',u=.slice A' (Vd x).length c'∧Cc Ij 2 h' A' (Vd x).length (Vd x)∧Qa x (Vd x):=by
 refine Bq (args:=[_]) ts_ok Go.Proofs.Tryz.func160 rfl rfl fun w0 X0 => ?_
 have hn1:=hx.hs.len
 have hn2:=hx.asn.len
 obtain ⟨l1,l2⟩:x.hs.length≤40∧x.asn.length≤40:=⟨hok.2.2.2.2.2.1.1,hok.2.2.2.2.2.2.1.1⟩
 have hh:=hx.hs
 have ha:=hx.asn
 repeat' (first|apply Ac|apply Ak|apply Aa|apply Ab|(apply Ad;(iterate 3 exact J))|(apply Ai;exact J;exact Av rfl QM rfl;exact J;exact J)|(apply Af;(iterate 3 exact J);(first|(apply Ao;exact J;intro b;skip))))
 generalize b=b1
 refine Eh 187 2 ?_
 refine Bt (X:=Nat×Option Addr×Nat×Ro) (fun y=>y.1≤s.hs.n∧Le h y.2.2.2) (fun y=>s.hs.n-y.1)
  (fun y=>[(10,.int .i64 y.1),(9,.int .i64 s.hs.n),(8,.slice s.hs.A s.hs.n s.hs.c),(2,.slice y.2.1 y.1 y.2.2.1),(1,Pt b1)])
  (fun y=>[Blk b1 43 (Wo s x),By 187 2 (.slice y.2.1 y.1 y.2.2.1) y.1 (((x.hs.take y.1).map (fun p=>(p,x.g.h))).flatMap Ij)]) (fun y=>y.2.2.2) (0,none,0,h) ⟨by dsimp only;omega,Le.refl _⟩ QS QT rfl ?_
 rintro ⟨k,A4,c4,hk4⟩ ⟨hk,hle⟩ ih
 dsimp only at hk hle ih ⊢
 by_cases hkn:k<s.hs.n
 · have a1:=hh.addrD hkn
   have c1:=(hh.cellsD 0 hkn).le hle
   have et:=Fq 0 (xs:=x.hs) hn1 hkn
   generalize x.hs.getD k 0=p at *
   repeat' (first|apply Ac|apply Au|apply Ap|apply Ak|apply Aa|apply Ab|(apply Bg;(iterate 3 exact J);omega;exact J;exact J)|(apply Ad;(iterate 3 exact J))|(apply Ai;exact J;exact Av rfl QM rfl;exact J;exact J)|(apply Bd;exact J;exact J;(first|(apply Be (j:=k);(iterate 5 exact J);exact a1;(with_reducible exact J);omega)|(apply Ar;exact J;exact Bh rfl c1 rfl));exact QA)|(apply Af;(iterate 3 exact J);(first|(apply Bc (enc:=Ij) (n:=1) [(p,x.g.h)];(iterate 3 exact J);exact List.cons_ne_nil _ _;(iterate 4 exact J);exact fun _=>rfl;exact J;exact J;intro b5 h5 hle5 hs5;skip)|(apply Bk (enc:=Ij) (xs:=(x.hs.take k).map (fun p=>(p,x.g.h)));(iterate 7 exact J);exact hs5;exact fun _=>rfl;exact fun x=>Ci rfl;intro v1;exact QR;omega;exact J;intro A5 c5;skip)))|(apply Aj;exact J;all_goals (intro hc;try simp only [hcS,reduceCtorEq] at hc;try (exfalso;omega))))
   all_goals first
    | (exfalso;omega)
    | (have h3:=ih (k+1,A5,c5,h5) ⟨by dsimp only;omega,hle.trans hle5⟩ (by dsimp only;omega)
       dsimp only at h3
       rw [et,List.map_append] at h3
       refine Bw QS QT (h3))
 · rw [List.take_of_length_le (by omega)]
   have ek:k=s.hs.n:=by omega
   subst ek
   clear ih
   repeat' (first|apply Ac|apply Ak|apply Aa|apply Ab|(apply Bn;exact J)|(apply Ad;(iterate 3 exact J))|(apply Ai;exact J;exact Av rfl QM rfl;exact J;exact J)|(apply Aj;exact J;all_goals (intro hc;try simp only [hcS,reduceCtorEq] at hc;try (exfalso;omega))))
   all_goals (try (exfalso;omega))
   refine Bt (X:=Nat×Option Addr×Nat×Ro) (fun y=>y.1≤s.asn.n∧Le hk4 y.2.2.2) (fun y=>s.asn.n-y.1)
    (fun y=>[(26,.int .i64 y.1),(25,.int .i64 s.asn.n),(24,.slice s.asn.A s.asn.n s.asn.c),(2,.slice y.2.1 (s.hs.n+y.1) y.2.2.1),(1,Pt b1)])
    (fun y=>[Blk b1 43 (Wo s x),By 187 2 (.slice y.2.1 (s.hs.n+y.1) y.2.2.1) (s.hs.n+y.1) ((x.hs.map (fun p=>(p,x.g.h))++(x.asn.take y.1).map (fun p=>(p,x.g.a))).flatMap Ij)]) (fun y=>y.2.2.2) (0,A4,c4,hk4) ⟨by dsimp only;omega,Le.refl _⟩ QS (by rw [List.take_zero,List.map_nil,List.append_nil];exact QT) rfl ?_
   rintro ⟨k,A6,c6,hk6⟩ ⟨hk,hle2⟩ ih
   dsimp only at hk hle2 ih ⊢
   by_cases hkn:k<s.asn.n
   · have a1:=ha.addrD hkn
     have c1:=(ha.cellsD 0 hkn).le (hle.trans hle2)
     have et:=Fq 0 (xs:=x.asn) hn2 hkn
     generalize x.asn.getD k 0=p at *
     repeat' (first|apply Ac|apply Au|apply Ap|apply Ak|apply Aa|apply Ab|(apply Bg;(iterate 3 exact J);omega;exact J;exact J)|(apply Ad;(iterate 3 exact J))|(apply Ai;exact J;exact Av rfl QM rfl;exact J;exact J)|(apply Bd;exact J;exact J;(first|(apply Be (j:=k);(iterate 5 exact J);exact a1;(with_reducible exact J);omega)|(apply Ar;exact J;exact Bh rfl c1 rfl));exact QA)|(apply Af;(iterate 3 exact J);(first|(apply Bc (enc:=Ij) (n:=1) [(p,x.g.a)];(iterate 3 exact J);exact List.cons_ne_nil _ _;(iterate 4 exact J);exact fun _=>rfl;exact J;exact J;intro b5 h5 hle5 hs5;skip)|(apply Bk (enc:=Ij) (xs:=x.hs.map (fun p=>(p,x.g.h))++(x.asn.take k).map (fun p=>(p,x.g.a)));(iterate 7 exact J);exact hs5;exact fun _=>rfl;exact fun x=>Ci rfl;intro v1;exact QR;omega;exact J;intro A5 c5;skip)))|(apply Aj;exact J;all_goals (intro hc;try simp only [hcS,reduceCtorEq] at hc;try (exfalso;omega))))
     all_goals first
      | (exfalso;omega)
      | (have h3:=ih (k+1,A5,c5,h5) ⟨by dsimp only;omega,hle2.trans hle5⟩ (by dsimp only;omega)
         dsimp only at h3
         rw [et,List.map_append,← List.append_assoc] at h3
         refine Bw QS QT (h3))
   · rw [List.take_of_length_le (by omega)]
     have ek:k=s.asn.n:=by omega
     subst ek
     clear ih
     have hml:(memU x).length=s.hs.n+s.asn.n:=by unfold memU;rw [List.length_append,List.length_map,List.length_map,hn1,hn2]
     rw [show x.hs.map (fun p=>(p,x.g.h))++x.asn.map (fun p=>(p,x.g.a))=memU x from rfl]
     repeat' (first|apply Ac|apply Aa|apply Ab|(apply Bn;exact J)|(apply Ad;(iterate 3 exact J))|(apply Af;(iterate 3 exact J);(first|(apply Bi;exact J;exact has212;exact sortM_c _ _ (memU x) (s.hs.n+s.asn.n) (by omega) hml;exact QT;rintro vs Es9 h9 hle9 ⟨rfl,ys,hpm,hso,rfl⟩;skip)))|(apply Aj;exact J;all_goals (intro hc;try simp only [hcS,reduceCtorEq] at hc;try (exfalso;omega))))
     all_goals (try (exfalso;omega))
     have hyl:ys.length=s.hs.n+s.asn.n:=by rw [hpm.length_eq,hml]
     refine Ge (enc:=Ij) (e:=187) (sz:=2) (n:=s.hs.n+s.asn.n) (xs:=ys) (fun _=>rfl) hyl QK ?_
     intro A7 c7 h7 hle7 e7 hnc7 hs7
     cases e7
     have him:=Zr hok hpm hso
     have hye:=memS_of him
     rw [← hye]
     rw [← hyl] at hs7
     skip
     all_goals first
      | (exact Cb rfl rfl rfl ⟨A6,c6,by rw [hyl],hs7,him⟩)
end Go.Hw
