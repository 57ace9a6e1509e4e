import Derived.Test.YtlnenhhbalpbpaaGreatDoorVE
import Derived.Test.YtlnenhhbalpbpaaGreatDoorSB
import Derived.Test.YtlnenhhbalpbpaaGreatDoorHwXd
import Derived.Test.YtlnenhhbalpbpaaGreatDoorFD
import Derived.Test.YtlnenhhbalpbpaaGreatDoorHD
import Derived.Test.YtlnenhhbalpbpaaGreatDoorHB
import Derived.Lib.AppendZeros
set_option linter.all false
set_option maxRecDepth 100000
set_option maxHeartbeats 8000000
namespace Go.Hw
open Go
attribute [local irreducible] GO GOl GDp Val Fn Res Ab Du Blk Bd Cd Bf Has Yl Ik Bn Lt Kk Ew Hj
open Go.Proofs.Tryz (prog)
theorem idxFR_c (h:Ro)(A:Option Addr)(n c:Nat)(l:List Fk)(hx:Ar Iy 17 h A n l)(hn:n≤1000000)(f:FuncId)(fs cs:List Value)(p:Fk→Bool)(hh:Has prog f)
  (hf:∀ x∈l,Val prog f (fs++[Lk x]++cs).toArray h (.bool (p x))) :
  Val prog 137 #[.slice A n c,.func (.func f) fs.toArray cs.toArray] h (.int .i64 (Mf p l 0)):=by
 refine QXV Proofs.Tryz.func137 fun w0 X0=>?_
 have hlen:=hx.len
 repeat' (first|refine QF ?_|fail)
 refine Ai (X:=Nat) (fun k=>k≤n∧Mf p (l.drop k) k=Mf p l 0) (fun k=>n-k) (fun k=>[(8,.int .i64 k),(7,.int .i64 n),(0,.slice A n c),(1,.func (.func f) fs.toArray cs.toArray)]) (fun _=>[]) (fun _=>h) 0 ⟨by omega,rfl⟩ QS QT rfl ?_
 rintro k ⟨hk,hI⟩ ih
 by_cases hkn:k<n
 · have a1:=hx.addrD hkn
   have c1:=hx.cellsD Hu hkn
   have hd:=Bta Hu hlen hkn
   have hv:=hf _ (mem7 Hu (show k<l.length by omega))
   generalize l.getD k Hu=x at *
   repeat' (first|refine QF ?_|(apply Af;exact J;exact J;(first|exact QAc|exact QAf);exact QA)|(refine QG ?_;first|(refine QB7 ?_))|(refine QH ?_ ?_<;>intro hc<;>try omega)|(apply Ac;(iterate 3 exact J)))
   · rw [← hI,hd,Mf,if_pos hc]
   · have h3:=ih (k+1) ⟨by omega,by rw [← hI,hd,Mf,if_neg (by simp [hc])]⟩ QAd
     refine Aj QS QT (h3)
 · repeat' (first|refine QF ?_|(refine QH ?_ ?_<;>intro hc<;>try omega)|(apply Ac;(iterate 3 exact J)))
   rw [← hI,show k=l.length by omega,List.drop_length];rfl
theorem conFR_c (h:Ro)(A:Option Addr)(n c:Nat)(l:List Fk)(hx:Ar Iy 17 h A n l)(hn:n≤1000000)(f:FuncId)(fs cs:List Value)(p:Fk→Bool)(hh:Has prog f)
  (hf:∀ x∈l,Val prog f (fs++[Lk x]++cs).toArray h (.bool (p x))) :
  Val prog 92 #[.slice A n c,.func (.func f) fs.toArray cs.toArray] h (.bool (l.any p)):=by
 refine QXV Proofs.Tryz.func92 fun w0 X0=>?_
 repeat' (first|refine QF ?_|(refine QG ?_;first|(apply Aa;exact J;exact has137;exact idxFR_c _ _ _ _ _ hx hn f fs cs p hh hf))|(apply Ac;(iterate 3 exact J)))
 rw [Wa];congr 1;rw [Bool.eq_iff_iff,decide_eq_true_eq];exact Jf _ _ _
theorem unfit1_c (h:Ro)(r:Fk)(b1 b2:Nat)(pl day:Int)(h1:Ab h ⟨b1,0,none⟩ [.int .i64 pl])(h2:Ab h ⟨b2,0,none⟩ [.int .i64 day]):Val prog 94 #[Lk r,.pointer (some ⟨b1,0,none⟩),.pointer (some ⟨b2,0,none⟩)] h (.bool (unfB pl day r)):=by
 refine QXV Proofs.Tryz.func94 fun w0 X0=>?_
 unfold unfB
 repeat' (first|refine QF ?_|(apply Af;exact J;exact J;(first|(apply Aw;exact J;exact Cy rfl h1 rfl)|(apply Aw;exact J;exact Cy rfl h2 rfl));exact QA)|(refine QB ?_;intro b)|refine QJ ?_|(refine QI ?_ ?_<;>intro hc<;>try omega)|(apply Ac;(iterate 3 exact J)))
 all_goals (refine Bg ?_;(try rw [Me]);grind)
theorem Unfit_c (h:Ro)(hG:Iv h)(A:Option Addr)(n c:Nat)(l:List (Fsh×Fct))(hx:Au h A n l)(pl day:Int):Res prog 49 #[.slice A n c,.int .i64 pl,.int .i64 day] h (fun u _=>u=.bool (Iq (Ba (fcs l)) pl day)):=by
 refine QXR Proofs.Tryz.func49 fun w0 X0=>?_
 have e:Iq (Ba (fcs l)) pl day=((Bn (Ba (fcs l))).map (·.ru)).any (unfB pl day):=rfl
 rw [e]
 obtain ⟨L,hL⟩:∃ L,L=(Bn (Ba (fcs l))).map (·.ru):=⟨_,rfl⟩
 have hfi:=fun h' (hl:Le h h')=>InForce_c h' (hG.le hl) A n c l (hx.le hl)
 rw [← hL] at hfi ⊢
 clear hL e
 repeat' (first|refine QF ?_|(refine QB ?_;intro b)|fail)
 rename_i bp
 generalize b=bd
 refine Cfa (b:=bp) (e:=3) QK ?_
 intro h1 hle1 hc1
 refine Cfa (b:=bd) (e:=3) QK ?_
 intro h2 hle2 hc2
 repeat' (first|refine QF ?_|(refine QG ?_;first|(apply Ag;exact J;exact has93;exact hfi _ QAa;rintro w1 h3 hle3 ⟨A3,c3,rl,rfl,hsl,rfl,hn3⟩)|(apply Aa;exact J;exact has92;exact conFR_c _ A3 _ c3 rl hsl hn3 94 [] [.pointer (some ⟨bp,0,none⟩),.pointer (some ⟨bd,0,none⟩)] (unfB pl day) has94 (fun r _=>unfit1_c _ r bp bd pl day (hc1.le QAa) (hc2.le QAa))))|fail)
 all_goals first
  | ((first|(apply Ay;(iterate 3 exact J)));rfl)
def Ey (p:Fsh×Az):List Value:=.int .i64 p.2.kind::(Mn p.1 p.2.sh++[.int .i64 p.2.day])
theorem Jj (p:Fsh×Az):(Ey p).length=15:=rfl
def sc0:Fsh×Az:=(Ga,Ee)
instance:Inhabited (Fsh×Az):=⟨sc0⟩
def cmpS (a b:Fsh×Az):Int:=orL [Fb a.2.day b.2.day,Fb a.2.sh.g.h b.2.sh.g.h,Fb a.2.sh.g.a b.2.sh.g.a]
theorem cmpS_lt {a b:Fsh×Az}:cmpS a b<0↔LtS a.2 b.2:=by
 unfold cmpS LtS
 simp only [Uo,show orL []=0 from rfl]
 unfold Fb
 (repeat' split) <;> omega
theorem ltOfS (a b:Fsh×Az):Go.Proofs.ltOf cmpS a b=decide (LtS a.2 b.2):=by
 unfold Go.Proofs.ltOf;rw [decide_eq_decide];exact cmpS_lt
theorem swoS:Go.Sort.SWO (Go.Proofs.ltOf cmpS) where
 irrefl x:=by rw [ltOfS];exact decide_eq_false (LtS.irrefl x.2)
 trans x y z h1 h2:=by rw [ltOfS,decide_eq_true_eq] at *;exact LtS.trans _ _ _ h1 h2
 ntrans x y z h1 h2:=by rw [ltOfS,decide_eq_false_iff_not] at *;unfold LtS at *;omega
theorem Lqa (h:Ro)(x y:Fsh×Az):Res prog 133 #[.agg (Ey x).toArray,.agg (Ey y).toArray] h (fun u _=>u=.int .i64 (cmpS x y)):=by
 refine QXR Proofs.Tryz.func133 fun w0 X0=>?_
 unfold cmpS
 generalize hor:orL [Fb x.2.day y.2.day,Fb x.2.sh.g.h y.2.sh.g.h,Fb x.2.sh.g.a y.2.sh.g.a]=o at *
 repeat' (first|refine QFs ?_|(refine QB ?_;intro b)|(apply Ad (n:=1) [0,1,2,6,7,8,3,4,5,9] [(0,0),(1,0),(2,0),(3,0),(4,0),(5,0),(6,2),(3,7),(7,1),(8,1),(9,1),(6,1),(8,1),(9,1)];kernel_rfl)|(apply Ad (n:=2) [0,1,2,3,4,5,6,7,8,9,10,11,12,13,14,15,16,17] [(0,0),(1,0),(2,0),(3,0),(5,0),(6,0),(7,0),(8,0),(10,0),(11,0),(12,0),(13,0),(4,1),(9,1),(14,1),(15,1),(16,1),(17,0)];kernel_rfl)|(apply Ao;exact J;kernel_rfl;(iterate 3 exact J);(first|(apply Aa;exact J;exact has57;exact Wx _ _ _;refine ⟨Le.refl _,QN,?_⟩)|(apply Bb (e:=3) (cs:=[Fb x.2.day y.2.day,Fb x.2.sh.g.h y.2.sh.g.h,Fb x.2.sh.g.a y.2.sh.g.a].map fun i=>.int .i64 i);(iterate 3 exact J);exact List.cons_ne_nil _ _;(iterate 4 exact J);intro b1 h1 hle1 hcs1;refine ⟨hle1,QN,?_⟩)|(apply Aa;exact J;exact has56;(have hv7:=or7_c _ _ 3 3 [Fb x.2.day y.2.day,Fb x.2.sh.g.h y.2.sh.g.h,Fb x.2.sh.g.a y.2.sh.g.a] (Do hcs1) QAd;rw [hor] at hv7;exact hv7);refine ⟨Le.refl _,QN,?_⟩)))|(apply Hi;kernel_rfl;exact J;exact J)|(apply Ay;(iterate 3 exact J)))
 all_goals rfl
theorem sortSc_c (h:Ro)(v:Value)(xs:List (Fsh×Az))(n:Nat)(hn:n≤1000000)(hx:xs.length=n) :
  Fn prog 132 #[v,.func (.func 133) #[] #[]] [Bd 62 15 v n (xs.flatMap Ey)] h fun u Es _=>u=.tuple #[]∧∃ ys:List (Fsh×Az),ys.Perm xs∧(ys.Pairwise fun x y=>¬ LtS y.2 x.2)∧Es=[Bd 62 15 v n (ys.flatMap Ey)]:=by
 have hN:∀ (p:Option Addr) (cap:Nat) (w:World),Calls prog 132 #[.slice p 0 cap,.func (.func 133) #[] #[]] w fun e w'=>e=.returned (.tuple #[])∧w'=w:=fun p cap w=>Go.Proofs.AnyF.slices_SortFunc_none Go.Proofs.Tryz.sortScores p cap _ w
 have hC:∀ (blk off cap:Nat) (d:Array (Fsh×Az)) (w:World),Go.Proofs.CmpLays prog 133 #[] Ey 15 cmpS blk off d.size w→Go.Sort.HoldsK Ey 15 w blk off d→blk<w.heap.size→d.size<4611686018427387904 →
  Calls prog 132 #[.slice (some ⟨blk,off,none⟩) d.size cap,.func (.func 133) #[] #[]] w fun e w'=>e=.returned (.tuple #[])∧∃ d' n os,Go.Sort.PermIn 0 d.size d d'∧Go.Sort.SortedIn (Go.Proofs.ltOf cmpS) 0 d.size d'∧w'=Go.Proofs.sortWorldK Ey 15 w blk off n d' os:=fun blk off cap d w hc hH hb hs =>
  Go.Proofs.AnyQ.slices_SortFunc Go.Proofs.Tryz.sortScores 15 (fun w=>ts_ok.run_agg (n:=62) rfl w) (fun w=>ts_ok.run_size (n:=62) rfl w) Ey (fun _=>rfl) (fun a=>Bh rfl) cmpS swoS 133 #[] blk off cap d w (Go.Proofs.enters_of Go.Proofs.Tryz.func133 QBq rfl) hc hH hb hs
 have hcmp:∀ x y:Fsh×Az,Res prog 133 (#[.agg (Ey x).toArray,.agg (Ey y).toArray]++#[]) h fun u _=>u=.int .i64 (cmpS x y):=fun x y=>by
  rw [Array.append_empty]
  exact Lqa h x y
 have key:=F5a (α:=Fsh×Az) (P:=prog) (f:=132) (gf:=133) (cb:=#[]) Ey 15 (fun _=>rfl) QAs cmpS h hC hN hcmp 62 v xs n QAd hx
 refine key.mono ?_
 rintro u Es h' hle ⟨rfl,ys,hp,hso,rfl⟩
 refine ⟨rfl,ys,hp,hso.imp fun {a b} hab => ?_,rfl⟩
 rw [ltOfS,decide_eq_false_iff_not] at hab
 exact hab
def ScAt (h:Ro) (p:Fsh×Az):Prop:=Kj h p.1 p.2.sh∧Tu p.2.sh
theorem ScAt.le {h h':Ro}{p:Fsh×Az}(a:ScAt h p)(hl:Le h h'):ScAt h' p:=⟨a.1.le hl,a.2⟩
noncomputable def Gc (L:List Fct) (gs:List Ak):List Az:=(gs.map (Bj L)).filter fun x=>decide (x.kind=2)
theorem Tr (L:List Fct)(gs:List Ak)(g:Ak):Gc L (gs++[g])=if (Bj L g).kind=2 then Gc L gs++[Bj L g] else Gc L gs:=by
 unfold Gc
 rw [List.map_append,List.filter_append]
 by_cases h:(Bj L g).kind=2 <;> simp [h]
theorem Ps {L:List Fct}{gs:List Ak}{x:Az}:x∈Gc L gs↔∃ g∈gs,Bj L g=x∧x.kind=2:=by
 unfold Gc
 rw [List.mem_filter,List.mem_map,decide_eq_true_eq]
 exact ⟨fun ⟨⟨g,h1,h2⟩,h3⟩=>⟨g,h1,h2,h3⟩,fun ⟨g,h1,h2,h3⟩=>⟨⟨g,h1,h2⟩,h3⟩⟩
theorem Tn {l:List (Fsh×Fct)}(h32:Mk (fcs l)){s c:Int}{x:Az}:x∈Gc (fcs l) (Gv l s c)↔∃ g:Ak,g.s=s∧g.c=c∧Bj (fcs l) g=x∧x.kind=2:=by
 rw [Ps]
 constructor
 · rintro ⟨g,h1,h2,h3⟩
   have:=Kw.1 h1
   exact ⟨g,this.1,this.2.1,h2,h3⟩
 · rintro ⟨g,h1,h2,rfl,h4⟩
   obtain ⟨f,m,ok,k,e,eg,d⟩:=Cl h32 h4
   exact ⟨g,Kw.2 ⟨h1,h2,f,m,k,ok,eg⟩,rfl,h4⟩
theorem B5a {l:List (Fsh×Fct)}(h32:Mk (fcs l))(s c:Int):(Gc (fcs l) (Gv l s c)).Nodup:=by
 have hn:(Gv l s c).Nodup:=(Wh l s c).imp fun {a b} hab e=>by subst e;exact LtG.irrefl _ hab
 unfold Gc
 rw [List.filter_map]
 refine List.pairwise_map.2 ((hn.filter _).imp_of_mem fun {a b} ha hb hab e=>hab ?_)
 have ka:=(List.mem_filter.1 ha).2
 have kb:=(List.mem_filter.1 hb).2
 obtain ⟨_,_,_,_,e1,g1,_⟩:=Cl h32 (g:=a) (by simpa using ka)
 obtain ⟨_,_,_,_,e2,g2,_⟩:=Cl h32 (g:=b) (by simpa using kb)
 rw [← g1,← g2,e1,e2,e]
theorem Wi {h:Ro}{A:Option Addr}{n:Nat}{l:List (Fsh×Fct)}(hx:Au h A n l)(s c:Int):(Gv l s c).length≤1000000:=by
 unfold Gv
 rw [C2a]
 unfold Gk
 rw [List.length_map]
 exact Nat.le_trans (List.length_filter_le _ _) (Yt hx)
theorem Hga (L:List Fct)(gs:List Ak):(Gc L gs).length≤gs.length:=by
 unfold Gc
 exact Nat.le_trans (List.length_filter_le _ _) (by rw [List.length_map];exact Nat.le_refl _)
theorem Fa {h:Ro}{A:Option Addr}{n:Nat}{l:List (Fsh×Fct)}(hx:Au h A n l):Mk (fcs l):=fun f hf=>by
 unfold fcs at hf
 obtain ⟨p,hp,rfl⟩:=List.mem_map.1 hf
 exact (hx.fat p hp).1.void
theorem decided_c (h:Ro)(hG:Iv h)(A:Option Addr)(n c:Nat)(l:List (Fsh×Fct))(hx:Au h A n l)(season comp:Int):Res prog 86 #[.slice A n c,.int .i64 season,.int .i64 comp] h (fun u h'=>∃ A' c' ds,u=.slice A' ds.length c'∧Ar Ey 15 h' A' ds.length ds∧(∀ p∈ds,ScAt h' p)∧Oo (fcs l) season comp (ds.map (·.2))∧ds.length≤n∧ds.length≤c'):=by
 refine QXR Proofs.Tryz.func86 fun w0 X0=>?_
 have h32:=Fa hx
 have hlenL:(fcs l).length=n:=by unfold fcs;rw [List.length_map,hx.row.len]
 have hga:=fun h' (hl:Le h h')=>games_c h' (hG.le hl) A n c l (hx.le hl) season comp
 have hsc:=fun h' (hl:Le h h') g=>Ava h' (hG.le hl) A n c l (hx.le hl) g
 have hgl:=Wi hx season comp
 have hmem:=fun x=>Tn (l:=l) h32 (s:=season) (c:=comp) (x:=x)
 have hnd:=B5a h32 season comp
 rw [show Oa l=fcs l from rfl] at hsc
 generalize Gv l season comp=gs at *
 generalize hL:fcs l=L at *
 clear hL hx
 repeat' (first|refine QF ?_|(refine QG ?_;first|(apply Ag;exact J;exact has131;exact hga _ QAa;rintro w1 h1 hle1 ⟨A3,c3,rfl,hsl⟩))|fail)
 refine Fg 62 15 ?_
 refine Ai (X:=Nat×List (Fsh×Az)×Option Addr×Nat×Ro) (fun x=>x.1≤gs.length∧Le h1 x.2.2.2.2∧(∀ p∈x.2.1,ScAt x.2.2.2.2 p)∧x.2.1.map (·.2)=Gc L (gs.take x.1)) (fun x=>gs.length-x.1)
  (fun x=>[(16,.int .i64 x.1),(15,.int .i64 gs.length),(14,.slice A3 gs.length c3),(7,.slice x.2.2.1 x.2.1.length x.2.2.2.1),(0,.slice A n c)])
  (fun x=>[Bd 62 15 (.slice x.2.2.1 x.2.1.length x.2.2.2.1) x.2.1.length (x.2.1.flatMap Ey)]) (fun x=>x.2.2.2.2) (0,[],none,0,h1) ⟨by dsimp only;omega,Le.refl _,by simp,rfl⟩ QS QT rfl ?_
 rintro ⟨k,out,A4,c4,hh⟩ ⟨hk,hle,hat,ho⟩ ih
 dsimp only at hk hle hat ho ih ⊢
 have hol:out.length≤k:=by
  have q:=congrArg List.length ho
  have q2:=Hga L (gs.take k)
  rw [List.length_map] at q
  rw [List.length_take] at q2
  omega
 by_cases hkn:k<gs.length
 · have a1:=hsl.addrD hkn
   have c1:=(hsl.cellsD g9 hkn).le hle
   have et:=Cb g9 (xs:=gs) rfl hkn
   generalize gs.getD k g9=g at *
   have e0:=Tr L (gs.take k) g
   rw [← et] at e0
   have hsg:=fun h' (hl:Le h h')=>hsc h' hl g
   generalize Bj L g=x at *
   have hle0:Le h hh:=QAa
   by_cases hk2:x.kind=2
   · rw [if_pos hk2,← ho] at e0
     clear hga hmem hnd
     repeat' (first|refine QFs ?_|(apply Af;exact J;exact J;(first|exact QAc|exact QAf);exact QA)|(refine QB ?_;intro b)|(refine QG ?_;first|(refine QEu ?_;rintro w2 h2 hle2 ⟨s,rfl,hs1,hs2⟩)|(refine QBt ?_;intro b5 h5 hle5 hs5)|(apply Ap (enc:=Ey) (xs:=out);(iterate 7 exact J);exact hs5;exact Jj;exact fun x=>Bh rfl;intro v1;exact QR;omega;exact J;intro A5 c5))|(refine QH ?_ ?_<;>intro hc<;>try omega)|fail)
     all_goals first
      | (exfalso;omega)
      | (have h3:=ih (k+1,out++[(s,x)],A5,c5,h5) ⟨by dsimp only;omega,hle.trans (hle2.trans hle5),fun q hq=>by
          rcases List.mem_append.1 hq with w|w
          · exact (hat q w).le (hle2.trans hle5)
          · rw [List.mem_singleton] at w;subst w;exact ⟨hs1.le hle5,hs2⟩,by dsimp only;rw [e0,List.map_append];rfl⟩ QAh
         dsimp only at h3
         rw [List.length_append] at h3
         refine Aj QS QT (h3))
   · rw [if_neg hk2] at e0
     clear hga hmem hnd
     repeat' (first|refine QFs ?_|(apply Af;exact J;exact J;(first|exact QAc|exact QAf);exact QA)|(refine QB ?_;intro b)|(refine QG ?_;first|(refine QEu ?_;rintro w2 h2 hle2 ⟨s,rfl,hs1,hs2⟩))|(refine QH ?_ ?_<;>intro hc<;>try omega)|fail)
     all_goals first
      | (exfalso;omega)
      | (have h3:=ih (k+1,out,A4,c4,h2) ⟨by dsimp only;omega,hle.trans hle2,fun q hq=>(hat q hq).le hle2,by dsimp only;rw [e0];exact ho⟩ QAh
         dsimp only at h3
         refine Aj QS QT (h3))
 · rw [List.take_of_length_le QAd] at ho
   clear ih hsc hga
   repeat' (first|refine QF ?_|(refine QG ?_;first|(apply Be;exact J;exact has132;exact sortSc_c _ _ out out.length QAd rfl;exact QT;rintro vs Es9 h9 hle9 ⟨rfl,ys,hpm,hso,rfl⟩))|(refine QH ?_ ?_<;>intro hc<;>try omega)|fail)
   all_goals (try (exfalso;omega))
   refine El (enc:=Ey) (e:=62) (sz:=15) (n:=out.length) (xs:=ys) Jj (hpm.length_eq) QK ?_
   intro A7 c7 h7 hle7 e7 hnc7 hs7
   cases e7
   have hdec:Oo L season comp (ys.map (·.2)):=Kpa h32 (fun x=>by rw [ho];exact hmem x) (by rw [ho];exact hnd) (hpm.map _) (List.pairwise_map.2 hso)
   have hyl:=hdec.len h32
   rw [List.length_map,hlenL] at hyl
   have hye:=hpm.length_eq
   rw [← hye] at hs7
   skip
   all_goals first
    | (exact Ay rfl rfl rfl ⟨A4,c4,ys,by rw [hye],hs7,fun p hp=>((hat p (hpm.mem_iff.1 hp)).le (hle9.trans hle7)),hdec,hyl,by rw [hye];exact hnc7⟩)
end Go.Hw
namespace Go.Hw
open Go
open Go.Proofs.Tryz (prog)
theorem Ya {C:Ctx}{l:Sl}{Es:List Asn}{h:Ro}{G:Value→List Asn→Ro→Prop}{ty:TypeId}{pos:String}{aft:Array Edge}{gd:Option (Nat×Bool)}{dst:Option Tmp}{t tn e:TypeId}{x y:Operand}{n:Nat}{T N E:Ty}(hT:By t C.ts=some T)(hTd:T.desc=.slice e)(hN:By tn C.ts=some N)(hNd:N.desc=.int .i64)(hE:By e C.ts=some E)(hEz:E.zero.cells.size=E.size)(hEs:Nat.blt 0 E.size=true)(hEb:Nat.ble E.bytes 100000=true)
  (hx:evl l x=some (.slice none 0 0)) (hy:evl l y=some (.int .i64 (n:Int))) (hn:0<n∧n≤1000000000)
  (g:∀ b c zs,n≤c→G (.slice (some ⟨b,0,none⟩) n c) (Bd e E.size (.slice (some ⟨b,0,none⟩) n c) n zs::Es) h):Fw C l Es h ⟨dst,.call ⟨.builtin .append,#[x,y],#[t,tn]⟩,ty,pos,aft,gd⟩ G:=fun a w hs hp=>by
 obtain ⟨i,hi,hi1,hi2,hi3⟩:=C.ok.info hE
 obtain ⟨D0,hu,hb0⟩:=C.ok.und hT
 rw [hTd] at hb0;rw [Bu hb0] at hu
 obtain ⟨D1,hu1,hb1⟩:=C.ok.und hN
 rw [hNd] at hb1;rw [Gf hb1] at hu1
 have hEb':E.bytes≤100000:=Nat.le_of_ble_eq_true hEb
 have hEs':0<E.size:=Nat.le_of_ble_eq_true hEs
 have h48:n * i.bytes≤281474976710656:=by
  rw [hi2]
  exact Nat.le_trans (Nat.mul_le_mul hn.2 hEb') QAs
 have hr:=Lib.run_append_nil_zeros (P:=C.P) w t tn ty e i E.zero .i64 .i64 hu hu1 hi hi3 n hn.1 (by rw [hi1];exact hEs') QAd h48
 have hge:=grownCap_ge w n 0 e
 have hcm:=grownCap_le_maxLen w n 0 e (by unfold maxLen;omega)
 have hsz:∀ m,(Builtin.zeroCells E.zero.cells m).size=m * E.size:=fun m=>by unfold Builtin.zeroCells;simp [hEz]
 refine .inl ⟨_,_,_,h,by simp only [execOp,resolve,invoke,builtin,Sem.run_bind,Sem.run_pure,Result.andThen_ok,List.map_toArray,List.map_cons,List.map_nil,hs.eval hx,hs.eval hy,hr];rfl,(hp.drew).alloc (.cells (Builtin.zeroCells E.zero.cells n++Builtin.zeroCells E.zero.cells (grownCap w n 0 e-n)) e) (Bd e E.size (.slice (some ⟨w.heap.size,0,none⟩) n (grownCap w n 0 e)) n (Builtin.zeroCells E.zero.cells n).toList) (fun m hm=>(show (Bd e E.size (.slice (some ⟨w.heap.size,0,none⟩) n (grownCap w n 0 e)) n (Builtin.zeroCells E.zero.cells n).toList).holds [w.heap.size] m from by exact ⟨by simp [hsz],.inr ⟨w.heap.size,grownCap w n 0 e,_,rfl,rfl,hm,hge,hcm,(by rw [Array.size_append,hsz,hsz,← Nat.add_mul];congr 1;omega),(by rw [Array.toList_append];exact List.take_left' (by simp [hsz]))⟩⟩)),g _ _ _ hge⟩
attribute [local irreducible] GO GOl GDp Val Fn Res Ab Du Blk Bd Cd Bf Has Yl Ik Bn Lt Kk Ew Hj
theorem C4a (A:Option Addr)(c sz:Nat):Qh A c sz=A:=by
 unfold Qh
 split
 · rfl
 · cases A <;> simp [Addr.add]
theorem growC_c (h:Ro)(n:Nat)(hn:n≤1000000000):Fn prog 200 #[.slice none 0 0,.int .i64 n] [] h fun u Es _=>Es=[Bd 128 2 u 0 []]:=by
 refine QXF Proofs.Tryz.func200 fun w0 X0=>?_
 refine Fg 128 2 ?_
 by_cases h0:n=0
 · subst h0
   repeat' (first|refine QF ?_|(refine QH ?_ ?_<;>intro hc<;>try omega)|fail)
   exact Bi rfl rfl rfl (List.Sublist.refl _) rfl
 · repeat' (first|refine QF ?_|(apply Af;exact J;exact J;(first|(apply Jc (hi:=0);(iterate 6 exact J);omega;omega));exact QA)|(refine QG ?_;first|(apply Ya;(iterate 10 exact J);(constructor <;> omega);intro b2 c2 zs hc2))|(refine QH ?_ ?_<;>intro hc<;>try omega)|fail)
   rw [C4a]
   refine GO_asn (A':=Bd 128 2 (.slice (some ⟨b2,0,none⟩) 0 c2) 0 []) QR (fun D m hD=>by have:=J2a (m:=0) (Nat.zero_le _) hD;rw [show Kga.size=2 from rfl] at this;simpa using this) ?_
   exact Bi rfl rfl rfl (.cons_cons _ (List.nil_sublist _)) rfl
theorem concatC_c (h:Ro)(A B:Option Addr)(n c m d bb:Nat)(x y:List Dx)(hx:Ar Ox 2 h A n x)(hy:Ar Ox 2 h B m y)(hn:n≤100000000)(hm:m≤100000000)(hb:Ab h ⟨bb,0,none⟩ [.slice A n c,.slice B m d]) :
  Res prog 134 #[.slice (some ⟨bb,0,none⟩) 2 2] h fun u h'=>∃ A' c',u=.slice A' (n+m) c'∧Ar Ox 2 h' A' (n+m) (x++y):=by
 refine QXR Proofs.Tryz.func134 fun w0 X0=>?_
 have hb0:=Bya hb (k:=0) rfl
 have hb1:=Bya hb (k:=1) rfl
 have hxl:=hx.len
 have hyl:=hy.len
 repeat' (first|refine QC ?_|(apply GO_loop)|(apply Fna)|refine QD ?_|(apply Af;exact J;exact J;(first|(apply Oz (j:=0);(iterate 5 exact J);omega;omega)|(apply Oz (j:=1);(iterate 5 exact J);omega;omega)|(apply Aw;exact J;exact Cy rfl (hb0.le QAa) rfl)|(apply Aw;exact J;exact Cy rfl (hb1.le QAa) rfl));exact QA)|(refine QG ?_;first|(apply Be;exact J;exact has200;(have hg7:=growC_c h (n+m) QAd;rw [show ((n+m:Nat):Int)=0+(n:Int)+(m:Int) by omega] at hg7;exact hg7);exact QT;rintro vg Eg hg9 hlg rfl)|(apply Ap (enc:=Ox) (xs:=[]) (ys:=x);(iterate 7 exact J);exact hx.le QAa;exact fun _=>rfl;exact fun _=>Bh rfl;intro v1;exact QR;omega;exact J;intro A1 c1)|(apply Ap (enc:=Ox) (xs:=[]++x) (ys:=y);(iterate 7 exact J);exact hy.le QAa;exact fun _=>rfl;exact fun _=>Bh rfl;intro v1;exact QR;omega;exact J;intro A1 c1))|(refine QH ?_ ?_<;>intro hc<;>try omega)|fail)
 all_goals
  rw [List.nil_append,Nat.zero_add]
  refine El (enc:=Ox) (e:=128) (sz:=2) (n:=n+m) (xs:=x++y) (fun _=>rfl) (by rw [List.length_append,hxl,hyl]) QK ?_
  intro A7 c7 h7 hle7 e7 hnc7 hs7
  cases e7
  exact Ay rfl rfl rfl ⟨_,_,rfl,hs7⟩
theorem Gh {κ α:Type}[DecidableEq κ]{ek:κ→Value}{ev:α→Value}{z0:α}{C:Ctx}{l:Sl}{h:Ro}{ty:TypeId}{pos:String}{aft:Array Edge}{gd:Option (Nat×Bool)}{dst:Option Tmp}{t k e:TypeId}{x y:Operand}{b:Nat}{key:κ}{m:List (κ×α)}{T E:Ty}{q:α}(K:Uk C.P k ek)(hT:By t C.ts=some T)(hTd:T.desc=.map k e)(hE:By e C.ts=some E)(hz:E.zero=ev z0)
  (hx:evl l x=some (.map (some b))) (hy:evl l y=some (ek key)) (hq:(Cf key m).getD z0=q):OV C l [Cd ek ev b m] h ⟨dst,.lookup t x y false,ty,pos,aft,gd⟩ (ev q):=by
 have:=Hb (ev:=ev) (h:=h) (ty:=ty) (pos:=pos) (aft:=aft) (gd:=gd) (dst:=dst) (c:=false) (m:=m) (b:=b) K hT hTd hE hx hy rfl
 subst hq
 cases hl:Cf key m with
 | none=>rw [hl] at this;rw [show ev ((none:Option α).getD z0)=E.zero from hz.symm];exact this
 | some a=>rw [hl] at this;exact this
def ekN (i:Int):Value:=.int .i64 i
def evCd (z:Int×Bool):Value:=.agg #[.int .i64 z.1,.bool z.2]
theorem KN:Uk prog 3 ekN:=K7
def cardM (m:List (Int×(Int×Bool))) (c:Dx):List (Int×(Int×Bool)):=Im c.p (Js c.p ((Cf c.p m).getD (0,false)) c) m
theorem Lxa (m:List (Int×(Int×Bool)))(c:Dx)(p:Int):(Cf p (cardM m c)).getD (0,false)=Js p ((Cf p m).getD (0,false)) c:=by
 unfold cardM
 rw [Si]
 by_cases h:c.p=p
 · subst h;simp
 · rw [if_neg h]
   unfold Js
   rw [if_neg h]
def Oy (cs:List Dx):List (Int×(Int×Bool)):=cs.foldl cardM []
theorem Wz (cs:List Dx)(c:Dx):Oy (cs++[c])=cardM (Oy cs) c:=by unfold Oy;rw [List.foldl_append];rfl
theorem Xa (cs:List Dx)(p:Int):(Cf p (Oy cs)).getD (0,false)=cs.foldl (Js p) (0,false):=by
 refine Kqa (P:=fun cs=>(Cf p (Oy cs)).getD (0,false)=cs.foldl (Js p) (0,false)) rfl (fun l x ih => ?_) cs
 rw [Wz,Lxa,ih,List.foldl_append];rfl
theorem cardMs_bd (cs:List Dx)(p:Int):0≤((Cf p (Oy cs)).getD (0,false)).1∧((Cf p (Oy cs)).getD (0,false)).1≤2:=by
 rw [Xa];exact Uu p cs (0,false) ⟨by decide,by decide⟩
theorem shownE_c (h:Ro)(s:Fsh)(x:Ce)(hx:Kj h s x)(hl:x.hc.length≤1000∧x.ac.length≤1000):Fn prog 87 #[Kq s x] [] h fun u Es h'=>∃ bm m,u=.map (some bm)∧Es=[Cd ekN evCd bm m]∧∀ p,(Cf p m).getD (0,false)=Ff x p:=by
 refine QXF Proofs.Tryz.func87 fun w0 X0=>?_
 have hn1:=hx.hc.len
 have hn2:=hx.ac.len
 obtain ⟨cs,hcs⟩:∃ cs,cs=x.hc++x.ac:=⟨_,rfl⟩
 have hcl:cs.length=s.hc.n+s.ac.n:=by rw [hcs,List.length_append,hn1,hn2]
 repeat' (first|refine QF ?_|(refine QB ?_;intro b)|(refine QG ?_;first|(apply Eu ekN evCd;intro bm)|(apply Bb (e:=45) (cs:=[.slice s.hc.A s.hc.n s.hc.c,.slice s.ac.A s.ac.n s.ac.c]);(iterate 3 exact J);exact List.cons_ne_nil _ _;(iterate 4 exact J);intro b1 h1 hle1 hcs1)|(apply Ag;exact J;exact has134;exact concatC_c _ s.hc.A s.ac.A s.hc.n s.hc.c s.ac.n s.ac.c b1 x.hc x.ac (hx.hc.le QAa) (hx.ac.le QAa) QAd QAd hcs1;rintro vc h2 hle2 ⟨A2,c2,rfl,hs2⟩))|fail)
 rw [← hcs] at hs2
 have hK:=KN
 refine Ai (X:=Nat) (fun k=>k≤s.hc.n+s.ac.n) (fun k=>s.hc.n+s.ac.n-k)
  (fun k=>[(15,.int .i64 k),(14,.int .i64 ((s.hc.n+s.ac.n:Nat):Int)),(13,.slice A2 (s.hc.n+s.ac.n) c2),(3,.map (some bm))])
  (fun k=>[Cd ekN evCd bm (Oy (cs.take k))]) (fun _=>h2) 0 QAd QS QT rfl ?_
 rintro k hk ih
 by_cases hkn:k<s.hc.n+s.ac.n
 · have a1:=hs2.addrD hkn
   have c1:=hs2.cellsD Dg hkn
   have et:=Cb Dg (xs:=cs) hcl hkn
   generalize cs.getD k Dg=z at *
   have hsn:=Wz (cs.take k) z
   have hbd:=cardMs_bd (cs.take k) z.p
   rw [← et] at hsn
   have h3:=ih (k+1) QAd QAd
   rw [hsn] at h3
   generalize Oy (cs.take k)=m at *
   unfold cardM at h3
   obtain ⟨q,hq⟩:∃ q,(Cf z.p m).getD (0,false)=q:=⟨_,rfl⟩
   rw [hq] at h3 hbd
   unfold Js at h3
   rw [if_pos rfl] at h3
   obtain ⟨zp,zr⟩:=z
   obtain ⟨q1,q2⟩:=q
   dsimp only at hq hbd h3 a1 c1
   cases zr
   · rw [if_neg QAs] at h3
     repeat' (first|refine QC ?_|(apply GOl_min;(iterate 3 exact J);intro wn hwn)|refine QDs ?_|(apply Af;exact J;exact J;(first|exact QAc|exact QAf|exact QE6);exact QA)|(refine QB ?_;intro b)|(refine QG ?_;first|(apply Dp (ek:=ekN) (ev:=evCd) (b:=bm) (m:=m) (key:=zp) (u:=(min 2 (q1+1),q2)) hK;(iterate 5 exact J);rw [hwn];exact J;exact QR))|(refine QH ?_ ?_<;>intro hc<;>try omega)|fail)
     all_goals first
      | (exfalso;omega)
      | (exfalso;simp at hc;done)
      | (refine Aj QS QT (h3))
   · rw [if_pos rfl] at h3
     repeat' (first|refine QFs ?_|(apply Af;exact J;exact J;(first|exact QAc|exact QAf|exact QE6);exact QA)|(refine QB ?_;intro b)|(refine QG ?_;first|(apply Dp (ek:=ekN) (ev:=evCd) (b:=bm) (m:=m) (key:=zp) (u:=(q1,true)) hK;(iterate 6 exact J);exact QR))|(refine QH ?_ ?_<;>intro hc<;>try omega)|fail)
     all_goals first
      | (exfalso;omega)
      | (exfalso;simp at hc;done)
      | (refine Aj QS QT (h3))
 · rw [List.take_of_length_le QAd]
   clear ih
   repeat' (first|refine QF ?_|(refine QH ?_ ?_<;>intro hc<;>try omega)|fail)
   all_goals first
    | (exfalso;omega)
    | (exact Bi rfl rfl rfl QAk ⟨bm,Oy cs,rfl,rfl,fun p=>by rw [Xa,hcs];rfl⟩)
def He (m:Int×Int):List Value:=[.int .i64 m.1,.int .i64 m.2]
def m0:Int×Int:=(0,0)
theorem K6a (h:Ro)(x y:Int×Int):Val prog 136 #[.agg (He x).toArray,.agg (He y).toArray] h (.int .i64 (Fb x.1 y.1)):=by
 refine QXV Proofs.Tryz.func136 fun w0 X0=>?_
 repeat' (first|refine QF ?_|(refine QB ?_;intro b)|(refine QG ?_;first|(apply Aa;exact J;exact has57;exact Wx _ _ _))|(apply Ac;(iterate 3 exact J)))
 all_goals rfl
theorem ltOfM (x y:Int×Int):Go.Proofs.ltOf (fun (x y:Int×Int)=>Fb x.1 y.1) x y=decide (x.1<y.1):=by
 unfold Go.Proofs.ltOf
 rw [decide_eq_decide];exact Ww
theorem cmpM_swo:Go.Sort.SWO (Go.Proofs.ltOf fun (x y:Int×Int)=>Fb x.1 y.1) where
 irrefl x:=by rw [ltOfM,decide_eq_false_iff_not];omega
 trans x y z h1 h2:=by rw [ltOfM,decide_eq_true_eq] at *;omega
 ntrans x y z h1 h2:=by rw [ltOfM,decide_eq_false_iff_not] at *;omega
theorem sortM_c (h:Ro)(v:Value)(xs:List (Int×Int))(n:Nat)(hn:n≤1000000)(hx:xs.length=n) :
  Fn prog 135 #[v,.func (.func 136) #[] #[]] [Bd 105 2 v n (xs.flatMap He)] h fun u Es _=>u=.tuple #[]∧∃ ys:List (Int×Int),ys.Perm xs∧(ys.Pairwise fun x y=>x.1≤y.1)∧Es=[Bd 105 2 v n (ys.flatMap He)]:=by
 have hN:∀ (p:Option Addr) (cap:Nat) (w:World),Calls prog 135 #[.slice p 0 cap,.func (.func 136) #[] #[]] w fun e w'=>e=.returned (.tuple #[])∧w'=w:=fun p cap w=>Go.Proofs.AnyF.slices_SortFunc_none Go.Proofs.Tryz.sortMembers p cap _ w
 have hC:∀ (blk off cap:Nat) (d:Array (Int×Int)) (w:World),Go.Proofs.CmpLays prog 136 #[] He 2 (fun x y=>Fb x.1 y.1) blk off d.size w→Go.Sort.HoldsK He 2 w blk off d→blk<w.heap.size→d.size<4611686018427387904 →
  Calls prog 135 #[.slice (some ⟨blk,off,none⟩) d.size cap,.func (.func 136) #[] #[]] w fun e w'=>e=.returned (.tuple #[])∧∃ d' n os,Go.Sort.PermIn 0 d.size d d'∧Go.Sort.SortedIn (Go.Proofs.ltOf fun (x y:Int×Int)=>Fb x.1 y.1) 0 d.size d'∧w'=Go.Proofs.sortWorldK He 2 w blk off n d' os:=fun blk off cap d w hc hH hb hs =>
  Go.Proofs.AnyQ.slices_SortFunc Go.Proofs.Tryz.sortMembers 2 (fun w=>ts_ok.run_agg (n:=105) rfl w) (fun w=>ts_ok.run_size (n:=105) rfl w) He (fun _=>rfl) (fun a=>Bh rfl) (fun x y=>Fb x.1 y.1) cmpM_swo 136 #[] blk off cap d w (Go.Proofs.enters_of Go.Proofs.Tryz.func136 QBq rfl) hc hH hb hs
 have hcmp:∀ x y:Int×Int,Res prog 136 (#[.agg (He x).toArray,.agg (He y).toArray]++#[]) h fun u _=>u=.int .i64 (Fb x.1 y.1):=fun x y=>by
  rw [Array.append_empty]
  exact Sw (K6a h x y)
 have key:=F5a (α:=Int×Int) (P:=prog) (f:=135) (gf:=136) (cb:=#[]) He 2 (fun _=>rfl) QAs (fun x y=>Fb x.1 y.1) h hC hN hcmp 105 v xs n QAd hx
 refine key.mono ?_
 rintro u Es h' hle ⟨rfl,ys,hp,hso,rfl⟩
 refine ⟨rfl,ys,hp,hso.imp fun {a b} hab => ?_,rfl⟩
 rw [ltOfM,decide_eq_false_iff_not] at hab
 omega
def memU (x:Ce):List (Int×Int):=x.hs.map (fun p=>(p,x.g.h))++x.as.map fun p=>(p,x.g.a)
theorem Ym {x:Ce}(hx:Dv x){ys:List (Int×Int)}(hp:ys.Perm (memU x))(hs:ys.Pairwise fun a b=>a.1≤b.1):Mi x ys:=by
 obtain ⟨_,_,_,_,_,h1,h2,_,_,h3⟩:=hx
 have hn:((memU x).map (·.1)).Nodup:=by
  unfold memU
  rw [List.map_append,List.map_map,List.map_map]
  refine List.nodup_append.2 ⟨?_,?_,?_⟩
  · rw [show x.hs.map ((fun m:Int×Int=>m.1) ∘ fun p=>(p,x.g.h))=x.hs by simp [Function.comp_def]]
    exact h1.2.2.imp fun {a b} hab e=>by omega
  · rw [show x.as.map ((fun m:Int×Int=>m.1) ∘ fun p=>(p,x.g.a))=x.as by simp [Function.comp_def]]
    exact h2.2.2.imp fun {a b} hab e=>by omega
  · intro a ha b hb e
    simp only [Function.comp_def,List.map_id'] at ha hb
    subst e
    exact h3 a ha hb
 have hn2:(ys.map (·.1)).Nodup:=(hp.map _).nodup_iff.2 hn
 refine ⟨?_,fun m => ?_⟩
 · have h5:ys.Pairwise fun a b=>a.1≠b.1:=List.pairwise_map.1 hn2
   exact (List.pairwise_and_iff.2 ⟨hs,h5⟩).imp fun {a b} ⟨q1,q2⟩=>by omega
 · rw [hp.mem_iff]
   unfold memU
   rw [List.mem_append,List.mem_map,List.mem_map]
   obtain ⟨a,b⟩:=m
   constructor
   · rintro (⟨p,q,e⟩|⟨p,q,e⟩)
     · cases e;exact .inl ⟨q,rfl⟩
     · cases e;exact .inr ⟨q,rfl⟩
   · rintro (⟨q,e⟩|⟨q,e⟩)
     · dsimp only at q e;subst e;exact .inl ⟨a,q,rfl⟩
     · dsimp only at q e;subst e;exact .inr ⟨a,q,rfl⟩
theorem members_c (h:Ro)(s:Fsh)(x:Ce)(hx:Kj h s x)(hok:Dv x):Res prog 88 #[Kq s x] h fun u h'=>∃ A' c',u=.slice A' (Kk x).length c'∧Ar He 2 h' A' (Kk x).length (Kk x)∧Mi x (Kk x):=by
 refine QXR Proofs.Tryz.func88 fun w0 X0=>?_
 have hn1:=hx.hs.len
 have hn2:=hx.as.len
 obtain ⟨l1,l2⟩:x.hs.length≤40∧x.as.length≤40:=⟨hok.2.2.2.2.2.1.1,hok.2.2.2.2.2.2.1.1⟩
 have hh:=hx.hs
 have ha:=hx.as
 repeat' (first|refine QF ?_|(refine QB ?_;intro b)|fail)
 generalize b=b1
 refine Fg 105 2 ?_
 refine Ai (X:=Nat×Option Addr×Nat×Ro) (fun y=>y.1≤s.hs.n∧Le h y.2.2.2) (fun y=>s.hs.n-y.1)
  (fun y=>[(10,.int .i64 y.1),(9,.int .i64 s.hs.n),(8,.slice s.hs.A s.hs.n s.hs.c),(2,.slice y.2.1 y.1 y.2.2.1),(1,Kr b1)])
  (fun y=>[Blk b1 47 (Mn s x),Bd 105 2 (.slice y.2.1 y.1 y.2.2.1) y.1 (((x.hs.take y.1).map (fun p=>(p,x.g.h))).flatMap He)]) (fun y=>y.2.2.2) (0,none,0,h) ⟨by dsimp only;omega,Le.refl _⟩ QS QT rfl ?_
 rintro ⟨k,A4,c4,hk4⟩ ⟨hk,hle⟩ ih
 dsimp only at hk hle ih ⊢
 by_cases hkn:k<s.hs.n
 · have a1:=hh.addrD hkn
   have c1:=(hh.cellsD 0 hkn).le hle
   have et:=Cb 0 (xs:=x.hs) hn1 hkn
   generalize x.hs.getD k 0=p at *
   repeat' (first|refine QF ?_|(apply Af;exact J;exact J;(first|exact QAc|exact QAf);exact QA)|(refine QG ?_;first|(apply Ah (enc:=He) (n:=1) [(p,x.g.h)];(iterate 3 exact J);exact List.cons_ne_nil _ _;(iterate 4 exact J);exact fun _=>rfl;exact J;exact J;intro b5 h5 hle5 hs5)|(apply Ap (enc:=He) (xs:=(x.hs.take k).map (fun p=>(p,x.g.h)));(iterate 7 exact J);exact hs5;exact fun _=>rfl;exact fun x=>Bh rfl;intro v1;exact QR;omega;exact J;intro A5 c5))|(refine QH ?_ ?_<;>intro hc<;>try omega)|fail)
   all_goals first
    | (exfalso;omega)
    | (have h3:=ih (k+1,A5,c5,h5) ⟨by dsimp only;omega,hle.trans hle5⟩ QAh
       dsimp only at h3
       rw [et,List.map_append] at h3
       refine Aj QS QT (h3))
 · rw [List.take_of_length_le QAd]
   have ek:k=s.hs.n:=by omega
   subst ek
   clear ih
   repeat' (first|refine QF ?_|(refine QH ?_ ?_<;>intro hc<;>try omega)|fail)
   all_goals (try (exfalso;omega))
   refine Ai (X:=Nat×Option Addr×Nat×Ro) (fun y=>y.1≤s.as.n∧Le hk4 y.2.2.2) (fun y=>s.as.n-y.1)
    (fun y=>[(26,.int .i64 y.1),(25,.int .i64 s.as.n),(24,.slice s.as.A s.as.n s.as.c),(2,.slice y.2.1 (s.hs.n+y.1) y.2.2.1),(1,Kr b1)])
    (fun y=>[Blk b1 47 (Mn s x),Bd 105 2 (.slice y.2.1 (s.hs.n+y.1) y.2.2.1) (s.hs.n+y.1) ((x.hs.map (fun p=>(p,x.g.h))++(x.as.take y.1).map (fun p=>(p,x.g.a))).flatMap He)]) (fun y=>y.2.2.2) (0,A4,c4,hk4) ⟨by dsimp only;omega,Le.refl _⟩ QS (by rw [List.take_zero,List.map_nil,List.append_nil];exact QT) rfl ?_
   rintro ⟨k,A6,c6,hk6⟩ ⟨hk,hle2⟩ ih
   dsimp only at hk hle2 ih ⊢
   by_cases hkn:k<s.as.n
   · have a1:=ha.addrD hkn
     have c1:=(ha.cellsD 0 hkn).le (hle.trans hle2)
     have et:=Cb 0 (xs:=x.as) hn2 hkn
     generalize x.as.getD k 0=p at *
     repeat' (first|refine QF ?_|(apply Af;exact J;exact J;(first|exact QAc|exact QAf);exact QA)|(refine QG ?_;first|(apply Ah (enc:=He) (n:=1) [(p,x.g.a)];(iterate 3 exact J);exact List.cons_ne_nil _ _;(iterate 4 exact J);exact fun _=>rfl;exact J;exact J;intro b5 h5 hle5 hs5)|(apply Ap (enc:=He) (xs:=x.hs.map (fun p=>(p,x.g.h))++(x.as.take k).map (fun p=>(p,x.g.a)));(iterate 7 exact J);exact hs5;exact fun _=>rfl;exact fun x=>Bh rfl;intro v1;exact QR;omega;exact J;intro A5 c5))|(refine QH ?_ ?_<;>intro hc<;>try omega)|fail)
     all_goals first
      | (exfalso;omega)
      | (have h3:=ih (k+1,A5,c5,h5) ⟨by dsimp only;omega,hle2.trans hle5⟩ QAh
         dsimp only at h3
         rw [et,List.map_append,← List.append_assoc] at h3
         refine Aj QS QT (h3))
   · rw [List.take_of_length_le QAd]
     have ek:k=s.as.n:=by omega
     subst ek
     clear ih
     have hml:(memU x).length=s.hs.n+s.as.n:=by unfold memU;rw [List.length_append,List.length_map,List.length_map,hn1,hn2]
     rw [show x.hs.map (fun p=>(p,x.g.h))++x.as.map (fun p=>(p,x.g.a))=memU x from rfl]
     repeat' (first|refine QF ?_|(refine QG ?_;first|(apply Be;exact J;exact has135;exact sortM_c _ _ (memU x) (s.hs.n+s.as.n) QAd hml;exact QT;rintro vs Es9 h9 hle9 ⟨rfl,ys,hpm,hso,rfl⟩))|(refine QH ?_ ?_<;>intro hc<;>try omega)|fail)
     all_goals (try (exfalso;omega))
     have hyl:ys.length=s.hs.n+s.as.n:=by rw [hpm.length_eq,hml]
     refine El (enc:=He) (e:=105) (sz:=2) (n:=s.hs.n+s.as.n) (xs:=ys) (fun _=>rfl) hyl QK ?_
     intro A7 c7 h7 hle7 e7 hnc7 hs7
     cases e7
     have him:=Ym hok hpm hso
     have hye:=Gia him
     rw [← hye]
     rw [← hyl] at hs7
     skip
     all_goals first
      | (exact Ay rfl rfl rfl ⟨A6,c6,by rw [hyl],hs7,him⟩)
end Go.Hw
