import Derived.Test.YtlnenhhbalpbpaaGreatDoorGA
import Derived.Test.YtlnenhhbalpbpaaGreatDoorHC
import Derived.Test.YtlnenhhbalpbpaaGreatDoorMSh
import Derived.Lib.ItoaLen
set_option linter.all false
set_option maxRecDepth 100000
set_option maxHeartbeats 4000000
namespace Go.Hw
open Go
attribute [local irreducible] GO GOl GDp Val Fn Res Ab Du Blk Bd Cd Bf Has
open Go.Proofs.Tryz (prog)
open Classical in
theorem kk1_c (h:Ro)(s:Fsh)(f:Fct)(hf:FAt h s f)(hs:FSm f):Val prog 148 #[Br s f] h (.bool (decide (Mda f))):=by
 refine QXV Proofs.Tryz.func148 fun w0 X0=>?_
 obtain ⟨n1,n2,n3,n4,n5,n6⟩:=hf.small hs
 repeat' (first|refine QF ?_|(refine QB ?_;intro b)|(refine QG ?_;first|(apply Aa;exact J;exact has149;exact Gza _ s f hf.cl QAd (by have:=hs.2.2.2;omega)))|(apply Ac;(iterate 3 exact J)))
 all_goals rfl
theorem kk3_c (h:Ro)(s:Fsh)(f:Fct):Val prog 151 #[Br s f] h (.bool (decide (Dh f.fg∧Bel f.venue 4096))):=by
 refine QXV Proofs.Tryz.func151 fun w0 X0=>?_
 repeat' (first|refine QF ?_|(refine QB ?_;intro b)|(refine QG ?_;first|(apply Aa;exact J;exact has26;exact Wm _ f.fg)|(refine QBz ?_))|refine QJ ?_|(refine QI ?_ ?_<;>intro hc<;>try omega)|(apply Ac;(iterate 3 exact J)))
 all_goals (refine Bg ?_;grind)
open Classical in
theorem kk5_c (h:Ro)(s:Fsh)(f:Fct)(hf:FAt h s f)(hs:FSm f):Val prog 153 #[Br s f] h (.bool (decide (Dv f.sh))):=by
 refine QXV Proofs.Tryz.func153 fun w0 X0=>?_
 repeat' (first|refine QF ?_|(refine QB ?_;intro b)|(refine QG ?_;first|(apply Aa;exact J;exact has154;exact sheet7_c _ s f.sh hf.sh hs.1))|(apply Ac;(iterate 3 exact J)))
 all_goals rfl
open Classical in
theorem kk7_c (h:Ro)(s:Fsh)(f:Fct):Val prog 156 #[Br s f] h (.bool (decide (If f.ru))):=by
 refine QXV Proofs.Tryz.func156 fun w0 X0=>?_
 repeat' (first|refine QF ?_|(refine QB ?_;intro b)|(refine QG ?_;first|(apply Aa;exact J;exact has157;exact ruling_c _ f.ru))|(apply Ac;(iterate 3 exact J)))
 all_goals rfl
theorem kk9_c (h:Ro)(s:Fsh)(f:Fct):Val prog 159 #[Br s f] h (.bool (decide (1≤f.aCase∧f.aCase≤1048576∧1≤f.aInst∧f.aInst<3))):=by
 refine QXV Proofs.Tryz.func159 fun w0 X0=>?_
 repeat' (first|refine QF ?_|(refine QB ?_;intro b)|refine QJ ?_|(refine QI ?_ ?_<;>intro hc<;>try omega)|(apply Ac;(iterate 3 exact J)))
 all_goals (refine Bg ?_;(try rw [ltI_t]);grind)
theorem kk11_c (h:Ro)(s:Fsh)(f:Fct):Val prog 161 #[Br s f] h (.bool (decide (Bel f.mP 8192∧(f.mTo = -1∨Bel f.mTo 192)))):=by
 refine QXV Proofs.Tryz.func161 fun w0 X0=>?_
 repeat' (first|refine QF ?_|(refine QB ?_;intro b)|(refine QG ?_;first|(apply Aa;exact J;exact has162;exact Vq _ _)|(refine QDp ?_))|refine QJ ?_|(refine QI ?_ ?_<;>intro hc<;>try omega)|(apply Ac;(iterate 3 exact J)))
 all_goals (refine Bg ?_;(try rw [Ib]);grind)
open Classical in
theorem kk13_c (h:Ro)(s:Fsh)(f:Fct)(hf:FAt h s f)(hs:FSm f):Val prog 164 #[Br s f] h (.bool (decide (Maa f))):=by
 refine QXV Proofs.Tryz.func164 fun w0 X0=>?_
 obtain ⟨n1,n2,n3,n4,n5,n6⟩:=hf.small hs
 repeat' (first|refine QF ?_|(refine QB ?_;intro b)|(refine QG ?_;first|(apply Aa;exact J;exact has165;exact lot7_c _ s f hf.lo QAd))|(apply Ac;(iterate 3 exact J)))
 all_goals rfl
theorem kk15_c (h:Ro)(s:Fsh)(f:Fct):Val prog 167 #[Br s f] h (.bool true):=by
 refine QXV Proofs.Tryz.func167 fun w0 X0=>?_
 repeat' (first|refine QF ?_|(refine QB ?_;intro b)|(apply Ac;(iterate 3 exact J)))
 all_goals rfl
theorem kk2_c (h:Ro)(bq:Nat)(s t:Fsh)(f x:Fct):Fn prog 150 #[Br s f,.pointer (some ⟨bq,0,none⟩)] [Blk bq 57 (Df t x)] h (Gj bq 57 (Df { t with cl:=s.cl } { x with eS:=f.eS,eC:=f.eC,eClubs:=f.eClubs,eRules:=f.eRules })):=by
 refine QXF Proofs.Tryz.func150 fun w0 X0=>?_
 repeat' (first|refine QFs ?_|(refine QB ?_;intro b)|fail)
 exact Ck (Es':=[Blk bq 57 (Df { t with cl:=s.cl } { x with eS:=f.eS,eC:=f.eC,eClubs:=f.eClubs,eRules:=f.eRules })]) QT (Fh (rs:=[]) (vs:=[]) rfl rfl trivial ⟨rfl,rfl⟩)
theorem kk4_c (h:Ro)(bq:Nat)(s t:Fsh)(f x:Fct):Fn prog 152 #[Br s f,.pointer (some ⟨bq,0,none⟩)] [Blk bq 57 (Df t x)] h (Gj bq 57 (Df t { x with fg:=f.fg,venue:=f.venue })):=by
 refine QXF Proofs.Tryz.func152 fun w0 X0=>?_
 repeat' (first|refine QFs ?_|(refine QB ?_;intro b)|fail)
 exact Ck (Es':=[Blk bq 57 (Df t { x with fg:=f.fg,venue:=f.venue })]) QT (Fh (rs:=[]) (vs:=[]) rfl rfl trivial ⟨rfl,rfl⟩)
theorem kk6_c (h:Ro)(bq:Nat)(s t:Fsh)(f x:Fct):Fn prog 155 #[Br s f,.pointer (some ⟨bq,0,none⟩)] [Blk bq 57 (Df t x)] h (Gj bq 57 (Df { t with hs:=s.hs,«as»:=s.as,hc:=s.hc,ac:=s.ac } { x with sh:=f.sh })):=by
 refine QXF Proofs.Tryz.func155 fun w0 X0=>?_
 repeat' (first|refine QFs ?_|(refine QB ?_;intro b)|fail)
 exact Ck (Es':=[Blk bq 57 (Df { t with hs:=s.hs,«as»:=s.as,hc:=s.hc,ac:=s.ac } { x with sh:=f.sh })]) QT (Fh (rs:=[]) (vs:=[]) rfl rfl trivial ⟨rfl,rfl⟩)
theorem kk8_c (h:Ro)(bq:Nat)(s t:Fsh)(f x:Fct):Fn prog 158 #[Br s f,.pointer (some ⟨bq,0,none⟩)] [Blk bq 57 (Df t x)] h (Gj bq 57 (Df t { x with ru:=f.ru })):=by
 refine QXF Proofs.Tryz.func158 fun w0 X0=>?_
 repeat' (first|refine QFs ?_|(refine QB ?_;intro b)|fail)
 exact Ck (Es':=[Blk bq 57 (Df t { x with ru:=f.ru })]) QT (Fh (rs:=[]) (vs:=[]) rfl rfl trivial ⟨rfl,rfl⟩)
theorem kk10_c (h:Ro)(bq:Nat)(s t:Fsh)(f x:Fct):Fn prog 160 #[Br s f,.pointer (some ⟨bq,0,none⟩)] [Blk bq 57 (Df t x)] h (Gj bq 57 (Df t { x with aCase:=f.aCase,aInst:=f.aInst,aSusp:=f.aSusp })):=by
 refine QXF Proofs.Tryz.func160 fun w0 X0=>?_
 repeat' (first|refine QFs ?_|(refine QB ?_;intro b)|fail)
 exact Ck (Es':=[Blk bq 57 (Df t { x with aCase:=f.aCase,aInst:=f.aInst,aSusp:=f.aSusp })]) QT (Fh (rs:=[]) (vs:=[]) rfl rfl trivial ⟨rfl,rfl⟩)
theorem kk12_c (h:Ro)(bq:Nat)(s t:Fsh)(f x:Fct):Fn prog 163 #[Br s f,.pointer (some ⟨bq,0,none⟩)] [Blk bq 57 (Df t x)] h (Gj bq 57 (Df t { x with mP:=f.mP,mTo:=f.mTo })):=by
 refine QXF Proofs.Tryz.func163 fun w0 X0=>?_
 repeat' (first|refine QFs ?_|(refine QB ?_;intro b)|fail)
 exact Ck (Es':=[Blk bq 57 (Df t { x with mP:=f.mP,mTo:=f.mTo })]) QT (Fh (rs:=[]) (vs:=[]) rfl rfl trivial ⟨rfl,rfl⟩)
theorem kk14_c (h:Ro)(bq:Nat)(s t:Fsh)(f x:Fct):Fn prog 166 #[Br s f,.pointer (some ⟨bq,0,none⟩)] [Blk bq 57 (Df t x)] h (Gj bq 57 (Df { t with lo:=s.lo } { x with lS:=f.lS,lC:=f.lC,lO:=f.lO })):=by
 refine QXF Proofs.Tryz.func166 fun w0 X0=>?_
 repeat' (first|refine QFs ?_|(refine QB ?_;intro b)|fail)
 exact Ck (Es':=[Blk bq 57 (Df { t with lo:=s.lo } { x with lS:=f.lS,lC:=f.lC,lO:=f.lO })]) QT (Fh (rs:=[]) (vs:=[]) rfl rfl trivial ⟨rfl,rfl⟩)
theorem kk16_c (h:Ro)(bq:Nat)(s t:Fsh)(f x:Fct):Fn prog 168 #[Br s f,.pointer (some ⟨bq,0,none⟩)] [Blk bq 57 (Df t x)] h (Gj bq 57 (Df t { x with void:=f.void })):=by
 refine QXF Proofs.Tryz.func168 fun w0 X0=>?_
 repeat' (first|refine QFs ?_|(refine QB ?_;intro b)|fail)
 exact Ck (Es':=[Blk bq 57 (Df t { x with void:=f.void })]) QT (Fh (rs:=[]) (vs:=[]) rfl rfl trivial ⟨rfl,rfl⟩)
def D2a:List (Int×(Value×Value)):=kL [
 (1,(fnV 148 [],fnV 150 [])),
 (2,(fnV 151 [],fnV 152 [])),
 (3,(fnV 153 [],fnV 155 [])),
 (4,(fnV 156 [],fnV 158 [])),
 (5,(fnV 159 [],fnV 160 [])),
 (6,(fnV 161 [],fnV 163 [])),
 (7,(fnV 164 [],fnV 166 [])),
 (8,(fnV 167 [],fnV 168 []))]
theorem kinds_c (h:Ro):Fn prog 99 #[] [] h fun v Es h'=>∃ bm,v=.map (some bm)∧Es=[Cd (fun i:Int=>.int .i64 i) shV bm D2a]:=by
 refine QXF Proofs.Tryz.func99 fun w0 X0=>?_
 repeat' (first|refine QF ?_|(refine QG ?_;first|(apply Eu (fun i:Int=>.int .i64 i) shV;intro bm)|(apply Aia K7;(iterate 5 exact J);exact QR))|fail)
 exact Bi rfl rfl rfl (List.Sublist.refl _) ⟨bm,rfl,rfl⟩
theorem Ze (k:Int):Cf k D2a =
  if 8=k then some (fnV 167 [],fnV 168 [])
  else if 7=k then some (fnV 164 [],fnV 166 [])
  else if 6=k then some (fnV 161 [],fnV 163 [])
  else if 5=k then some (fnV 159 [],fnV 160 [])
  else if 4=k then some (fnV 156 [],fnV 158 [])
  else if 3=k then some (fnV 153 [],fnV 155 [])
  else if 2=k then some (fnV 151 [],fnV 152 [])
  else if 1=k then some (fnV 148 [],fnV 150 [])
  else none:=by
 unfold D2a kL
 simp only [List.foldl_cons,List.foldl_nil,Si,Cf]
def Ca (f:Fct):Fct:={ Ef with kind:=f.kind,day:=f.day,known:=f.known }
def FctK (s:Fsh) (f:Fct) (g kf:Nat) (gb:Bool) (s':Fsh):Prop :=
 Cf f.kind D2a=some (fnV g [],fnV kf [])∧Has prog g∧Has prog kf∧(gb=true↔Cw f)∧(∀ h',FAt h' s f→Val prog g ([]++[Br s f]++[]).toArray h' (.bool gb)) ∧
 ((∀ h',FAt h' s f→FAt h' s' (Lo f))∧FSm (Lo f)) ∧
 ∀ h' bq,Fn prog kf ([]++[Br s f,.pointer (some ⟨bq,0,none⟩)]++[]).toArray [Blk bq 57 (Df Ga (Ca f))] h' (Gj bq 57 (Df s' (Lo f)))
theorem Mz {s:Fsh}{f:Fct}{g kf:Nat}{gb:Bool}{s':Fsh}{x:Fct}(hl:Cf f.kind D2a=some (fnV g [],fnV kf []))(hg:Has prog g)(hk:Has prog kf)(hgb:gb=true↔Cw f)
 (hv:∀ h',FAt h' s f→Val prog g ([]++[Br s f]++[]).toArray h' (.bool gb)) (hx:x=Lo f) (ha:(∀ h',FAt h' s f→FAt h' s' x)∧FSm x)
 (hf:∀ h' bq,Fn prog kf ([]++[Br s f,.pointer (some ⟨bq,0,none⟩)]++[]).toArray [Blk bq 57 (Df Ga (Ca f))] h' (Gj bq 57 (Df s' x))) :
 ∃ g kf gb s',FctK s f g kf gb s':=⟨g,kf,gb,s',hl,hg,hk,hgb,hv,hx ▸ ha,hx ▸ hf⟩
theorem Qi:Tu Fd:=by unfold Tu Fd;simp
open Classical in
theorem fct_kind (s:Fsh)(f:Fct)(hs:FSm f)(hk:1≤f.kind∧f.kind≤8):∃ g kf gb s',FctK s f g kf gb s':=by
 have:f.kind=1∨f.kind=2∨f.kind=3∨f.kind=4∨f.kind=5∨f.kind=6∨f.kind=7∨f.kind=8:=by omega
 rcases this with e|e|e|e|e|e|e|e
 · exact Mz (s':={ Ga with cl:=s.cl }) (x:={ Ca f with eS:=f.eS,eC:=f.eC,eClubs:=f.eClubs,eRules:=f.eRules }) QC0 has148 has150 QCd (fun h' a=>kk1_c h' s f a hs) QA7 (⟨fun h' a=>⟨⟨Ar.nil,Ar.nil,Ar.nil,Ar.nil⟩,a.cl,Ar.nil,rfl,Nat.le_refl _⟩,Qi,hs.2.1,by simp [Ca,Ef],hs.2.2.2⟩) (fun h' bq=>kk2_c h' bq s Ga f (Ca f))
 · exact Mz (s':=Ga) (x:={ Ca f with fg:=f.fg,venue:=f.venue }) QC0 has151 has152 QCd (fun h' a=>kk3_c h' s f) QA7 (⟨fun h' a=>⟨Kj.nil h',Ar.nil,Ar.nil,rfl,Nat.le_refl _⟩,Qi,by simp [Ca,Ef],by simp [Ca,Ef],by simp [Ca,Ef]⟩) (fun h' bq=>kk4_c h' bq s Ga f (Ca f))
 · exact Mz (s':={ Ga with hs:=s.hs,«as»:=s.as,hc:=s.hc,ac:=s.ac }) (x:={ Ca f with sh:=f.sh }) QC0 has153 has155 QCd (fun h' a=>kk5_c h' s f a hs) QA7 (⟨fun h' a=>⟨⟨a.sh.hs,a.sh.as,a.sh.hc,a.sh.ac⟩,Ar.nil,Ar.nil,rfl,Nat.le_refl _⟩,hs.1,by simp [Ca,Ef],by simp [Ca,Ef],by simp [Ca,Ef]⟩) (fun h' bq=>kk6_c h' bq s Ga f (Ca f))
 · exact Mz (s':=Ga) (x:={ Ca f with ru:=f.ru }) QC0 has156 has158 QCd (fun h' a=>kk7_c h' s f) QA7 (⟨fun h' a=>⟨Kj.nil h',Ar.nil,Ar.nil,rfl,Nat.le_refl _⟩,Qi,by simp [Ca,Ef],by simp [Ca,Ef],by simp [Ca,Ef]⟩) (fun h' bq=>kk8_c h' bq s Ga f (Ca f))
 · exact Mz (s':=Ga) (x:={ Ca f with aCase:=f.aCase,aInst:=f.aInst,aSusp:=f.aSusp }) QC0 has159 has160 QCd (fun h' a=>kk9_c h' s f) QA7 (⟨fun h' a=>⟨Kj.nil h',Ar.nil,Ar.nil,rfl,Nat.le_refl _⟩,Qi,by simp [Ca,Ef],by simp [Ca,Ef],by simp [Ca,Ef]⟩) (fun h' bq=>kk10_c h' bq s Ga f (Ca f))
 · exact Mz (s':=Ga) (x:={ Ca f with mP:=f.mP,mTo:=f.mTo }) QC0 has161 has163 QCd (fun h' a=>kk11_c h' s f) QA7 (⟨fun h' a=>⟨Kj.nil h',Ar.nil,Ar.nil,rfl,Nat.le_refl _⟩,Qi,by simp [Ca,Ef],by simp [Ca,Ef],by simp [Ca,Ef]⟩) (fun h' bq=>kk12_c h' bq s Ga f (Ca f))
 · exact Mz (s':={ Ga with lo:=s.lo }) (x:={ Ca f with lS:=f.lS,lC:=f.lC,lO:=f.lO }) QC0 has164 has166 QCd (fun h' a=>kk13_c h' s f a hs) QA7 (⟨fun h' a=>⟨⟨Ar.nil,Ar.nil,Ar.nil,Ar.nil⟩,Ar.nil,a.lo,rfl,a.lc⟩,Qi,by simp [Ca,Ef],hs.2.2.1,by simp [Ca,Ef]⟩) (fun h' bq=>kk14_c h' bq s Ga f (Ca f))
 · exact Mz (s':=Ga) (x:={ Ca f with void:=f.void }) QC0 has167 has168 (by rw [Cw,e];simp) (fun h' a=>kk15_c h' s f) QA7 (⟨fun h' a=>⟨Kj.nil h',Ar.nil,Ar.nil,a.void,Nat.le_refl _⟩,Qi,by simp [Ca,Ef],by simp [Ca,Ef],by simp [Ca,Ef]⟩) (fun h' bq=>kk16_c h' bq s Ga f (Ca f))
theorem Jz (f:Fct)(hk:¬ (1≤f.kind∧f.kind≤8)):Cf f.kind D2a=none∧¬ Cw f:=by
 constructor
 · rw [Ze]
   repeat rw [if_neg QAd]
 · rw [Cw]
   repeat rw [if_neg QAd]
   omega
open Classical in
theorem Ob (h:Ro)(s:Fsh)(f:Fct)(hf:FAt h s f)(hs:FSm f):Val prog 58 #[Br s f] h (.int .i64 (if Bm f then 0 else 70)):=by
 refine QXV Proofs.Tryz.func58 fun w0 X0=>?_
 by_cases hk:1≤f.kind∧f.kind≤8
 · obtain ⟨g,kf,gb,s',hl,hg,hkf,hgb,hv,⟨hat,hsm⟩,hfn⟩:=fct_kind s f hs hk
   repeat' (first|refine QFs ?_|(refine QB ?_;intro b)|(refine QG ?_;first|(apply Cr (f:=g) (fs:=[]) (cs:=[]);exact J;exact J;exact hg;exact hv _ (hf.le QAa))|(apply Fo (f:=kf) (fs:=[]) (cs:=[]);exact J;exact J;exact hkf;exact hfn _ _;exact QT;rintro v1 E1 h1 hle1 ⟨rfl,rfl⟩)|(apply Aa;exact J;exact has101;exact same7_c _ s' (Lo f) (hat _ (hf.le QAa)) hsm s f (hf.le QAa) hs)|(apply Aa;exact J;exact has100;exact day7_c _ _))|(apply Ad (n:=1) [0,1,2,3,4,5,7,8,6,9] [(1,0),(2,0),(0,2),(7,7),(3,0),(4,0),(5,0),(6,0),(7,1),(8,1),(9,0),(0,1),(3,0),(4,0),(5,0),(6,0),(8,1),(9,0)];kernel_rfl)|(apply Bk;exact J;kernel_rfl;exact J;exact J;(first|(apply Hb (ek:=fun i:Int=>.int .i64 i) (ev:=shV) (key:=f.kind) (m:=D2a) (r:=some (fnV g [],fnV kf [])) K7;(iterate 5 exact J);exact hl));exact QA)|(apply Ao;exact J;kernel_rfl;(iterate 3 exact J);(first|(refine QD3 ?_;rintro v0 E0 h0 hle0 ⟨bm,rfl,rfl⟩;refine ⟨hle0,QN,?_⟩)))|(apply Hi;kernel_rfl;exact J;exact J)|(apply Cq;(iterate 4 exact J);(first|(refine QD3 ?_;rintro v0 E0 h0 hle0 ⟨bm,rfl,rfl⟩;refine ⟨hle0,QN,?_⟩)))|(refine QH ?_ ?_<;>intro hc<;>try omega)|refine QJ ?_|(refine QI ?_ ?_<;>intro hc<;>try omega)|fail)
   all_goals (first|(apply Ac;(iterate 3 exact J)))
   all_goals (first|(rw [if_pos (show Bm f from by unfold Bm;grind)];done)|(rw [if_neg (show ¬ Bm f from by unfold Bm;grind)];done))
 · repeat' (first|refine QFs ?_|(refine QB ?_;intro b)|(apply Ad (n:=1) [0,1,2,3,4,5,7,8,6,9] [(1,0),(2,0),(0,2),(7,7),(3,0),(4,0),(5,0),(6,0),(7,1),(8,1),(9,0),(0,1),(3,0),(4,0),(5,0),(6,0),(8,1),(9,0)];kernel_rfl)|(apply Bk;exact J;kernel_rfl;exact J;exact J;(first|(apply Hb (ek:=fun i:Int=>.int .i64 i) (ev:=shV) (key:=f.kind) (m:=D2a) (r:=none) K7;(iterate 5 exact J);exact (Jz f hk).1));exact QA)|(apply Ao;exact J;kernel_rfl;(iterate 3 exact J);(first|(refine QD3 ?_;rintro v0 E0 h0 hle0 ⟨bm,rfl,rfl⟩;refine ⟨hle0,QN,?_⟩)))|(apply Hi;kernel_rfl;exact J;exact J)|(apply Cq;(iterate 4 exact J);(first|(refine QD3 ?_;rintro v0 E0 h0 hle0 ⟨bm,rfl,rfl⟩;refine ⟨hle0,QN,?_⟩)))|(refine QH ?_ ?_<;>intro hc<;>try omega)|fail)
   all_goals (first|(apply Ac;(iterate 3 exact J)))
   all_goals (rw [if_neg (show ¬ Bm f from fun hh=>(Jz f hk).2 hh.2.2.1)])
end Go.Hw
namespace Go.Hw
open Go
attribute [local irreducible] GO GOl GDp Val Fn Res Ab Du Blk Bd Cd Bf Has
open Go.Proofs.Tryz (prog)
def Iv (h:Ro):Prop:=VarG prog h "internal/strconv.uint64pow10" (Lib.pow10Tab.map fun z=>.int .u64 z)
theorem Iv.le {h h':Ro}(g:Iv h)(hl:Le h h'):Iv h':=VarG.le g hl
theorem small7_c (h:Ro)(u:Nat)(hu:u<100):Val prog 349 #[.int .i64 u] h (.string (str (Lib.decDigits u))) :=
 Ts fun w _=>Go.Proofs.Tryz.internal_strconv_small u hu w
theorem nd7_c (h:Ro)(hG:Iv h)(u:Nat)(h1:1≤u)(h2:u<18446744073709551616):Val prog 350 #[.int .u64 u] h (.int .i64 (Lib.nDigits u)) :=
 Ts fun w hl=>Go.Proofs.Tryz.internal_strconv_numDigits u h1 h2 w (hG.tab hl)
theorem fmt7_c (h:Ro)(b u:Nat)(hu1:1≤u)(hu:u<18446744073709551616):Fn prog 351 #[.slice (some ⟨b,0,none⟩) (Lib.nDigits u) 24,.int .u64 u] [Blk b 334 (List.replicate 24 (.int .u8 0))] h
  fun v Es _=>v=.tuple #[]∧Es=[Blk b 334 ((Lib.decDigits u).flatMap Ev++List.replicate (24-Lib.nDigits u) (.int .u8 0))]:=by
 have hn20:Lib.nDigits u≤20:=by have:=Lib.numDigits_eq u hu1 hu;split at this <;> omega
 have e:List.replicate 24 (Value.int .u8 0)=List.replicate (Lib.nDigits u) (Value.int .u8 0)++List.replicate (24-Lib.nDigits u) (Value.int .u8 0):=by
  rw [List.replicate_append_replicate];congr 1;omega
 rw [e]
 exact fmtFn (fun blk off cap u d w=>Go.Proofs.Tryz.internal_strconv_formatBase10 blk off cap u d w) h b _ 24 u _ _ hu1 hu rfl
theorem Ab.pre {h:Ro}{ad:Addr}{vs us:List Value}(c:Ab h ad (vs++us)):Ab h ad vs:=by
 unfold Ab at c ⊢
 exact fun j v e=>c j v (by rw [List.getElem?_append_left (List.getElem?_eq_some_iff.1 e).1];exact e)
theorem encB_one:∀ x,∀ u∈Ev x,u.oneCell'=true:=fun x=>Bh rfl
theorem Pk (l:List UInt8):∀ u∈l.flatMap Ev,u.oneCell'=true:=fun u hu=>by
 obtain ⟨x,_,h2⟩:=List.mem_flatMap.1 hu
 exact encB_one x u h2
theorem fmB_len (l:List UInt8):(l.flatMap Ev).length=l.length * 1:=Cc (sz:=1) (fun _=>rfl) l
def Fl (n:Nat) (xs:List Value) (l:List UInt8):Value→List Asn→Ro→Prop:=fun v Es _ =>
 ∃ A c,v=.slice A (n+l.length) c∧Es=[Bd 5 1 (.slice A (n+l.length) c) (n+l.length) (xs++l.flatMap Ev)]
theorem appU_c (h:Ro)(hG:Iv h)(sv:Value)(n:Nat)(xs:List Value)(u:Nat)(hu:u<18446744073709551616)(hn:n≤900000000):Fn prog 335 #[sv,.int .u64 u,.int .i64 10] [Bd 5 1 sv n xs] h (Fl n xs (Lib.decDigits u)):=by
 refine QXF Proofs.Tryz.func335 fun w0 X0=>?_
 have hdl:(Lib.decDigits u).length=Lib.nDigits u:=Lib.decDigits_length u
 by_cases h100:u<100
 · have hs:=small7_c h u h100
   rw [← Wf (u:Int) QAd] at hs
   have hl2:(Lib.decDigits u).length≤20:=by
    by_cases h0:u=0
    · subst h0;rw [Lib.decDigits,dif_pos QAd];simp
    · rw [hdl];have:=Lib.numDigits_eq u QAd hu;split at this <;> omega
   repeat' (first|refine QF ?_|(refine QG ?_;first|(apply Aa;exact J;exact has349;exact hs)|(apply Tw;(iterate 10 exact J);intro v1;exact QR;omega;intro A1 c1))|(refine QH ?_ ?_<;>intro hc<;>try omega)|fail)
   exact Bi rfl rfl rfl (List.Sublist.refl _) ⟨A1,c1,rfl,rfl⟩
 · have h1:1≤u:=by omega
   have hn20:Lib.nDigits u≤20:=by have:=Lib.numDigits_eq u h1 hu;split at this <;> omega
   have hf:=fun b=>fmt7_c h b u h1 hu
   have hq:=fmB_len (Lib.decDigits u)
   repeat' (first|refine QF ?_|(apply Af;exact J;exact J;(first|(apply Hoa (n:=Lib.nDigits u);(iterate 6 exact J);omega));exact QA)|(refine QB ?_;intro b)|(refine QG ?_;first|(apply Aa;exact J;exact has350;exact nd7_c _ hG u h1 hu)|(apply Be;exact J;exact has351;exact hf _;exact QT;rintro v0 E0 h0 hle0 ⟨rfl,rfl⟩)|(refine Bv QK ?_;intro h2 hle2 hc2;apply Fj (cs:=(Lib.decDigits u).flatMap Ev);(iterate 7 exact J);exact hc2.pre;intro v1;exact QR;(rw [hq,hdl];rfl);exact Pk _;omega;exact J;intro A1 c1))|(refine QH ?_ ?_<;>intro hc<;>try omega)|fail)
   all_goals (try (exfalso;omega))
   rw [← hdl]
   exact Bi rfl rfl rfl (List.Sublist.refl _) ⟨A1,c1,rfl,rfl⟩
theorem grew_two {n:Nat}{xs:List Value}{a b:List UInt8}{v:Value}{Es:List Asn}{h:Ro}(g:Fl (n+a.length) (xs++a.flatMap Ev) b v Es h):Fl n xs (a++b) v Es h:=by
 obtain ⟨A,c,rfl,rfl⟩:=g
 refine ⟨A,c,?_,?_⟩
 · rw [List.length_append,Nat.add_assoc]
 · rw [List.length_append,Nat.add_assoc,List.flatMap_append,List.append_assoc]
theorem appI_c (h:Ro)(hG:Iv h)(sv:Value)(n:Nat)(xs:List Value)(i:Int)(h0 : -9223372036854775808≤i)(h1:i≤9223372036854775807)(hn:n≤800000000):Fn prog 308 #[sv,.int .i64 i,.int .i64 10] [Bd 5 1 sv n xs] h (Fl n xs (Lib.itoa i)):=by
 refine QXF Proofs.Tryz.func308 fun w0 X0=>?_
 by_cases hi:i<0
 · have ei:Lib.itoa i=[45]++Lib.decDigits i.natAbs:=by unfold Lib.itoa;rw [if_pos hi];rfl
   have ew:IntKind.u64.wrap (0-IntKind.u64.wrap i)=(i.natAbs:Int):=by rw [IntKind.wrap_u64,IntKind.wrap_u64];omega
   have hcon:∀ h' sv,Le h h'→Fn prog 335 #[sv,.int .u64 (IntKind.u64.wrap (0-IntKind.u64.wrap i)),.int .i64 10] [Bd 5 1 sv (n+1) (xs++[(45:UInt8)].flatMap Ev)] h' (Fl (n+1) (xs++[(45:UInt8)].flatMap Ev) (Lib.decDigits i.natAbs)):=fun h' sv hle=>by
    rw [ew];exact appU_c h' (hG.le hle) sv (n+1) _ i.natAbs QAd QAd
   repeat' (first|refine QF ?_|(refine QG ?_;first|(apply Bb;(iterate 3 exact J);exact List.cons_ne_nil _ _;(iterate 4 exact J);intro b1 h1 hle1 hcs1)|(apply Fj (cs:=[(45:UInt8)].flatMap Ev);(iterate 7 exact J);exact hcs1;intro v1;exact QR;exact J;exact Pk _;omega;exact J;intro A1 c1)|(apply Be;exact J;exact has335;exact hcon _ _ QAa;exact QT;rintro v2 E2 h2 hle2 hg))|(refine QH ?_ ?_<;>intro hc<;>try omega)|fail)
   have hg':Fl (n+[(45:UInt8)].length) (xs++[(45:UInt8)].flatMap Ev) (Lib.decDigits i.natAbs) v2 E2 h2:=hg
   rw [ei]
   exact Bi rfl rfl rfl (List.sublist_append_left _ _) (grew_two hg')
 · have ei:Lib.itoa i=Lib.decDigits i.toNat:=by unfold Lib.itoa;rw [if_neg hi]
   have ew:IntKind.u64.wrap i=(i.toNat:Int):=by rw [IntKind.wrap_u64];omega
   have hcon:Fn prog 335 #[sv,.int .u64 (IntKind.u64.wrap i),.int .i64 10] [Bd 5 1 sv n xs] h (Fl n xs (Lib.decDigits i.toNat)):=by
    rw [ew];exact appU_c h hG sv n _ i.toNat QAd QAd
   repeat' (first|refine QF ?_|(refine QG ?_;first|(apply Be;exact J;exact has335;exact hcon;exact QT;rintro v2 E2 h2 hle2 hg))|(refine QH ?_ ?_<;>intro hc<;>try omega)|fail)
   rw [ei]
   exact Bi rfl rfl rfl (List.sublist_append_left _ _) hg
theorem J0a (h:Ro)(hG:Iv h)(sv:Value)(n:Nat)(xs:List Value)(i:Int)(h0 : -9223372036854775808≤i)(h1:i≤9223372036854775807)(hn:n≤800000000):Fn prog 235 #[sv,.int .i64 i,.int .i64 10] [Bd 5 1 sv n xs] h (Fl n xs (Lib.itoa i)):=by
 refine QXF Proofs.Tryz.func235 fun w0 X0=>?_
 repeat' (first|refine QF ?_|(refine QG ?_;first|(apply Be;exact J;exact has308;exact appI_c h hG sv n xs i h0 h1 hn;exact QT;rintro v2 E2 h2 hle2 hg))|fail)
 exact Bi rfl rfl rfl (List.sublist_append_left _ _) hg
end Go.Hw
namespace Go.Hw
open Go
attribute [local irreducible] GO GOl GDp Val Fn Res Ab Du Blk Bd Cd Bf Has
open Go.Proofs.Tryz (prog)
structure Va where
 k:Int
 n:Int
 s:List UInt8
 L:Sli
 K:Sli
def vaC (v:Va):List Value:=[.int .i64 v.k,.int .i64 v.n,.string (str v.s),.slice v.L.A v.L.n v.L.c,.slice v.K.A v.K.n v.K.c]
def vaV (v:Va):Value:=.agg (vaC v).toArray
def G0a (s:List UInt8):List Value:=[.string (str s)]
def Ch {α β:Type} (P:α→β→Prop) (l:List α) (m:List β):Prop:=l.length=m.length∧∀ (i:Nat) (a:α) (b:β),l[i]? = some a→m[i]? = some b→P a b
def I64 (n:Int):Prop:=-9223372036854775808≤n∧n≤9223372036854775807
def Mh (ks bss:List (List UInt8)):List UInt8:=100::((ks.zip bss).flatMap (fun p=>Dm p.1++p.2)++[101])
def Oe (bss:List (List UInt8)):List UInt8:=108::(bss.flatten++[101])
def Jq:Nat→Ro→Va→List UInt8→Prop
 | 0,_,_,_=>False
 | d+1,h,v,bs =>
   (∃ n,v=⟨1,n,[],Gt,Gt⟩∧I64 n∧bs=Cm n)∨(∃ s,v=⟨2,0,s,Gt,Gt⟩∧bs=Dm s) ∨
   (∃ L vs bss,v=⟨3,0,[],L,Gt⟩∧Ar vaC 5 h L.A L.n vs∧Ch (Jq d h) vs bss∧L.n≤1000000∧bs=Oe bss) ∨
   (∃ L K vs bss ks,v=⟨4,0,[],L,K⟩∧Ar vaC 5 h L.A L.n vs∧Ch (Jq d h) vs bss∧Ar G0a 1 h K.A K.n ks∧ks.length=vs.length∧(ks.Pairwise fun a b=>Op.bytesLess a b=true)∧L.n≤1000000∧bs=Mh ks bss)
theorem Ch.imp {α β:Type}{P Q:α→β→Prop}{l:List α}{m:List β}(z:Ch P l m)(h:∀ a b,P a b→Q a b):Ch Q l m:=⟨z.1,fun i a b h1 h2=>h a b (z.2 i a b h1 h2)⟩
theorem Jq.le:∀ {d:Nat} {h h':Ro} {v:Va} {bs:List UInt8},Jq d h v bs→Le h h'→Jq d h' v bs
 | 0,_,_,_,_,e,_=>e.elim
 | d+1,h,h',v,bs,e,hl=>by
   rcases e with e|e|⟨L,vs,bss,e1,e2,e3,e4⟩|⟨L,K,vs,bss,ks,e1,e2,e3,e4,e5,e6,e7⟩
   · exact .inl e
   · exact .inr (.inl e)
   · exact .inr (.inr (.inl ⟨L,vs,bss,e1,e2.le hl,e3.imp fun a b q=>Jq.le q hl,e4⟩))
   · exact .inr (.inr (.inr ⟨L,K,vs,bss,ks,e1,e2.le hl,e3.imp fun a b q=>Jq.le q hl,e4.le hl,e5,e6,e7⟩))
theorem Jq.kind {d:Nat}{h:Ro}{v:Va}{bs:List UInt8}(e:Jq d h v bs):1≤v.k∧v.k≤4:=by
 cases d with
 | zero=>exact e.elim
 | succ d =>
   rcases e with ⟨n,rfl,_⟩|⟨s,rfl,_⟩|⟨L,vs,bss,rfl,_⟩|⟨L,K,vs,bss,ks,rfl,_⟩ <;> (constructor <;> (dsimp only;omega))
def va0:Va:=⟨0,0,[],Gt,Gt⟩
theorem Cj (v:Va):(vaC v).length=5:=rfl
theorem Pf:∀ v,∀ u∈vaC v,u.oneCell'=true:=fun v=>Bh rfl
theorem Bia {n m:Nat}{xs ys:List Value}{l:List UInt8}{A:Option Addr}{c:Nat}{h:Ro}(e1:m=n+l.length)(e2:ys=xs++l.flatMap Ev):Fl n xs l (.slice A m c) [Bd 5 1 (.slice A m c) m ys] h:=by
 subst e1;subst e2;exact ⟨A,c,rfl,rfl⟩
theorem text7_c (h:Ro)(hG:Iv h)(sv:Value)(n:Nat)(xs:List Value)(s:List UInt8)(hn:n+s.length≤700000000):Fn prog 237 #[sv,.string (str s)] [Bd 5 1 sv n xs] h (Fl n xs (Dm s)):=by
 refine QXF Proofs.Tryz.func237 fun w0 X0=>?_
 have hil:(Lib.itoa s.length).length≤21:=by have:=Lib.itoa_length_le (s.length:Int) QAd QAd;omega
 repeat' (first|refine QF ?_|(refine QG ?_;first|(apply Be;exact J;exact has235;exact J0a h hG sv n xs (s.length:Int) QAd QAd QAd;exact QT;rintro v2 E2 h2 hle2 ⟨A2,c2,rfl,rfl⟩)|(apply Bb;(iterate 3 exact J);exact List.cons_ne_nil _ _;(iterate 4 exact J);intro b1 h1 hle1 hcs1)|(apply Fj (cs:=[(58:UInt8)].flatMap Ev);(iterate 7 exact J);exact hcs1;intro v1;exact QR;exact J;exact Pk _;omega;exact J;intro A1 c1)|(apply Tw (s:=s);(iterate 10 exact J);intro v1;exact QR;omega;intro A3 c3))|fail)
 refine Bi rfl rfl rfl (List.Sublist.refl _) (Bia ?_ ?_)
 · unfold Dm;simp only [List.length_append,List.length_cons];omega
 · unfold Dm;rw [List.flatMap_append,List.flatMap_cons];simp only [List.append_assoc];rfl
def wid (k:Int):Nat:=if k=1 then 234 else if k=2 then 236 else if k=3 then 238 else 239
def wcap (k:Int) (pb:Nat):List Value:=if k≤2 then [] else [.pointer (some ⟨pb,0,none⟩)]
def wV (k:Int) (pb:Nat):Value:=.func (.func (wid k)) #[] (wcap k pb).toArray
structure WAt (h:Ro) (pb wb:Nat):Prop where
 box:Ab h ⟨pb,0,none⟩ [.pointer (some ⟨wb,0,none⟩)]
 tab:Ab h ⟨wb,0,none⟩ [.nilFunc,wV 1 pb,wV 2 pb,wV 3 pb,wV 4 pb]
theorem WAt.le {h h':Ro}{pb wb:Nat}(w:WAt h pb wb)(hl:Le h h'):WAt h' pb wb:=⟨w.box.le hl,w.tab.le hl⟩
theorem WAt.at_ {h:Ro}{pb wb:Nat}(w:WAt h pb wb){k:Int}(h1:1≤k)(h2:k≤4):Ab h ((⟨wb,0,none⟩:Addr).add (k.toNat * 1)) [wV k pb]:=by
 have hs:=w.tab.shift (k.toNat * 1)
 have:k=1∨k=2∨k=3∨k=4:=by omega
 rcases this with rfl|rfl|rfl|rfl
 · exact hs.pre (vs:=[wV 1 pb]) (us:=[wV 2 pb,wV 3 pb,wV 4 pb])
 · exact hs.pre (vs:=[wV 2 pb]) (us:=[wV 3 pb,wV 4 pb])
 · exact hs.pre (vs:=[wV 3 pb]) (us:=[wV 4 pb])
 · exact hs.pre (vs:=[wV 4 pb]) (us:=[])
theorem Gsa {k:Int}:Has prog (wid k):=by
 unfold wid
 split
 · exact has234
 · split
   · exact has236
   · split
     · exact has238
     · exact has239
def WrOk (d:Nat):Prop:=∀ (h:Ro) (pb wb:Nat) (v:Va) (bs:List UInt8) (sv:Value) (n:Nat) (xs:List Value),Iv h→WAt h pb wb→Jq d h v bs→n+bs.length≤600000000 →
 Fn prog (wid v.k) ([]++[sv,vaV v]++wcap v.k pb).toArray [Bd 5 1 sv n xs] h (Fl n xs bs)
theorem wr1_c (h:Ro)(hG:Iv h)(sv:Value)(n:Nat)(xs:List Value)(m:Int)(hm:I64 m)(hn:n≤600000000):Fn prog 234 #[sv,vaV ⟨1,m,[],Gt,Gt⟩] [Bd 5 1 sv n xs] h (Fl n xs (Cm m)):=by
 refine QXF Proofs.Tryz.func234 fun w0 X0=>?_
 have hil:(Lib.itoa m).length≤21:=Lib.itoa_length_le m hm.1 hm.2
 repeat' (first|refine QF ?_|(refine QB ?_;intro b)|(apply Ad (n:=1) [0,1,2,3,4,5,6,7,8] [(0,0),(3,0),(4,0),(1,2),(14,6),(2,2),(8,6),(5,2),(3,6),(6,1),(7,1),(8,0),(5,1),(7,1),(8,0),(2,1),(5,1),(7,1),(8,0),(1,1),(2,1),(5,1),(7,1),(8,0)];kernel_rfl)|(apply Ao;exact J;kernel_rfl;(iterate 3 exact J);(first|(refine QCp ?_;rintro v2 E2 h2 hle2 ⟨A2,c2,rfl,rfl⟩;refine ⟨hle2,QN,?_⟩)|(refine QFg ?_;intro b1 h1 hle1 hcs1;refine ⟨hle1,QN,?_⟩)|(refine QBj ?_;intro b3 h3 hle3 hcs3;refine ⟨hle3,QN,?_⟩)|(refine QCk ?_;intro A1 c1;refine ⟨Le.refl _,QN,?_⟩)|(refine QA4 ?_;intro A1 c1;refine ⟨Le.refl _,QN,?_⟩)))|(apply Hi;kernel_rfl;exact J;exact J)|(apply Cq;(iterate 4 exact J);(first|(refine QCp ?_;rintro v2 E2 h2 hle2 ⟨A2,c2,rfl,rfl⟩;refine ⟨hle2,QN,?_⟩)|(refine QFg ?_;intro b1 h1 hle1 hcs1;refine ⟨hle1,QN,?_⟩)|(refine QBj ?_;intro b3 h3 hle3 hcs3;refine ⟨hle3,QN,?_⟩)|(refine QCk ?_;intro A1 c1;refine ⟨Le.refl _,QN,?_⟩)))|fail)
 all_goals (refine Bi rfl rfl rfl (.cons_cons _ (List.nil_sublist _)) (Bia ?_ ?_))
 all_goals first
  | (unfold Cm;simp only [List.length_append,List.length_cons,List.length_nil];omega)
  | (unfold Cm;simp only [List.flatMap_cons,List.flatMap_append,List.append_assoc,List.flatMap_nil,List.append_nil,List.nil_append])
theorem wr2_c (h:Ro)(hG:Iv h)(sv:Value)(n:Nat)(xs:List Value)(s:List UInt8)(hn:n+s.length≤600000000):Fn prog 236 #[sv,vaV ⟨2,0,s,Gt,Gt⟩] [Bd 5 1 sv n xs] h (Fl n xs (Dm s)):=by
 refine QXF Proofs.Tryz.func236 fun w0 X0=>?_
 repeat' (first|refine QF ?_|(refine QB ?_;intro b)|(refine QG ?_;first|(apply Be;exact J;exact has237;exact text7_c h hG sv n xs s QAd;exact QT;rintro v2 E2 h2 hle2 ⟨A2,c2,rfl,rfl⟩))|fail)
 exact Bi rfl rfl rfl (.cons_cons _ (List.nil_sublist _)) ⟨A2,c2,rfl,rfl⟩
theorem Th {d:Nat}{h:Ro}{vs:List Va}{bss:List (List UInt8)}(z:Ch (Jq d h) vs bss){k:Nat}(hk:k<vs.length):Jq d h (vs.getD k va0) (bss.getD k []) :=
 z.2 k _ _ (by simp [List.getD,List.getElem?_eq_getElem hk]) (by simp [List.getD,List.getElem?_eq_getElem (show k<bss.length from z.1 ▸ hk)])
theorem Bpa {bss:List (List UInt8)}{k:Nat}(hk:k<bss.length):(bss.take k).flatten.length+(bss.getD k []).length≤bss.flatten.length:=by
 have h1:=Cb [] rfl hk
 have h2:(bss.take (k+1)).flatten.length≤bss.flatten.length:=by
  conv=>rhs;rw [← List.take_append_drop (k+1) bss,List.flatten_append,List.length_append]
  omega
 rw [h1,List.flatten_append,List.length_append] at h2
 simpa using h2
theorem wr3_c (d:Nat)(ih0:WrOk d)(h:Ro)(hG:Iv h)(pb wb:Nat)(hw:WAt h pb wb)(sv:Value)(n:Nat)(xs:List Value)(L:Sli)(vs:List Va)(bss:List (List UInt8))(hL:Ar vaC 5 h L.A L.n vs)(hz:Ch (Jq d h) vs bss)(hn:n+(Oe bss).length≤600000000)(hn2:L.n≤1000000000) :
  Fn prog 238 #[sv,vaV ⟨3,0,[],L,Gt⟩,.pointer (some ⟨pb,0,none⟩)] [Bd 5 1 sv n xs] h (Fl n xs (Oe bss)):=by
 refine QXF Proofs.Tryz.func238 fun w0 X0=>?_
 have hlen:=hL.len
 have hzl:=hz.1
 have hbl:(Oe bss).length=bss.flatten.length+2:=by unfold Oe;simp
 repeat' (first|refine QF ?_|(refine QB ?_;intro b)|(refine QG ?_;first|(apply Bb (cs:=[(108:UInt8)].flatMap Ev);(iterate 3 exact J);exact List.cons_ne_nil _ _;(iterate 4 exact J);intro b1 h1 hle1 hcs1)|(apply Fj (cs:=[(108:UInt8)].flatMap Ev);(iterate 7 exact J);exact hcs1.le QAa;intro v1;exact QR;exact J;exact Pk _;omega;exact J;intro A1 c1))|fail)
 generalize hmm:n+1=m1
 refine Ai (X:=Nat×Option Addr×Nat×Ro) (fun x=>x.1≤L.n∧Le h x.2.2.2) (fun x=>L.n-x.1)
  (fun x=>[(14,.int .i64 x.1),(13,.int .i64 L.n),(12,.slice L.A L.n L.c),(2,.pointer (some ⟨pb,0,none⟩)),(0,.slice x.2.1 (m1+(bss.take x.1).flatten.length) x.2.2.1)])
  (fun x=>[Bd 5 1 (.slice x.2.1 (m1+(bss.take x.1).flatten.length) x.2.2.1) (m1+(bss.take x.1).flatten.length) (xs++(108::(bss.take x.1).flatten).flatMap Ev)]) (fun x=>x.2.2.2) (0,A1,c1,h1) ⟨by dsimp only;omega,hle1⟩ QS QT rfl ?_
 rintro ⟨k,A,c,hh⟩ ⟨hk,hle⟩ ih
 dsimp only at hk hle ih ⊢
 by_cases hkn:k<L.n
 · have a1:=hL.addrD hkn
   have cc:=(hL.cellsD va0 hkn).le hle
   have hv:=(Th hz (show k<vs.length by omega)).le hle
   have hfl:=Bpa (show k<bss.length by omega)
   have ht:=Cb [] rfl (show k<bss.length by omega)
   generalize vs.getD k va0=u at *
   generalize bss.getD k []=bb at *
   have hwb:=(hw.le hle).box
   have hwt:=(hw.le hle).at_ hv.kind.1 hv.kind.2
   have huk:=hv.kind
   have hcon:=fun sv n xs hn=>ih0 hh pb wb u bb sv n xs (hG.le hle) (hw.le hle) hv hn
   repeat' (first|refine QFs ?_|(apply Af;exact J;exact J;(first|exact QAc|exact QAo);exact QA)|(refine QB ?_;intro b)|(apply Ad (n:=5) [0,1,2,3,4,5,6,7,8,9,10] [(0,0),(1,0),(2,0),(3,0),(4,0),(5,0),(6,0),(7,0),(8,0),(9,1),(10,0)];kernel_rfl)|(apply Bk;exact J;kernel_rfl;exact J;exact J;(first|(apply Hc (j:=u.k.toNat);(iterate 5 exact J);omega;omega)|(apply Aw;exact J;exact Cy rfl hwb rfl)|(apply Aw;exact J;exact Jp rfl hwt rfl));exact QA)|(apply Ao;exact J;kernel_rfl;(iterate 3 exact J);(first|(apply Fo (f:=wid u.k) (fs:=[]) (cs:=wcap u.k pb);exact J;exact J;exact Gsa;exact hcon _ (m1+(bss.take k).flatten.length) (xs++(108::(bss.take k).flatten).flatMap Ev) QAd;exact QT;rintro v2 E2 h2 hle2 ⟨A2,c2,rfl,rfl⟩;refine ⟨hle2,QN,?_⟩)))|(refine QH ?_ ?_<;>intro hc<;>try omega)|fail)
   all_goals
    have h3:=ih (k+1,A2,c2,h2) ⟨by dsimp only;omega,by dsimp only;exact hle.trans hle2⟩ QAh
    dsimp only at h3
    rw [ht,List.flatten_append,List.flatten_singleton,List.length_append,← Nat.add_assoc,← List.cons_append,List.flatMap_append,← List.append_assoc] at h3
    refine Aj QS QT (h3)
 · rw [List.take_of_length_le QAd]
   clear ih
   repeat' (first|refine QF ?_|(refine QG ?_;first|(refine QBj ?_;intro b3 h3 hle3 hcs3)|(refine QA4 ?_;intro A3 c3))|(refine QH ?_ ?_<;>intro hc<;>try omega)|fail)
   refine Bi rfl rfl rfl (List.Sublist.refl _) (Bia ?_ ?_)
   · omega
   · unfold Oe;simp only [List.flatMap_cons,List.flatMap_append,List.append_assoc,List.flatMap_nil,List.append_nil,List.nil_append]
theorem wr4_c (d:Nat)(ih0:WrOk d)(h:Ro)(hG:Iv h)(pb wb:Nat)(hw:WAt h pb wb)(sv:Value)(n:Nat)(xs:List Value)(L K:Sli)(vs:List Va)(bss ks:List (List UInt8))(hL:Ar vaC 5 h L.A L.n vs)(hz:Ch (Jq d h) vs bss)(hK:Ar G0a 1 h K.A K.n ks)(hkl:ks.length=vs.length)(hn:n+(Mh ks bss).length≤600000000)(hn2:L.n≤1000000000) :
  Fn prog 239 #[sv,vaV ⟨4,0,[],L,K⟩,.pointer (some ⟨pb,0,none⟩)] [Bd 5 1 sv n xs] h (Fl n xs (Mh ks bss)):=by
 refine QXF Proofs.Tryz.func239 fun w0 X0=>?_
 have hlen:=hL.len
 have hlenK:=hK.len
 have hzl:=hz.1
 obtain ⟨tt,htt⟩:∃ tt,tt=(ks.zip bss).map (fun p=>Dm p.1++p.2):=⟨_,rfl⟩
 have hfm:(ks.zip bss).flatMap (fun p=>Dm p.1++p.2)=tt.flatten:=by rw [htt,List.flatMap_def]
 have htl:tt.length=vs.length:=by rw [htt,List.length_map,List.length_zip];omega
 have hbl:(Mh ks bss).length=tt.flatten.length+2:=by unfold Mh;rw [hfm];simp
 have hta:∀ k,k<vs.length→tt.getD k []=Dm (ks.getD k [])++bss.getD k []:=fun k hk=>by
  rw [htt];simp [List.getD,List.getElem?_eq_getElem (show k<ks.length by omega),List.getElem?_eq_getElem (show k<bss.length by omega),List.zip_eq_zipWith,List.getElem?_zipWith]
 repeat' (first|refine QF ?_|(refine QB ?_;intro b)|(refine QG ?_;first|(apply Bb (cs:=[(100:UInt8)].flatMap Ev);(iterate 3 exact J);exact List.cons_ne_nil _ _;(iterate 4 exact J);intro b1 h1 hle1 hcs1)|(apply Fj (cs:=[(100:UInt8)].flatMap Ev);(iterate 7 exact J);exact hcs1.le QAa;intro v1;exact QR;exact J;exact Pk _;omega;exact J;intro A1 c1))|fail)
 generalize hmm:n+1=m1
 generalize b=b0
 refine Ai (X:=Nat×Option Addr×Nat×Ro) (fun x=>x.1≤L.n∧Le h x.2.2.2) (fun x=>L.n-x.1)
  (fun x=>[(14,.int .i64 x.1),(13,.int .i64 L.n),(12,.slice L.A L.n L.c),(2,.pointer (some ⟨pb,0,none⟩)),(4,.pointer (some ⟨b0,0,none⟩)),(0,.slice x.2.1 (m1+(tt.take x.1).flatten.length) x.2.2.1)])
  (fun x=>[Bd 5 1 (.slice x.2.1 (m1+(tt.take x.1).flatten.length) x.2.2.1) (m1+(tt.take x.1).flatten.length) (xs++(100::(tt.take x.1).flatten).flatMap Ev),Blk b0 192 (vaC ⟨4,0,[],L,K⟩)]) (fun x=>x.2.2.2) (0,A1,c1,h1) ⟨by dsimp only;omega,hle1⟩ QS QT rfl ?_
 rintro ⟨k,A,c,hh⟩ ⟨hk,hle⟩ ih
 dsimp only at hk hle ih ⊢
 by_cases hkn:k<L.n
 · have a1:=hL.addrD hkn
   have cc:=(hL.cellsD va0 hkn).le hle
   have hkK:k<K.n:=by omega
   have a2:=hK.addrD hkK
   have c2k:=(hK.cellsD [] (show k<K.n by omega)).le hle
   have hv:=(Th hz (show k<vs.length by omega)).le hle
   have hfl:=Bpa (show k<tt.length by omega)
   have ht:=Cb [] rfl (show k<tt.length by omega)
   have hta1:=hta k QAd
   generalize vs.getD k va0=u at *
   generalize bss.getD k []=bb at *
   generalize ks.getD k []=kk at *
   have htal:(tt.getD k []).length=(Dm kk).length+bb.length:=by rw [hta1,List.length_append]
   have hkk:kk.length≤(Dm kk).length:=by unfold Dm;simp;omega
   have hwb:=(hw.le hle).box
   have hwt:=(hw.le hle).at_ hv.kind.1 hv.kind.2
   have huk:=hv.kind
   have hcon:=fun h' (hl:Le hh h') sv n xs hn=>ih0 h' pb wb u bb sv n xs (hG.le (hle.trans hl)) (hw.le (hle.trans hl)) (hv.le hl) hn
   repeat' (first|refine QFs ?_|(apply Af;exact J;exact J;(first|exact QAc|exact QAo);exact QA)|(refine QB ?_;intro b)|(apply Ad (n:=5) [0,1,2,3,4,5,6,7,8,9,10,11,12,13,14,15,16] [(0,0),(1,0),(2,0),(3,0),(4,0),(5,0),(6,0),(7,0),(8,0),(9,0),(10,0),(11,0),(12,0),(14,0),(13,1),(15,1),(16,0)];kernel_rfl)|(apply Bk;exact J;kernel_rfl;exact J;exact J;(first|exact QFu|(apply Hc (j:=u.k.toNat);(iterate 5 exact J);omega;omega)|(apply Aw;exact J;exact Cy rfl c2k rfl)|(apply Aw;exact J;exact Cy rfl hwb rfl)|(apply Aw;exact J;exact Jp rfl hwt rfl));exact QA)|(apply Ao;exact J;kernel_rfl;(iterate 3 exact J);(first|(apply Be;exact J;exact has237;exact text7_c _ (hG.le QAa) _ (m1+(tt.take k).flatten.length) (xs++(100::(tt.take k).flatten).flatMap Ev) kk QAd;exact QT;rintro v2 E2 h2 hle2 ⟨A2,c2,rfl,rfl⟩;refine ⟨hle2,QN,?_⟩)|(apply Fo (f:=wid u.k) (fs:=[]) (cs:=wcap u.k pb);exact J;exact J;exact Gsa;exact hcon _ QAa _ (m1+(tt.take k).flatten.length+(Dm kk).length) (xs++(100::(tt.take k).flatten).flatMap Ev++(Dm kk).flatMap Ev) QAd;exact QT;rintro v3 E3 h3 hle3 ⟨A3,c3,rfl,rfl⟩;refine ⟨hle3,QN,?_⟩)))|(refine QH ?_ ?_<;>intro hc<;>try omega)|fail)
   all_goals
    have h3:=ih (k+1,A3,c3,h3) ⟨by dsimp only;omega,by dsimp only;exact hle.trans QAa⟩ QAh
    dsimp only at h3
    rw [ht,List.flatten_append,List.flatten_singleton,hta1,List.length_append,List.length_append,← Nat.add_assoc,← Nat.add_assoc,← List.cons_append,List.flatMap_append,List.flatMap_append,← List.append_assoc,← List.append_assoc] at h3
    refine Aj QS QT (h3)
 · rw [List.take_of_length_le QAd]
   clear ih
   repeat' (first|refine QF ?_|(refine QG ?_;first|(refine QBj ?_;intro b3 h3 hle3 hcs3)|(refine QA4 ?_;intro A3 c3))|(refine QH ?_ ?_<;>intro hc<;>try omega)|fail)
   refine Bi rfl rfl rfl (.cons_cons _ (List.nil_sublist _)) (Bia ?_ ?_)
   · omega
   · unfold Mh;rw [hfm];simp only [List.flatMap_cons,List.flatMap_append,List.append_assoc,List.flatMap_nil,List.append_nil,List.nil_append]
end Go.Hw
namespace Go.Hw
open Go
attribute [local irreducible] GO GOl GDp Val Fn Res Ab Du Blk Bd Cd Bf Has
open Go.Proofs.Tryz (prog)
theorem wr_ok:∀ d,WrOk d
 | 0=>fun h pb wb v bs sv n xs hG hw hv hn=>hv.elim
 | d+1=>fun h pb wb v bs sv n xs hG hw hv hn=>by
   rcases hv with ⟨m,rfl,hm,rfl⟩|⟨s,rfl,rfl⟩|⟨L,vs,bss,rfl,e2,e3,e4,rfl⟩|⟨L,K,vs,bss,ks,rfl,e2,e3,e4,e5,e6,e7,rfl⟩
   · exact wr1_c h hG sv n xs m hm QAd
   · exact wr2_c h hG sv n xs s (by unfold Dm at hn;simp at hn;omega)
   · exact wr3_c d (wr_ok d) h hG pb wb hw sv n xs L vs bss e2 e3 hn QAd
   · exact wr4_c d (wr_ok d) h hG pb wb hw sv n xs L K vs bss ks e2 e3 e4 e5 hn QAd
theorem Gha (h:Ro):Res prog 195 #[] h fun v h'=>∃ pb wb,v=.pointer (some ⟨wb,0,none⟩)∧WAt h' pb wb:=by
 refine QXR Proofs.Tryz.func195 fun w0 X0=>?_
 repeat' (first|refine QFs ?_|(apply Af;exact J;exact J;(first|exact QBy|(apply Hc (j:=2);(iterate 6 exact J);exact QAs)|(apply Hc (j:=3);(iterate 6 exact J);exact QAs)|(apply Hc (j:=4);(iterate 6 exact J);exact QAs));exact QA)|(refine QB ?_;intro b)|fail)
 rename_i wb
 refine Ip (b:=wb) QK ?_
 intro h1 hle1 hc1
 refine Ip (b:=b) QK ?_
 intro h2 hle2 hc2
 (first|(apply Ay;(iterate 3 exact J)))
 exact ⟨b,wb,rfl,hc2,hc1.le hle2⟩
theorem sEq (a b:List UInt8):((str a).toList == (⟨#[]⟩:ByteArray).toList)=decide (a=[]):=by
 rw [Dr,show (⟨#[]⟩:ByteArray).toList=[] from Dr []];exact Qz beq_iff_eq
theorem C0a:((str []).toList == (⟨#[]⟩:ByteArray).toList)=true:=by rw [sEq [] []];rfl
theorem empty_c (h:Ro)(d:Nat)(v:Va)(bs:List UInt8)(hv:Jq d h v bs):Val prog 307 #[vaV v] h (.bool true):=by
 refine QXV Proofs.Tryz.func307 fun w0 X0=>?_
 cases d with
 | zero=>exact hv.elim
 | succ d =>
   have hs:=C0a
   rcases hv with ⟨m,rfl,hm,rfl⟩|⟨s,rfl,rfl⟩|⟨L,vs,bss,rfl,e2,e3,e4,rfl⟩|⟨L,K,vs,bss,ks,rfl,e2,e3,e4,e5,e6,e7,rfl⟩
   · repeat' (first|refine QF ?_|(apply Af;exact J;exact J;(first|(apply Rm (j:=1);(iterate 6 exact J);exact QAs;exact J));exact QA)|(refine QB ?_;intro b)|refine QJ ?_|(refine QI ?_ ?_<;>intro hc<;>try omega)|fail)
     all_goals (first|((first|(apply Ac;(iterate 3 exact J)));simp [Fe,Gt];done)|(exfalso;simp_all [Gt];done)|skip)
   · repeat' (first|refine QF ?_|(apply Af;exact J;exact J;(first|(apply Rm (j:=2);(iterate 6 exact J);exact QAs;exact J));exact QA)|(refine QB ?_;intro b)|refine QJ ?_|(refine QI ?_ ?_<;>intro hc<;>try omega)|fail)
     all_goals (first|((first|(apply Ac;(iterate 3 exact J)));simp [Fe,Gt];done)|(exfalso;simp_all [Gt];done)|skip)
   · repeat' (first|refine QF ?_|(apply Af;exact J;exact J;(first|(apply Rm (j:=3);(iterate 6 exact J);exact QAs;exact J));exact QA)|(refine QB ?_;intro b)|refine QJ ?_|(refine QI ?_ ?_<;>intro hc<;>try omega)|fail)
     all_goals (first|((first|(apply Ac;(iterate 3 exact J)));simp [Fe,Gt];done)|(exfalso;simp_all [Gt];done)|skip)
   · have h1:=e2.len
     have h2:=e4.len
     repeat' (first|refine QF ?_|(apply Af;exact J;exact J;(first|(apply Rm (j:=4);(iterate 6 exact J);exact QAs;exact J));exact QA)|(refine QB ?_;intro b)|refine QJ ?_|(refine QI ?_ ?_<;>intro hc<;>try omega)|fail)
     all_goals (first|((first|(apply Ac;(iterate 3 exact J)));rw [Fe,decide_eq_true QAh];done)|((first|(apply Ac;(iterate 3 exact J)));simp [Fe,Gt];done)|(exfalso;simp_all [Gt];done)|skip)
theorem less_at {ks:List (List UInt8)}(hp:ks.Pairwise fun a b=>Op.bytesLess a b=true){k:Nat}(h0:1≤k)(hk:k<ks.length):Op.bytesLess (ks.getD (k-1) []) (ks.getD k [])=true:=by
 rw [List.pairwise_iff_getElem] at hp
 have:=hp (k-1) k QAd hk QAd
 simpa [List.getD,List.getElem?_eq_getElem hk,List.getElem?_eq_getElem (show k-1<ks.length by omega)] using this
def FmOk (d:Nat):Prop:=∀ (h:Ro) (v:Va) (bs:List UInt8),Jq d h v bs→Res prog 233 #[vaV v] h fun u _=>∃ m:Int,u=.tuple #[.int .i64 m,.bool true]∧0≤m∧m≤d
theorem Wp (d:Nat)(h:Ro)(v:Va)(bs:List UInt8)(hv:Jq d h v bs)(hk:v.k<3)(hK:v.K=Gt):Res prog 233 #[vaV v] h fun u _=>u=.tuple #[.int .i64 0,.bool true]:=by
 refine QXR Proofs.Tryz.func233 fun w0 X0=>?_
 have hkk:=hv.kind
 obtain ⟨vk,vn,vs,vL,vK⟩:=v
 dsimp only at hk hK hkk
 subst hK
 repeat' (first|refine QF ?_|(refine QB ?_;intro b)|(refine QG ?_;first|(apply Aa;exact J;exact has307;exact empty_c _ d _ bs hv))|(refine QH ?_ ?_<;>intro hc<;>try omega)|refine QJ ?_|(refine QI ?_ ?_<;>intro hc<;>try omega)|fail)
 all_goals (try (exfalso;omega))
 refine Ai (X:=Nat) (fun k=>k=0) (fun k=>0) (fun k=>[(4,.int .i64 1),(2,.int .i64 0),(3,.bool false),(1,.pointer (some ⟨b,0,none⟩))]) (fun _=>[Blk b 192 (vaC ⟨vk,vn,vs,vL,Gt⟩)]) (fun _=>h) 0 rfl QS QT rfl ?_
 rintro k _ ih
 clear ih
 repeat' (first|refine QF ?_|(apply Ad (n:=6) [0,1,2,3,4,5,6,7,8,9,10,11] [(0,0),(1,0),(2,0),(3,0),(4,0),(5,0),(6,0),(7,0),(8,0),(9,0),(10,0),(11,0)];kernel_rfl)|(refine QH ?_ ?_<;>intro hc<;>try omega)|fail)
 all_goals first
  | (exfalso;simp [Gt] at *;done)
  | (exfalso;omega)
  | (exact Cs rfl rfl rfl rfl rfl)
theorem Wo (d:Nat)(ih0:FmOk d)(h:Ro)(v:Va)(bs:List UInt8)(hv:Jq (d+1) h v bs)(hk:3≤v.k)(vs:List Va)(bss:List (List UInt8))(hL:Ar vaC 5 h v.L.A v.L.n vs)(hz:Ch (Jq d h) vs bss)(hn:v.L.n≤1000000)(ks:List (List UInt8))(hK:Ar G0a 1 h v.K.A v.K.n ks)(hp:ks.Pairwise fun a b=>Op.bytesLess a b=true)(hkn:v.K.n≤1000000)(hd:d≤1000) :
  Res prog 233 #[vaV v] h fun u _=>∃ m:Int,u=.tuple #[.int .i64 m,.bool true]∧0≤m∧m≤(d+1:Nat):=by
 refine QXR Proofs.Tryz.func233 fun w0 X0=>?_
 have hkk:=hv.kind
 have hlen:=hL.len
 have hlenK:=hK.len
 obtain ⟨vk,vn,vss,vL,vK⟩:=v
 dsimp only at hk hL hn hK hkn hkk hlen hlenK
 repeat' (first|refine QF ?_|(refine QB ?_;intro b)|(refine QG ?_;first|(apply Aa;exact J;exact has307;exact empty_c _ _ _ bs hv))|(refine QH ?_ ?_<;>intro hc<;>try omega)|refine QJ ?_|(refine QI ?_ ?_<;>intro hc<;>try omega)|fail)
 all_goals (try (exfalso;omega))
 generalize b=b0
 refine Ai (X:=Nat) (fun k=>1≤k∧(k≤vK.n∨k=1)) (fun k=>vK.n+1-k) (fun k=>[(4,.int .i64 k),(2,.int .i64 0),(3,.bool false),(1,.pointer (some ⟨b0,0,none⟩))]) (fun _=>[Blk b0 192 (vaC ⟨vk,vn,vss,vL,vK⟩)]) (fun _=>h) 1 ⟨by omega,by omega⟩ QS QT rfl ?_
 rintro k ⟨hk1,hk2⟩ ih
 by_cases hkn2:k<vK.n
 · have a1:=hK.addrD hkn2
   have c1:=hK.cellsD [] hkn2
   have c2:=hK.cellsD [] (show k-1<vK.n by omega)
   have hls:=less_at hp hk1 QAd
   generalize ks.getD k []=k1 at *
   generalize ks.getD (k-1) []=k0 at *
   have hkq:k-1<vK.n:=by omega
   have hi1:((k:Int)-1)=((k-1:Nat):Int):=by omega
   repeat' (first|refine QF ?_|(apply Ad (n:=6) [0,1,2,3,4,5,6,7,8,9,10,11] [(0,0),(1,0),(2,0),(3,0),(4,0),(5,0),(6,0),(7,0),(8,0),(9,0),(10,0),(11,0)];kernel_rfl)|(apply Bk;exact J;kernel_rfl;exact J;exact J;(first|exact QFt|(apply Cg (j:=k-1);(iterate 5 exact J);exact a1;exact hi1;exact hkq)|exact QAf|exact QA2);exact QA)|(refine QH ?_ ?_<;>intro hc<;>try omega)|fail)
   all_goals first
    | (exfalso;rw [Dr,Dr,hls] at *;simp at *;done)
    | (have h3:=ih (k+1) ⟨by omega,by omega⟩ QAd
       refine Aj QS QT (h3))
 · clear ih
   repeat' (first|refine QF ?_|(refine QH ?_ ?_<;>intro hc<;>try omega)|fail)
   all_goals (try (exfalso;dsimp only at *;omega))
   refine Ai (X:=Nat×Int×Ro) (fun x=>x.1≤vL.n∧0≤x.2.1∧x.2.1≤d∧Le h x.2.2) (fun x=>vL.n-x.1) (fun x=>[(47,.int .i64 x.1),(46,.int .i64 vL.n),(45,.slice vL.A vL.n vL.c),(2,.int .i64 x.2.1)]) (fun _=>[]) (fun x=>x.2.2) (0,0,h) ⟨by dsimp only;omega,by dsimp only;omega,by dsimp only;omega,Le.refl _⟩ QS QT rfl ?_
   rintro ⟨j,m0,hh⟩ ⟨hj,hm1,hm2,hle⟩ ih
   dsimp only at hj hm1 hm2 hle ih ⊢
   by_cases hjn:j<vL.n
   · have a1:=hL.addrD hjn
     have cc:=(hL.cellsD va0 hjn).le hle
     have hv2:=(Th hz (show j<vs.length by omega)).le hle
     generalize vs.getD j va0=u at *
     generalize bss.getD j []=bb at *
     have hcon:=ih0 hh u bb hv2
     repeat' (first|refine QFs ?_|(apply Af;exact J;exact J;(first|exact QCa|exact QAo);exact QA)|(refine QB ?_;intro b)|(refine QG ?_;first|(apply Ag;exact J;exact has233;exact hcon;rintro v1 h1 hle1 ⟨m,rfl,q1,q2⟩))|(refine QH ?_ ?_<;>intro hc<;>try omega)|fail)
     have hmx:0≤max m0 m∧max m0 m≤d:=by rw [Int.max_def];split <;> omega
     have h3:=ih (j+1,max m0 m,h1) ⟨by dsimp only;omega,hmx.1,hmx.2,hle.trans hle1⟩ QAh
     dsimp only at h3
     refine Aj QS QT (h3)
   · clear ih
     repeat' (first|refine QF ?_|(refine QH ?_ ?_<;>intro hc<;>try omega)|fail)
     exact Cs rfl rfl rfl rfl ⟨m0+1,rfl,by omega,by omega⟩
theorem fm_ok:∀ d,d≤1000→FmOk d
 | 0,_=>fun h v bs hv=>hv.elim
 | d+1,hd=>fun h v bs hv=>by
   have hv0:=hv
   rcases hv with ⟨m,rfl,hm,rfl⟩|⟨s,rfl,rfl⟩|⟨L,vs,bss,rfl,e2,e3,e4,rfl⟩|⟨L,K,vs,bss,ks,rfl,e2,e3,e4,e5,e6,e7,rfl⟩
   · exact (Wp _ h _ _ hv0 QAh rfl).mono fun u _ _ e=>⟨0,e,by omega,by omega⟩
   · exact (Wp _ h _ _ hv0 QAh rfl).mono fun u _ _ e=>⟨0,e,by omega,by omega⟩
   · exact Wo d (fm_ok d QAd) h _ _ hv0 QAh vs bss e2 e3 e4 [] Ar.nil .nil (by simp [Gt]) QAd
   · have h1:=e2.len
     have h2:=e4.len
     exact Wo d (fm_ok d QAd) h _ _ hv0 QAh vs bss e2 e3 e7 ks e4 e6 QAh QAd
theorem checkV_c (h:Ro)(d:Nat)(hd:d≤16)(v:Va)(bs:List UInt8)(hv:Jq d h v bs):Res prog 194 #[vaV v] h fun u _=>u=.int .i64 0:=by
 refine QXR Proofs.Tryz.func194 fun w0 X0=>?_
 repeat' (first|refine QF ?_|(refine QB ?_;intro b)|(refine QG ?_;first|(apply Ag;exact J;exact has233;exact fm_ok d QAd h v bs hv;rintro v1 h1 hle1 ⟨m,rfl,q1,q2⟩))|(refine QH ?_ ?_<;>intro hc<;>try omega)|fail)
 all_goals first
  | (exfalso;omega)
  | (exact Ay rfl rfl rfl rfl)
theorem encode_c (h:Ro)(hG:Iv h)(d:Nat)(hd:d≤16)(v:Va)(bs:List UInt8)(hv:Jq d h v bs)(hb:bs.length≤500000000):Res prog 124 #[vaV v] h fun u h'=>∃ A c,u=.tuple #[.slice A bs.length c,.int .i64 0]∧Ar Ev 1 h' A bs.length bs:=by
 refine QXR Proofs.Tryz.func124 fun w0 X0=>?_
 have hk:=hv.kind
 refine Fg 5 1 ?_
 repeat' (first|refine QF ?_|(refine QB ?_;intro b)|(refine QG ?_;first|(apply Ag;exact J;exact has194;exact checkV_c h d hd v bs hv;rintro v1 h1 hle1 rfl))|(apply Ad (n:=4) [0,1,2,3,4,5,6,7,8,9,10] [(1,0),(2,0),(7,0),(0,1),(3,0),(4,0),(5,0),(6,0),(8,1),(9,0),(10,0)];kernel_rfl)|(apply Bk;exact J;kernel_rfl;exact J;exact J;(first|(apply Hc (j:=v.k.toNat);(iterate 5 exact J);omega;omega)|(apply Aw;exact J;exact Jp rfl (hwa.at_ hk.1 hk.2) rfl));exact QA)|(apply Ao;exact J;kernel_rfl;(iterate 3 exact J);(first|(apply Ag;exact J;exact has195;exact Gha _;rintro v2 h2 hle2 ⟨pb,wb,rfl,hwa⟩;refine ⟨hle2,QN,?_⟩)|(apply Fo (f:=wid v.k) (fs:=[]) (cs:=wcap v.k pb);exact J;exact J;exact Gsa;exact wr_ok d _ pb wb v bs _ 0 [] (hG.le QAa) hwa (hv.le QAa) QAd;exact QT;rintro v3 E3 h3 hle3 ⟨A3,c3,rfl,rfl⟩;refine ⟨hle3,QN,?_⟩)))|(refine QH ?_ ?_<;>intro hc<;>try omega)|fail)
 simp only [Nat.zero_add,List.nil_append]
 refine El (enc:=Ev) (e:=5) (xs:=bs) (fun _=>rfl) rfl QK ?_
 intro A2 c2 h4 hle4 e2 hnc hs
 injection e2 with e21 _ e23
 subst e21;subst e23
 exact Cs rfl rfl rfl rfl ⟨_,_,rfl,hs⟩
end Go.Hw
namespace Go.Hw
open Go
attribute [local irreducible] GO GOl GDp Val Fn Res Ab Du Blk Bd Cd Bf Has
open Go.Proofs.Tryz (prog)
def Dz (n:Int):Va:=⟨1,n,[],Gt,Gt⟩
def Yd (s:List UInt8):Va:=⟨2,0,s,Gt,Gt⟩
def Ep (A:Option Addr) (n c:Nat):Va:=⟨3,0,[],⟨A,n,c⟩,Gt⟩
theorem Fn_free {P:Program}{f:FuncId}{args:Array Value}{Es0:List Asn}{h0:Ro}{Post Post':Value→List Asn→Ro→Prop}(hf:Fn P f args Es0 h0 Post)
  (hp:∀ v Es h,Le h0 h→Post v Es h→∃ A Fs,Es=A::Fs∧∀ D h',Le h h'→A.holds D h'→Post' v Fs h'):Fn P f args Es0 h0 Post':=by
 unfold Fn at hf ⊢
 intro w X0 hl ho
 refine (hf w X0 hl ho).mono ?_
 rintro e w' ⟨v,rfl,Es,h,hP,H⟩
 obtain ⟨A,Fs,rfl,hq⟩:=hp v Es h H.le hP
 obtain ⟨D,h',h1,h2,h3⟩:=H.release Kc.here
 exact ⟨v,rfl,Fs,h',hq D h' h1 h2,h3⟩
theorem Gga (h:Ro)(n:Int):Val prog 125 #[.int .i64 n] h (vaV (Dz n)):=by
 refine QXV Proofs.Tryz.func125 fun w0 X0=>?_
 repeat' (first|refine QFs ?_|(refine QB ?_;intro b)|fail)
 exact Ct rfl rfl rfl QM rfl rfl rfl
theorem Iza (h:Ro)(A:Option Addr)(n c:Nat):Val prog 126 #[.slice A n c] h (vaV (Ep A n c)):=by
 refine QXV Proofs.Tryz.func126 fun w0 X0=>?_
 repeat' (first|refine QFs ?_|(refine QB ?_;intro b)|fail)
 exact Ct rfl rfl rfl QM rfl rfl rfl
theorem textV_c (h:Ro)(s:List UInt8):Val prog 190 #[.string (str s)] h (vaV (Yd s)):=by
 refine QXV Proofs.Tryz.func190 fun w0 X0=>?_
 repeat' (first|refine QFs ?_|(refine QB ?_;intro b)|fail)
 exact Ct rfl rfl rfl QM rfl rfl rfl
theorem truth_c (h:Ro)(b:Bool):Val prog 193 #[.bool b] h (.int .i64 (if b then 1 else 0)):=by
 refine QXV Proofs.Tryz.func193 fun w0 X0=>?_
 repeat' (first|refine QF ?_|(refine QH ?_ ?_<;>intro hc<;>try omega)|(apply Ac;(iterate 3 exact J)))
 all_goals (subst hc;rfl)
def Ita (l:List Int):Value→List Asn→Ro→Prop:=fun v Es _=>∃ A c,v=vaV (Ep A l.length c)∧Es=[Bd 192 5 (.slice A l.length c) l.length ((l.map Dz).flatMap vaC)]
theorem nums_c (h:Ro)(A:Option Addr)(n c:Nat)(l:List Int)(hx:Ar Cu 1 h A n l)(hn:n≤1000000):Fn prog 189 #[.slice A n c] [] h (Ita l):=by
 refine QXF Proofs.Tryz.func189 fun w0 X0=>?_
 have hlen:=hx.len
 repeat' (first|refine QFs ?_|(refine QB ?_;intro b)|(refine QG ?_;first|(apply Aa;exact J;exact Jca;exact Iza _ _ _ _))|fail)
 rename_i b2
 generalize b=b3
 refine Fg 192 5 ?_
 refine Ai (X:=Nat×Option Addr×Nat×Ro) (fun x=>x.1≤n∧Le h x.2.2.2) (fun x=>n-x.1)
  (fun x=>[(9,.int .i64 x.1),(8,.int .i64 n),(7,.slice A n c),(3,.pointer (some ⟨b3,0,none⟩)),(2,.pointer (some ⟨b2,0,none⟩))])
  (fun x=>[Blk b3 192 (vaC (Ep x.2.1 x.1 x.2.2.1)),Bd 192 5 (.slice x.2.1 x.1 x.2.2.1) x.1 (((l.take x.1).map Dz).flatMap vaC),Blk b2 192 (vaC va0)]) (fun x=>x.2.2.2) (0,none,0,h) ⟨by dsimp only;omega,Le.refl _⟩ QS QT rfl ?_
 rintro ⟨k,A1,c1,hh⟩ ⟨hk,hle⟩ ih
 dsimp only at hk hle ih ⊢
 by_cases hkn:k<n
 · have a1:=hx.addrD hkn
   have cc:=(hx.cellsD 0 hkn).le hle
   have ht:=Cb 0 hlen hkn
   generalize l.getD k 0=u at *
   repeat' (first|refine QFs ?_|(apply Af;exact J;exact J;(first|exact QAc|exact QAo);exact QA)|(apply Ad (n:=5) [0,1,2,3,4,5,6,7] [(0,0),(1,0),(2,0),(3,1),(4,1),(5,1),(6,0),(7,1)];kernel_rfl)|(apply Ao;exact J;kernel_rfl;(iterate 3 exact J);(first|(refine QEb ?_;intro b1 h1 hle1 hs1;refine ⟨hle1,QN,?_⟩)|(refine QEk ?_;intro A2 c2;refine ⟨Le.refl _,QN,?_⟩)|(apply Aa;exact J;exact Wg;exact Gga _ _;refine ⟨Le.refl _,QN,?_⟩)))|(refine QH ?_ ?_<;>intro hc<;>try omega)|fail)
   all_goals
    have h3:=ih (k+1,A2,c2,h1) ⟨by dsimp only;omega,by dsimp only;exact hle.trans hle1⟩ QAh
    dsimp only at h3
    rw [ht,List.map_append] at h3
    refine Aj QS QT (h3)
 · rw [List.take_of_length_le QAd]
   clear ih
   have hkk:k=l.length:=by omega
   subst hkk
   repeat' (first|refine QFs ?_|(refine QH ?_ ?_<;>intro hc<;>try omega)|fail)
   exact Pu (rs:=[.cell 2 192]) (vs:=[vaV (Ep A1 l.length c1)]) rfl rfl ⟨⟨_,rfl,Lf rfl QM rfl⟩,trivial⟩ (.cons _ (.cons_cons _ (List.nil_sublist _))) ⟨A1,c1,rfl,rfl⟩
theorem A5a (h:Ro)(A:Option Addr)(n c:Nat)(l:List Int)(hx:Ar Cu 1 h A n l)(hn:n≤1000000):Res prog 189 #[.slice A n c] h fun u h'=>∃ A' c',u=vaV (Ep A' l.length c')∧Ar vaC 5 h' A' l.length (l.map Dz):=by
 unfold Res
 exact Fn_free (nums_c h A n c l hx hn) fun v Es h' hle ⟨A',c',e1,e2⟩=>⟨_,_,e2,fun D h'' hl hD=>by
  obtain ⟨A2,c2,e3,hs⟩:=Rj Cj QAn hD
  injection e3 with e31 _ e33
  subst e31;subst e33
  exact ⟨rfl,A',c',e1,hs⟩⟩
theorem Av {d:Nat}{h:Ro}{n:Int}(hn:I64 n):Jq (d+1) h (Dz n) (Cm n):=.inl ⟨n,rfl,hn,rfl⟩
theorem Qa {d:Nat}{h:Ro}{s:List UInt8}:Jq (d+1) h (Yd s) (Dm s):=.inr (.inl ⟨s,rfl,rfl⟩)
theorem Fp {d:Nat}{h:Ro}{A:Option Addr}{n c:Nat}{vs:List Va}{bss:List (List UInt8)}(hs:Ar vaC 5 h A n vs)(hz:Ch (Jq d h) vs bss)(hn:n≤1000000):Jq (d+1) h (Ep A n c) (Oe bss) :=
 .inr (.inr (.inl ⟨⟨A,n,c⟩,vs,bss,rfl,hs,hz,hn,rfl⟩))
theorem H1a {d:Nat}{h:Ro}{l:List Int}(hl:∀ x∈l,I64 x):Ch (Jq (d+1) h) (l.map Dz) (l.map Cm):=by
 refine ⟨by simp,fun i a b h1 h2 => ?_⟩
 rw [List.getElem?_map] at h1 h2
 cases hi:l[i]? with
 | none=>rw [hi] at h1;cases h1
 | some x =>
   rw [hi] at h1 h2
   injection h1 with h1;injection h2 with h2
   subst h1;subst h2
   exact Av (hl x (List.mem_of_getElem? hi))
theorem bSeq_nums (l:List Int):Oe (l.map Cm)=Dt l:=by
 unfold Oe Dt B2a;rw [List.flatMap_def]
theorem Cua {d:Nat}{h:Ro}{A:Option Addr}{c:Nat}{l:List Int}(hs:Ar vaC 5 h A l.length (l.map Dz))(hl:∀ x∈l,I64 x)(hn:l.length≤1000000):Jq (d+2) h (Ep A l.length c) (Dt l):=by
 rw [← bSeq_nums];exact Fp hs (H1a hl) hn
def VR (d:Nat) (bs:List UInt8):Value→Ro→Prop:=fun u h=>∃ v,u=vaV v∧Jq d h v bs
theorem Sg {d:Nat}(h:Ro)(A:Option Addr)(n c:Nat)(l:List Int)(hx:Ar Cu 1 h A n l)(hn:n≤1000000)(hl:∀ x∈l,I64 x):Res prog 189 #[.slice A n c] h (VR (d+2) (Dt l)) :=
 (A5a h A n c l hx hn).mono fun v h' _ ⟨A',c',e1,e2⟩=>⟨_,e1,Cua e2 hl (by have:=hx.len;omega)⟩
def Nh (g:Ak):Prop:=I64 g.s∧I64 g.c∧I64 g.h∧I64 g.a
theorem Wk {g:Ak}(hg:Nh g):∀ x∈Jh g,I64 x:=by
 obtain ⟨h1,h2,h3,h4⟩:=hg
 intro x hx
 simp only [Jh,List.mem_cons,List.not_mem_nil,or_false] at hx
 rcases hx with rfl|rfl|rfl|rfl <;> assumption
theorem Bma {d:Nat}(h:Ro)(g:Ak)(hg:Nh g):Res prog 191 #[De g] h (VR (d+2) (Dt (Jh g))):=by
 refine QXR Proofs.Tryz.func191 fun w0 X0=>?_
 repeat' (first|refine QFs ?_|(refine QB ?_;intro b)|(refine QG ?_;first|(refine QE8 ?_;intro b1 h1 hle1 hcs1)|(apply Ag;exact J;exact Ov;exact Sg (d:=d) _ _ 4 4 (Jh g) (Do hcs1) QAd (Wk hg);rintro v2 h2 hle2 ⟨v,rfl,hv⟩))|fail)
 exact Bw rfl rfl rfl QM rfl rfl ⟨v,rfl,hv⟩
theorem Bza (c:Dx)(hc:I64 c.p):∀ x∈Rg c,I64 x:=by
 intro x hx
 simp only [Rg,List.mem_cons,List.not_mem_nil,or_false] at hx
 rcases hx with rfl|rfl
 · exact hc
 · unfold I64;split <;> omega
theorem Aca (l:List Dx):Oe (l.map fun c=>Dt (Rg c))=Ie l:=by
 unfold Oe Ie B2a;rw [List.flatMap_def]
theorem Ch.snoc {α β:Type}{P:α→β→Prop}{l:List α}{m:List β}{a:α}{b:β}(z:Ch P l m)(h:P a b):Ch P (l++[a]) (m++[b]):=by
 refine ⟨by simp [z.1],fun i x y h1 h2 => ?_⟩
 by_cases hi:i<l.length
 · rw [List.getElem?_append_left hi] at h1
   rw [List.getElem?_append_left (z.1 ▸ hi)] at h2
   exact z.2 i x y h1 h2
 · rw [List.getElem?_append_right QAd] at h1
   rw [List.getElem?_append_right (by rw [← z.1];omega)] at h2
   have hl:=z.1
   have e:i-l.length=0:=by
    have:=(List.getElem?_eq_some_iff.1 h1).1
    simp at this;omega
   rw [e] at h1
   rw [show i-m.length=0 by omega] at h2
   injection h1 with h1;injection h2 with h2
   subst h1;subst h2;exact h
theorem shown_c {d:Nat}(h:Ro)(A:Option Addr)(n c:Nat)(l:List Dx)(hx:Ar Ox 2 h A n l)(hn:n≤1000000)(hl:∀ c∈l,I64 c.p):Res prog 192 #[.slice A n c] h (VR (d+3) (Ie l)):=by
 refine QXR Proofs.Tryz.func192 fun w0 X0=>?_
 have hlen:=hx.len
 repeat' (first|refine QFs ?_|(refine QB ?_;intro b)|(refine QG ?_;first|(apply Aa;exact J;exact Jca;exact Iza _ _ _ _))|fail)
 rename_i b2
 generalize b=b3
 refine Fg 192 5 ?_
 refine Ai (X:=Nat×List Va×Option Addr×Nat×Ro) (fun x=>x.1≤n∧x.2.1.length=x.1∧Le h x.2.2.2.2∧Ch (Jq (d+2) x.2.2.2.2) x.2.1 ((l.take x.1).map fun c=>Dt (Rg c))) (fun x=>n-x.1)
  (fun x=>[(9,.int .i64 x.1),(8,.int .i64 n),(7,.slice A n c),(3,.pointer (some ⟨b3,0,none⟩)),(2,.pointer (some ⟨b2,0,none⟩))])
  (fun x=>[Blk b3 192 (vaC (Ep x.2.2.1 x.1 x.2.2.2.1)),Bd 192 5 (.slice x.2.2.1 x.1 x.2.2.2.1) x.1 (x.2.1.flatMap vaC),Blk b2 192 (vaC va0)]) (fun x=>x.2.2.2.2) (0,[],none,0,h) ⟨by dsimp only;omega,rfl,Le.refl _,⟨rfl,fun i a b h1=>by simp at h1⟩⟩ QS QT rfl ?_
 rintro ⟨k,vs,A1,c1,hh⟩ ⟨hk,hvl,hle,hz⟩ ih
 dsimp only at hk hvl hle hz ih ⊢
 by_cases hkn:k<n
 · have a1:=hx.addrD hkn
   have cc:=(hx.cellsD Dg hkn).le hle
   have ht:=Cb Dg hlen hkn
   have hc0:=Bza _ (hl _ (mem7 Dg (show k<l.length by omega)))
   generalize l.getD k Dg=u at *
   repeat' (first|refine QFs ?_|(apply Af;exact J;exact J;(first|exact QAc|exact QAo);exact QA)|(refine QB ?_;intro b)|(apply Ad (n:=5) [0,1,2,3,4,5,6,7,8,9,10,11,12] [(0,0),(1,0),(2,0),(3,0),(4,0),(5,0),(6,1),(7,1),(8,1),(9,1),(10,1),(11,0),(12,1)];kernel_rfl)|(apply Ao;exact J;kernel_rfl;(iterate 3 exact J);(first|(refine QE2 ?_;intro b1 h1 hle1 hcs1;refine ⟨hle1,QN,?_⟩)|(apply Ag;exact J;exact Ov;exact Sg (d:=d) _ _ 2 2 (Rg u) (Do hcs1) QAd hc0;rintro v2 h2 hle2 ⟨v,rfl,hv⟩;refine ⟨hle2,QN,?_⟩)|(refine QEm ?_;intro b4 h4 hle4 hs4;refine ⟨hle4,QN,?_⟩)|(refine QFb ?_;intro A2 c2;refine ⟨Le.refl _,QN,?_⟩)|(apply Aa;exact J;exact has193;exact truth_c _ _;refine ⟨Le.refl _,QN,?_⟩)))|(refine QH ?_ ?_<;>intro hc<;>try omega)|fail)
   all_goals
    have h3:=ih (k+1,vs++[v],A2,c2,h4) ⟨by dsimp only;omega,by simp [hvl],by dsimp only;exact hle.trans QAa,by
     dsimp only;rw [ht,List.map_append];exact (hz.imp fun a b q=>q.le QAa).snoc (hv.le hle4)⟩ QAh
    dsimp only at h3
    refine Aj QS QT (h3)
 · rw [List.take_of_length_le QAd] at hz
   clear ih
   have hkk:k=n:=by omega
   subst hkk
   repeat' (first|refine QFs ?_|(refine QH ?_ ?_<;>intro hc<;>try omega)|fail)
   refine Nj (enc:=vaC) (xs:=vs) Cj hvl QK ?_
   intro A2 c2 h4 hle4 e2 hs4
   injection e2 with e21 _ e23
   subst e21;subst e23
   refine Bw rfl rfl rfl QM rfl rfl ⟨Ep A1 k c1,rfl,?_⟩
   rw [← Aca]
   exact Fp hs4 (hz.imp fun a b q=>q.le hle4) hn
end Go.Hw
