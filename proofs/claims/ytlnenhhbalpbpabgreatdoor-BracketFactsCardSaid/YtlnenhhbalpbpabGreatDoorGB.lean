import Derived.Test.YtlnenhhbalpbpabGreatDoorGA
import Derived.Test.YtlnenhhbalpbpabGreatDoorHC
import Derived.Test.YtlnenhhbalpbpabGreatDoorLSh
import Derived.Lib.ItoaLen
set_option linter.all false
set_option maxRecDepth 100000
set_option maxHeartbeats 4000000
namespace Go.Hw
open Go
attribute [local irreducible] GO GOl GDp Val Fn Res At Fx Blk By Dk Cl Has
open Go.Proofs (Tryz.prog)
open Classical in
theorem kk1_c (h:Ro)(s:Fsh)(f:Fct)(hf:FAt h s f)(hs:FSm f):Val Tryz.prog 121 #[Fc s f] h (.bool (decide (EntOk f))):=by
 refine Az (args:=[_]) ts_ok Go.Proofs.Tryz.func121 rfl rfl fun w0 X0 => ?_
 obtain ⟨n1,n2,n3,n4,n5,n6⟩:=hf.small hs
 repeat' (first|apply Ac|apply Aa|apply Ab|(apply Ad;(iterate 3 exact J))|(apply Ai;exact J;exact Av rfl QM rfl;exact J;exact J)|(apply Af;(iterate 3 exact J);(first|(apply Ao;exact J;intro b;skip)|(apply Aq;exact J;exact has122;exact Hpa _ s f hf.cl (by omega) (by have:=hs.2.2.2;omega);skip)))|(apply Bb;(iterate 3 exact J)))
 all_goals rfl
theorem kk3_c (h:Ro)(s:Fsh)(f:Fct):Val Tryz.prog 124 #[Fc s f] h (.bool (decide (Fd f.fg∧Bel f.venue 4096))):=by
 refine Az (args:=[_]) ts_ok Go.Proofs.Tryz.func124 rfl rfl fun w0 X0 => ?_
 repeat' (first|apply Ac|apply Aa|apply Ab|(apply Aw;exact J;exact J)|(apply Ad;(iterate 3 exact J))|(apply Ai;exact J;exact Av rfl QM rfl;exact J;exact J)|(apply Af;(iterate 3 exact J);(first|(apply Ao;exact J;intro b;skip)|(apply Aq;exact J;exact Xo;exact Xr _ f.fg;skip)|(apply Aq;exact J;exact Hba;exact Nd _ _ _;skip)))|(apply Ba;exact J;exact J;all_goals (intro hc;try simp only [hcS,reduceCtorEq] at hc;try (exfalso;omega)))|(apply Bb;(iterate 3 exact J)))
 all_goals (refine Dg ?_;grind)
open Classical in
theorem kk5_c (h:Ro)(s:Fsh)(f:Fct)(hf:FAt h s f)(hs:FSm f):Val Tryz.prog 126 #[Fc s f] h (.bool (decide (Gw f.sh))):=by
 refine Az (args:=[_]) ts_ok Go.Proofs.Tryz.func126 rfl rfl fun w0 X0 => ?_
 repeat' (first|apply Ac|apply Aa|apply Ab|(apply Ad;(iterate 3 exact J))|(apply Ai;exact J;exact Av rfl QM rfl;exact J;exact J)|(apply Af;(iterate 3 exact J);(first|(apply Ao;exact J;intro b;skip)|(apply Aq;exact J;exact has127;exact sheet7_c _ s f.sh hf.sh hs.1;skip)))|(apply Bb;(iterate 3 exact J)))
 all_goals rfl
open Classical in
theorem kk7_c (h:Ro)(s:Fsh)(f:Fct):Val Tryz.prog 129 #[Fc s f] h (.bool (decide (Fsa f.ru))):=by
 refine Az (args:=[_]) ts_ok Go.Proofs.Tryz.func129 rfl rfl fun w0 X0 => ?_
 repeat' (first|apply Ac|apply Aa|apply Ab|(apply Ad;(iterate 3 exact J))|(apply Ai;exact J;exact Av rfl QM rfl;exact J;exact J)|(apply Af;(iterate 3 exact J);(first|(apply Ao;exact J;intro b;skip)|(apply Aq;exact J;exact has130;exact ruling_c _ f.ru;skip)))|(apply Bb;(iterate 3 exact J)))
 all_goals rfl
theorem kk9_c (h:Ro)(s:Fsh)(f:Fct):Val Tryz.prog 132 #[Fc s f] h (.bool (decide (1≤f.aCase∧f.aCase≤1048576∧1≤f.aInst∧f.aInst<3))):=by
 refine Az (args:=[_]) ts_ok Go.Proofs.Tryz.func132 rfl rfl fun w0 X0 => ?_
 repeat' (first|apply Ac|apply Aa|apply Ab|(apply Aw;exact J;exact J)|(apply Ad;(iterate 3 exact J))|(apply Ai;exact J;exact Av rfl QM rfl;exact J;exact J)|(apply Af;(iterate 3 exact J);(first|(apply Ao;exact J;intro b;skip)))|(apply Ba;exact J;exact J;all_goals (intro hc;try simp only [hcS,reduceCtorEq] at hc;try (exfalso;omega)))|(apply Bb;(iterate 3 exact J)))
 all_goals (refine Dg ?_;(try rw [ltI_t]);grind)
theorem kk11_c (h:Ro)(s:Fsh)(f:Fct):Val Tryz.prog 134 #[Fc s f] h (.bool (decide (Bel f.mP 8192∧(f.mTo = -1∨Bel f.mTo 192)))):=by
 refine Az (args:=[_]) ts_ok Go.Proofs.Tryz.func134 rfl rfl fun w0 X0 => ?_
 repeat' (first|apply Ac|apply Aa|apply Ab|(apply Aw;exact J;exact J)|(apply Ad;(iterate 3 exact J))|(apply Ai;exact J;exact Av rfl QM rfl;exact J;exact J)|(apply Af;(iterate 3 exact J);(first|(apply Ao;exact J;intro b;skip)|(apply Aq;exact J;exact has135;exact Wy _ _;skip)|(apply Aq;exact J;exact Hda;exact Qy _ _;skip)))|(apply Ba;exact J;exact J;all_goals (intro hc;try simp only [hcS,reduceCtorEq] at hc;try (exfalso;omega)))|(apply Bb;(iterate 3 exact J)))
 all_goals (refine Dg ?_;(try rw [Kt]);grind)
open Classical in
theorem kk13_c (h:Ro)(s:Fsh)(f:Fct)(hf:FAt h s f)(hs:FSm f):Val Tryz.prog 137 #[Fc s f] h (.bool (decide (LotOk f))):=by
 refine Az (args:=[_]) ts_ok Go.Proofs.Tryz.func137 rfl rfl fun w0 X0 => ?_
 obtain ⟨n1,n2,n3,n4,n5,n6⟩:=hf.small hs
 repeat' (first|apply Ac|apply Aa|apply Ab|(apply Ad;(iterate 3 exact J))|(apply Ai;exact J;exact Av rfl QM rfl;exact J;exact J)|(apply Af;(iterate 3 exact J);(first|(apply Ao;exact J;intro b;skip)|(apply Aq;exact J;exact has138;exact lot7_c _ s f hf.lo (by omega);skip)))|(apply Bb;(iterate 3 exact J)))
 all_goals rfl
theorem kk15_c (h:Ro)(s:Fsh)(f:Fct):Val Tryz.prog 140 #[Fc s f] h (.bool true):=by
 refine Az (args:=[_]) ts_ok Go.Proofs.Tryz.func140 rfl rfl fun w0 X0 => ?_
 repeat' (first|apply Ac|apply Aa|apply Ab|(apply Ad;(iterate 3 exact J))|(apply Af;(iterate 3 exact J);(first|(apply Ao;exact J;intro b;skip)))|(apply Bb;(iterate 3 exact J)))
 all_goals rfl
theorem kk2_c (h:Ro)(bq:Nat)(s t:Fsh)(f x:Fct):Fn Tryz.prog 123 #[Fc s f,.pointer (some ⟨bq,0,none⟩)] [Blk bq 57 (Dx t x)] h (Hu bq 57 (Dx { t with cl:=s.cl } { x with eS:=f.eS,eC:=f.eC,eClubs:=f.eClubs,eRules:=f.eRules })):=by
 refine Bo (args:=[_,_]) ts_ok Go.Proofs.Tryz.func123 rfl rfl fun w0 X0 => ?_
 repeat' (first|apply Ac|apply Aa|apply Ab|(apply Ad;(iterate 3 exact J))|(apply Ai;exact J;exact Av rfl QM rfl;exact J;exact J)|(apply Af;(iterate 3 exact J);(first|(apply Ah;(iterate 3 exact J);exact QR;(iterate 3 exact J);skip)|(apply Ao;exact J;intro b;skip))))
 exact Cs (Es':=[Blk bq 57 (Dx { t with cl:=s.cl } { x with eS:=f.eS,eC:=f.eC,eClubs:=f.eClubs,eRules:=f.eRules })]) QT (Fe (rs:=[]) (vs:=[]) rfl rfl trivial ⟨rfl,rfl⟩)
theorem kk4_c (h:Ro)(bq:Nat)(s t:Fsh)(f x:Fct):Fn Tryz.prog 125 #[Fc s f,.pointer (some ⟨bq,0,none⟩)] [Blk bq 57 (Dx t x)] h (Hu bq 57 (Dx t { x with fg:=f.fg,venue:=f.venue })):=by
 refine Bo (args:=[_,_]) ts_ok Go.Proofs.Tryz.func125 rfl rfl fun w0 X0 => ?_
 repeat' (first|apply Ac|apply Aa|apply Ab|(apply Ad;(iterate 3 exact J))|(apply Ai;exact J;exact Av rfl QM rfl;exact J;exact J)|(apply Af;(iterate 3 exact J);(first|(apply Ah;(iterate 3 exact J);exact QR;(iterate 3 exact J);skip)|(apply Ao;exact J;intro b;skip))))
 exact Cs (Es':=[Blk bq 57 (Dx t { x with fg:=f.fg,venue:=f.venue })]) QT (Fe (rs:=[]) (vs:=[]) rfl rfl trivial ⟨rfl,rfl⟩)
theorem kk6_c (h:Ro)(bq:Nat)(s t:Fsh)(f x:Fct):Fn Tryz.prog 128 #[Fc s f,.pointer (some ⟨bq,0,none⟩)] [Blk bq 57 (Dx t x)] h (Hu bq 57 (Dx { t with hs:=s.hs,asn:=s.asn,hc:=s.hc,ac:=s.ac } { x with sh:=f.sh })):=by
 refine Bo (args:=[_,_]) ts_ok Go.Proofs.Tryz.func128 rfl rfl fun w0 X0 => ?_
 repeat' (first|apply Ac|apply Aa|apply Ab|(apply Ad;(iterate 3 exact J))|(apply Ai;exact J;exact Av rfl QM rfl;exact J;exact J)|(apply Af;(iterate 3 exact J);(first|(apply Ah;(iterate 3 exact J);exact QR;(iterate 3 exact J);skip)|(apply Ao;exact J;intro b;skip))))
 exact Cs (Es':=[Blk bq 57 (Dx { t with hs:=s.hs,asn:=s.asn,hc:=s.hc,ac:=s.ac } { x with sh:=f.sh })]) QT (Fe (rs:=[]) (vs:=[]) rfl rfl trivial ⟨rfl,rfl⟩)
theorem kk8_c (h:Ro)(bq:Nat)(s t:Fsh)(f x:Fct):Fn Tryz.prog 131 #[Fc s f,.pointer (some ⟨bq,0,none⟩)] [Blk bq 57 (Dx t x)] h (Hu bq 57 (Dx t { x with ru:=f.ru })):=by
 refine Bo (args:=[_,_]) ts_ok Go.Proofs.Tryz.func131 rfl rfl fun w0 X0 => ?_
 repeat' (first|apply Ac|apply Aa|apply Ab|(apply Ad;(iterate 3 exact J))|(apply Ai;exact J;exact Av rfl QM rfl;exact J;exact J)|(apply Af;(iterate 3 exact J);(first|(apply Ah;(iterate 3 exact J);exact QR;(iterate 3 exact J);skip)|(apply Ao;exact J;intro b;skip))))
 exact Cs (Es':=[Blk bq 57 (Dx t { x with ru:=f.ru })]) QT (Fe (rs:=[]) (vs:=[]) rfl rfl trivial ⟨rfl,rfl⟩)
theorem kk10_c (h:Ro)(bq:Nat)(s t:Fsh)(f x:Fct):Fn Tryz.prog 133 #[Fc s f,.pointer (some ⟨bq,0,none⟩)] [Blk bq 57 (Dx t x)] h (Hu bq 57 (Dx t { x with aCase:=f.aCase,aInst:=f.aInst,aSusp:=f.aSusp })):=by
 refine Bo (args:=[_,_]) ts_ok Go.Proofs.Tryz.func133 rfl rfl fun w0 X0 => ?_
 repeat' (first|apply Ac|apply Aa|apply Ab|(apply Ad;(iterate 3 exact J))|(apply Ai;exact J;exact Av rfl QM rfl;exact J;exact J)|(apply Af;(iterate 3 exact J);(first|(apply Ah;(iterate 3 exact J);exact QR;(iterate 3 exact J);skip)|(apply Ao;exact J;intro b;skip))))
 exact Cs (Es':=[Blk bq 57 (Dx t { x with aCase:=f.aCase,aInst:=f.aInst,aSusp:=f.aSusp })]) QT (Fe (rs:=[]) (vs:=[]) rfl rfl trivial ⟨rfl,rfl⟩)
theorem kk12_c (h:Ro)(bq:Nat)(s t:Fsh)(f x:Fct):Fn Tryz.prog 136 #[Fc s f,.pointer (some ⟨bq,0,none⟩)] [Blk bq 57 (Dx t x)] h (Hu bq 57 (Dx t { x with mP:=f.mP,mTo:=f.mTo })):=by
 refine Bo (args:=[_,_]) ts_ok Go.Proofs.Tryz.func136 rfl rfl fun w0 X0 => ?_
 repeat' (first|apply Ac|apply Aa|apply Ab|(apply Ad;(iterate 3 exact J))|(apply Ai;exact J;exact Av rfl QM rfl;exact J;exact J)|(apply Af;(iterate 3 exact J);(first|(apply Ah;(iterate 3 exact J);exact QR;(iterate 3 exact J);skip)|(apply Ao;exact J;intro b;skip))))
 exact Cs (Es':=[Blk bq 57 (Dx t { x with mP:=f.mP,mTo:=f.mTo })]) QT (Fe (rs:=[]) (vs:=[]) rfl rfl trivial ⟨rfl,rfl⟩)
theorem kk14_c (h:Ro)(bq:Nat)(s t:Fsh)(f x:Fct):Fn Tryz.prog 139 #[Fc s f,.pointer (some ⟨bq,0,none⟩)] [Blk bq 57 (Dx t x)] h (Hu bq 57 (Dx { t with lo:=s.lo } { x with lS:=f.lS,lC:=f.lC,lO:=f.lO })):=by
 refine Bo (args:=[_,_]) ts_ok Go.Proofs.Tryz.func139 rfl rfl fun w0 X0 => ?_
 repeat' (first|apply Ac|apply Aa|apply Ab|(apply Ad;(iterate 3 exact J))|(apply Ai;exact J;exact Av rfl QM rfl;exact J;exact J)|(apply Af;(iterate 3 exact J);(first|(apply Ah;(iterate 3 exact J);exact QR;(iterate 3 exact J);skip)|(apply Ao;exact J;intro b;skip))))
 exact Cs (Es':=[Blk bq 57 (Dx { t with lo:=s.lo } { x with lS:=f.lS,lC:=f.lC,lO:=f.lO })]) QT (Fe (rs:=[]) (vs:=[]) rfl rfl trivial ⟨rfl,rfl⟩)
theorem kk16_c (h:Ro)(bq:Nat)(s t:Fsh)(f x:Fct):Fn Tryz.prog 141 #[Fc s f,.pointer (some ⟨bq,0,none⟩)] [Blk bq 57 (Dx t x)] h (Hu bq 57 (Dx t { x with void:=f.void })):=by
 refine Bo (args:=[_,_]) ts_ok Go.Proofs.Tryz.func141 rfl rfl fun w0 X0 => ?_
 repeat' (first|apply Ac|apply Aa|apply Ab|(apply Ad;(iterate 3 exact J))|(apply Ai;exact J;exact Av rfl QM rfl;exact J;exact J)|(apply Af;(iterate 3 exact J);(first|(apply Ah;(iterate 3 exact J);exact QR;(iterate 3 exact J);skip)|(apply Ao;exact J;intro b;skip))))
 exact Cs (Es':=[Blk bq 57 (Dx t { x with void:=f.void })]) QT (Fe (rs:=[]) (vs:=[]) rfl rfl trivial ⟨rfl,rfl⟩)
def Ema:List (Int×(Value×Value)):=kL [
 (1,(fnV 121 [],fnV 123 [])),
 (2,(fnV 124 [],fnV 125 [])),
 (3,(fnV 126 [],fnV 128 [])),
 (4,(fnV 129 [],fnV 131 [])),
 (5,(fnV 132 [],fnV 133 [])),
 (6,(fnV 134 [],fnV 136 [])),
 (7,(fnV 137 [],fnV 139 [])),
 (8,(fnV 140 [],fnV 141 []))]
theorem Bsa (h:Ro):Fn Tryz.prog 82 #[] [] h fun v Es h'=>∃ bm,v=.map (some bm)∧Es=[Dk (fun i:Int=>.int .i64 i) shV bm Ema]:=by
 refine Bo (args:=[]) ts_ok Go.Proofs.Tryz.func82 rfl rfl fun w0 X0 => ?_
 repeat' (first|apply Ac|apply Aa|apply Ab|(apply Ad;(iterate 3 exact J))|(apply Af;(iterate 3 exact J);(first|(apply Et (fun i:Int=>.int .i64 i) shV;intro bm;skip)|(apply A2a K7;(iterate 5 exact J);exact QR;skip))))
 exact Ca rfl rfl rfl (List.Sublist.refl _) ⟨bm,rfl,rfl⟩
theorem Ha (k:Int):Cv k Ema =
  if 8=k then some (fnV 140 [],fnV 141 [])
  else if 7=k then some (fnV 137 [],fnV 139 [])
  else if 6=k then some (fnV 134 [],fnV 136 [])
  else if 5=k then some (fnV 132 [],fnV 133 [])
  else if 4=k then some (fnV 129 [],fnV 131 [])
  else if 3=k then some (fnV 126 [],fnV 128 [])
  else if 2=k then some (fnV 124 [],fnV 125 [])
  else if 1=k then some (fnV 121 [],fnV 123 [])
  else none:=by
 unfold Ema kL
 simp only [List.foldl_cons,List.foldl_nil,To,Cv]
def Fa (f:Fct):Fct:={ Jp with kind:=f.kind,day:=f.day,known:=f.known }
def FctK (s:Fsh) (f:Fct) (g kf:Nat) (gb:Bool) (s':Fsh):Prop :=
 Cv f.kind Ema=some (fnV g [],fnV kf [])∧Has Tryz.prog g∧Has Tryz.prog kf∧(gb=true↔Fb f)∧(∀ h',FAt h' s f→Val Tryz.prog g ([]++[Fc s f]++[]).toArray h' (.bool gb)) ∧
 ((∀ h',FAt h' s f→FAt h' s' (Nr f))∧FSm (Nr f)) ∧
 ∀ h' bq,Fn Tryz.prog kf ([]++[Fc s f,.pointer (some ⟨bq,0,none⟩)]++[]).toArray [Blk bq 57 (Dx Nv (Fa f))] h' (Hu bq 57 (Dx s' (Nr f)))
theorem Ol {s:Fsh}{f:Fct}{g kf:Nat}{gb:Bool}{s':Fsh}{x:Fct}(hl:Cv f.kind Ema=some (fnV g [],fnV kf []))(hg:Has Tryz.prog g)(hk:Has Tryz.prog kf)(hgb:gb=true↔Fb f)
 (hv:∀ h',FAt h' s f→Val Tryz.prog g ([]++[Fc s f]++[]).toArray h' (.bool gb)) (hx:x=Nr f) (ha:(∀ h',FAt h' s f→FAt h' s' x)∧FSm x)
 (hf:∀ h' bq,Fn Tryz.prog kf ([]++[Fc s f,.pointer (some ⟨bq,0,none⟩)]++[]).toArray [Blk bq 57 (Dx Nv (Fa f))] h' (Hu bq 57 (Dx s' x))) :
 ∃ g kf gb s',FctK s f g kf gb s':=⟨g,kf,gb,s',hl,hg,hk,hgb,hv,hx ▸ ha,hx ▸ hf⟩
theorem Goa:Iea Ki:=by unfold Iea Ki;simp
open Classical in
theorem fct_kind (s:Fsh)(f:Fct)(hs:FSm f)(hk:1≤f.kind∧f.kind≤8):∃ g kf gb s',FctK s f g kf gb s':=by
 have:f.kind=1∨f.kind=2∨f.kind=3∨f.kind=4∨f.kind=5∨f.kind=6∨f.kind=7∨f.kind=8:=by omega
 rcases this with e|e|e|e|e|e|e|e
 · exact Ol (s':={ Nv with cl:=s.cl }) (x:={ Fa f with eS:=f.eS,eC:=f.eC,eClubs:=f.eClubs,eRules:=f.eRules }) (by rw [Ha,e];rfl) has121 has123 (by rw [decide_eq_true_eq,Fb,e];rfl) (fun h' a=>kk1_c h' s f a hs) (by simp [Nr,Fa,Jp,e]) (⟨fun h' a=>⟨⟨Cc.nil,Cc.nil,Cc.nil,Cc.nil⟩,a.cl,Cc.nil,rfl,Nat.le_refl _⟩,Goa,hs.2.1,by simp [Fa,Jp],hs.2.2.2⟩) (fun h' bq=>kk2_c h' bq s Nv f (Fa f))
 · exact Ol (s':=Nv) (x:={ Fa f with fg:=f.fg,venue:=f.venue }) (by rw [Ha,e];rfl) has124 has125 (by rw [decide_eq_true_eq,Fb,e];rfl) (fun h' a=>kk3_c h' s f) (by simp [Nr,Fa,Jp,e]) (⟨fun h' a=>⟨Vl.nil h',Cc.nil,Cc.nil,rfl,Nat.le_refl _⟩,Goa,by simp [Fa,Jp],by simp [Fa,Jp],by simp [Fa,Jp]⟩) (fun h' bq=>kk4_c h' bq s Nv f (Fa f))
 · exact Ol (s':={ Nv with hs:=s.hs,asn:=s.asn,hc:=s.hc,ac:=s.ac }) (x:={ Fa f with sh:=f.sh }) (by rw [Ha,e];rfl) has126 has128 (by rw [decide_eq_true_eq,Fb,e];rfl) (fun h' a=>kk5_c h' s f a hs) (by simp [Nr,Fa,Jp,e]) (⟨fun h' a=>⟨⟨a.sh.hs,a.sh.asn,a.sh.hc,a.sh.ac⟩,Cc.nil,Cc.nil,rfl,Nat.le_refl _⟩,hs.1,by simp [Fa,Jp],by simp [Fa,Jp],by simp [Fa,Jp]⟩) (fun h' bq=>kk6_c h' bq s Nv f (Fa f))
 · exact Ol (s':=Nv) (x:={ Fa f with ru:=f.ru }) (by rw [Ha,e];rfl) has129 has131 (by rw [decide_eq_true_eq,Fb,e];rfl) (fun h' a=>kk7_c h' s f) (by simp [Nr,Fa,Jp,e]) (⟨fun h' a=>⟨Vl.nil h',Cc.nil,Cc.nil,rfl,Nat.le_refl _⟩,Goa,by simp [Fa,Jp],by simp [Fa,Jp],by simp [Fa,Jp]⟩) (fun h' bq=>kk8_c h' bq s Nv f (Fa f))
 · exact Ol (s':=Nv) (x:={ Fa f with aCase:=f.aCase,aInst:=f.aInst,aSusp:=f.aSusp }) (by rw [Ha,e];rfl) has132 has133 (by rw [decide_eq_true_eq,Fb,e];rfl) (fun h' a=>kk9_c h' s f) (by simp [Nr,Fa,Jp,e]) (⟨fun h' a=>⟨Vl.nil h',Cc.nil,Cc.nil,rfl,Nat.le_refl _⟩,Goa,by simp [Fa,Jp],by simp [Fa,Jp],by simp [Fa,Jp]⟩) (fun h' bq=>kk10_c h' bq s Nv f (Fa f))
 · exact Ol (s':=Nv) (x:={ Fa f with mP:=f.mP,mTo:=f.mTo }) (by rw [Ha,e];rfl) has134 has136 (by rw [decide_eq_true_eq,Fb,e];rfl) (fun h' a=>kk11_c h' s f) (by simp [Nr,Fa,Jp,e]) (⟨fun h' a=>⟨Vl.nil h',Cc.nil,Cc.nil,rfl,Nat.le_refl _⟩,Goa,by simp [Fa,Jp],by simp [Fa,Jp],by simp [Fa,Jp]⟩) (fun h' bq=>kk12_c h' bq s Nv f (Fa f))
 · exact Ol (s':={ Nv with lo:=s.lo }) (x:={ Fa f with lS:=f.lS,lC:=f.lC,lO:=f.lO }) (by rw [Ha,e];rfl) has137 has139 (by rw [decide_eq_true_eq,Fb,e];rfl) (fun h' a=>kk13_c h' s f a hs) (by simp [Nr,Fa,Jp,e]) (⟨fun h' a=>⟨⟨Cc.nil,Cc.nil,Cc.nil,Cc.nil⟩,Cc.nil,a.lo,rfl,a.lc⟩,Goa,by simp [Fa,Jp],hs.2.2.1,by simp [Fa,Jp]⟩) (fun h' bq=>kk14_c h' bq s Nv f (Fa f))
 · exact Ol (s':=Nv) (x:={ Fa f with void:=f.void }) (by rw [Ha,e];rfl) has140 has141 (by rw [Fb,e];simp) (fun h' a=>kk15_c h' s f) (by simp [Nr,Fa,Jp,e]) (⟨fun h' a=>⟨Vl.nil h',Cc.nil,Cc.nil,a.void,Nat.le_refl _⟩,Goa,by simp [Fa,Jp],by simp [Fa,Jp],by simp [Fa,Jp]⟩) (fun h' bq=>kk16_c h' bq s Nv f (Fa f))
theorem Sg (f:Fct)(hk:¬ (1≤f.kind∧f.kind≤8)):Cv f.kind Ema=none∧¬ Fb f:=by
 constructor
 · rw [Ha]
   repeat rw [if_neg (by omega)]
 · rw [Fb]
   repeat rw [if_neg (by omega)]
   omega
open Classical in
theorem Na (h:Ro)(s:Fsh)(f:Fct)(hf:FAt h s f)(hs:FSm f):Val Tryz.prog 46 #[Fc s f] h (.int .i64 (if Cg f then 0 else 70)):=by
 refine Az (args:=[_]) ts_ok Go.Proofs.Tryz.func46 rfl rfl fun w0 X0 => ?_
 by_cases hk:1≤f.kind∧f.kind≤8
 · obtain ⟨g,kf,gb,s',hl,hg,hkf,hgb,hv,⟨hat,hsm⟩,hfn⟩:=fct_kind s f hs hk
   repeat' (first|apply Ac|apply Au|apply Aa|apply Ab|(apply Aw;exact J;exact J)|(apply Ad;(iterate 3 exact J))|(apply Ai;exact J;exact Av rfl QM rfl;exact J;exact J)|(apply Af;(iterate 3 exact J);(first|(apply Ah;(iterate 3 exact J);exact QR;(iterate 3 exact J);skip)|(apply Ao;exact J;intro b;skip)|(apply Ag;exact J;intro b;skip)|(apply Cd (f:=g) (fs:=[]) (cs:=[]);exact J;exact J;exact hg;exact hv _ (hf.le QL);skip)|(apply Fp (f:=kf) (fs:=[]) (cs:=[]);exact J;exact J;exact hkf;exact hfn _ _;exact QT;rintro v1 E1 h1 hle1 ⟨rfl,rfl⟩;skip)|(apply Aq;exact J;exact has84;exact same7_c _ s' (Nr f) (hat _ (hf.le QL)) hsm s f (hf.le QL) hs;skip)|(apply Aq;exact J;exact has83;exact day7_c _ _;skip)))|(apply Bf (n:=1) [0,1,2,3,4,5,7,8,6,9] [(1,0),(2,0),(0,2),(7,7),(3,0),(4,0),(5,0),(6,0),(7,1),(8,1),(9,0),(0,1),(3,0),(4,0),(5,0),(6,0),(8,1),(9,0)];kernel_rfl)|(apply Ce;exact J;kernel_rfl;(iterate 3 exact J))|(apply Bj;exact J;kernel_rfl;(iterate 3 exact J);exact QM;exact J;exact J)|(apply De;exact J;kernel_rfl;exact J;exact J;(first|(apply If (ek:=fun i:Int=>.int .i64 i) (ev:=shV) (key:=f.kind) (m:=Ema) (r:=some (fnV g [],fnV kf [])) K7;(iterate 5 exact J);exact hl));exact QA)|(apply Br;exact J;kernel_rfl;(iterate 3 exact J);(first|(apply Ah;(iterate 3 exact J);exact QR;(iterate 3 exact J);refine ⟨Le.refl _,QN,?_⟩)|(apply Ag;exact J;intro b;refine ⟨Le.refl _,QN,?_⟩)|(apply Bi;exact J;exact has82;exact Bsa _;exact QT;rintro v0 E0 h0 hle0 ⟨bm,rfl,rfl⟩;refine ⟨hle0,QN,?_⟩)))|(apply Ia;kernel_rfl;exact J;exact J)|(apply Cj;(iterate 4 exact J);(first|(apply Ag;exact J;intro b;refine ⟨Le.refl _,QN,?_⟩)|(apply Bi;exact J;exact has82;exact Bsa _;exact QT;rintro v0 E0 h0 hle0 ⟨bm,rfl,rfl⟩;refine ⟨hle0,QN,?_⟩)))|(apply Bm;kernel_rfl;exact J)|(apply Aj;exact J;all_goals (intro hc;try simp only [hcS,reduceCtorEq] at hc;try (exfalso;omega)))|(apply Ba;exact J;exact J;all_goals (intro hc;try simp only [hcS,reduceCtorEq] at hc;try (exfalso;omega))))
   all_goals (first|(apply Bb;(iterate 3 exact J)))
   all_goals (first|(rw [if_pos (show Cg f from by unfold Cg;grind)];done)|(rw [if_neg (show ¬ Cg f from by unfold Cg;grind)];done))
 · repeat' (first|apply Ac|apply Aa|apply Ab|(apply Aw;exact J;exact J)|(apply Ad;(iterate 3 exact J))|(apply Af;(iterate 3 exact J);(first|(apply Ao;exact J;intro b;skip)))|(apply Bf (n:=1) [0,1,2,3,4,5,7,8,6,9] [(1,0),(2,0),(0,2),(7,7),(3,0),(4,0),(5,0),(6,0),(7,1),(8,1),(9,0),(0,1),(3,0),(4,0),(5,0),(6,0),(8,1),(9,0)];kernel_rfl)|(apply Ce;exact J;kernel_rfl;(iterate 3 exact J))|(apply Bj;exact J;kernel_rfl;(iterate 3 exact J);exact QM;exact J;exact J)|(apply De;exact J;kernel_rfl;exact J;exact J;(first|(apply If (ek:=fun i:Int=>.int .i64 i) (ev:=shV) (key:=f.kind) (m:=Ema) (r:=none) K7;(iterate 5 exact J);exact (Sg f hk).1));exact QA)|(apply Br;exact J;kernel_rfl;(iterate 3 exact J);(first|(apply Ah;(iterate 3 exact J);exact QR;(iterate 3 exact J);refine ⟨Le.refl _,QN,?_⟩)|(apply Ag;exact J;intro b;refine ⟨Le.refl _,QN,?_⟩)|(apply Bi;exact J;exact has82;exact Bsa _;exact QT;rintro v0 E0 h0 hle0 ⟨bm,rfl,rfl⟩;refine ⟨hle0,QN,?_⟩)))|(apply Ia;kernel_rfl;exact J;exact J)|(apply Cj;(iterate 4 exact J);(first|(apply Ag;exact J;intro b;refine ⟨Le.refl _,QN,?_⟩)|(apply Bi;exact J;exact has82;exact Bsa _;exact QT;rintro v0 E0 h0 hle0 ⟨bm,rfl,rfl⟩;refine ⟨hle0,QN,?_⟩)))|(apply Bm;kernel_rfl;exact J)|(apply Aj;exact J;all_goals (intro hc;try simp only [hcS,reduceCtorEq] at hc;try (exfalso;omega))))
   all_goals (first|(apply Bb;(iterate 3 exact J)))
   all_goals (rw [if_neg (show ¬ Cg f from fun hh=>(Sg f hk).2 hh.2.2.1)])
end Go.Hw
namespace Go.Hw
open Go
attribute [local irreducible] GO GOl GDp Val Fn Res At Fx Blk By Dk Cl Has
open Go.Proofs (Tryz.prog)
def Kg (h:Ro):Prop:=VarG Tryz.prog h "internal/strconv.uint64pow10" (Lib.pow10Tab.map fun z=>.int .u64 z)
theorem Kg.le {h h':Ro}(g:Kg h)(hl:Le h h'):Kg h':=VarG.le g hl
theorem small7_c (h:Ro)(u:Nat)(hu:u<100):Val Tryz.prog 308 #[.int .i64 u] h (.string (str (Lib.decDigits u))) :=
 Uw fun w _=>Go.Proofs.Tryz.internal_strconv_small u hu w
theorem nd7_c (h:Ro)(hG:Kg h)(u:Nat)(h1:1≤u)(h2:u<18446744073709551616):Val Tryz.prog 309 #[.int .u64 u] h (.int .i64 (Lib.nDigits u)) :=
 Uw fun w hl=>Go.Proofs.Tryz.internal_strconv_numDigits u h1 h2 w (hG.tab hl)
theorem fmt7_c (h:Ro)(b u:Nat)(hu1:1≤u)(hu:u<18446744073709551616):Fn Tryz.prog 310 #[.slice (some ⟨b,0,none⟩) (Lib.nDigits u) 24,.int .u64 u] [Blk b 356 (List.replicate 24 (.int .u8 0))] h
  fun v Es _=>v=.tuple #[]∧Es=[Blk b 356 ((Lib.decDigits u).flatMap Il++List.replicate (24-Lib.nDigits u) (.int .u8 0))]:=by
 have hn20:Lib.nDigits u≤20:=by have:=Lib.numDigits_eq u hu1 hu;split at this <;> omega
 have e:List.replicate 24 (Value.int .u8 0)=List.replicate (Lib.nDigits u) (Value.int .u8 0)++List.replicate (24-Lib.nDigits u) (Value.int .u8 0):=by
  rw [List.replicate_append_replicate];congr 1;omega
 rw [e]
 exact fmtFn (fun blk off cap u d w=>Go.Proofs.Tryz.internal_strconv_formatBase10 blk off cap u d w) h b _ 24 u _ _ hu1 hu rfl
theorem At.pre {h:Ro}{ad:Addr}{vs us:List Value}(c:At h ad (vs++us)):At h ad vs:=by
 unfold At at c ⊢
 exact fun j v e=>c j v (by rw [List.getElem?_append_left (List.getElem?_eq_some_iff.1 e).1];exact e)
theorem encB_one:∀ x,∀ u∈Il x,u.oneCell'=true:=fun x=>Ci rfl
theorem Lo (l:List UInt8):∀ u∈l.flatMap Il,u.oneCell'=true:=fun u hu=>by
 obtain ⟨x,_,h2⟩:=List.mem_flatMap.1 hu
 exact encB_one x u h2
theorem fmB_len (l:List UInt8):(l.flatMap Il).length=l.length * 1:=Di (sz:=1) (fun _=>rfl) l
def Gc (n:Nat) (xs:List Value) (l:List UInt8):Value→List Asn→Ro→Prop:=fun v Es _ =>
 ∃ A c,v=.slice A (n+l.length) c∧Es=[By 5 1 (.slice A (n+l.length) c) (n+l.length) (xs++l.flatMap Il)]
theorem appU_c (h:Ro)(hG:Kg h)(sv:Value)(n:Nat)(xs:List Value)(u:Nat)(hu:u<18446744073709551616)(hn:n≤900000000):Fn Tryz.prog 294 #[sv,.int .u64 u,.int .i64 10] [By 5 1 sv n xs] h (Gc n xs (Lib.decDigits u)):=by
 refine Bo (args:=[_,_,_]) ts_ok Go.Proofs.Tryz.func294 rfl rfl fun w0 X0 => ?_
 have hdl:(Lib.decDigits u).length=Lib.nDigits u:=Lib.decDigits_length u
 by_cases h100:u<100
 · have hs:=small7_c h u h100
   rw [← Xm (u:Int) (by omega)] at hs
   have hl2:(Lib.decDigits u).length≤20:=by
    by_cases h0:u=0
    · subst h0;rw [Lib.decDigits,dif_pos (by omega)];simp
    · rw [hdl];have:=Lib.numDigits_eq u (by omega) hu;split at this <;> omega
   repeat' (first|apply Ac|apply Aa|apply Ab|(apply Ad;(iterate 3 exact J))|(apply Af;(iterate 3 exact J);(first|(apply Aq;exact J;exact has308;exact hs;skip)|(apply Uy;(iterate 10 exact J);intro v1;exact QR;omega;intro A1 c1;skip)))|(apply Aj;exact J;all_goals (intro hc;try simp only [hcS,reduceCtorEq] at hc;try (exfalso;omega))))
   exact Ca rfl rfl rfl (List.Sublist.refl _) ⟨A1,c1,rfl,rfl⟩
 · have h1:1≤u:=by omega
   have hn20:Lib.nDigits u≤20:=by have:=Lib.numDigits_eq u h1 hu;split at this <;> omega
   have hf:=fun b=>fmt7_c h b u h1 hu
   have hq:=fmB_len (Lib.decDigits u)
   repeat' (first|apply Ac|apply Au|apply Aa|apply Ab|(apply Ad;(iterate 3 exact J))|(apply Bd;exact J;exact J;(first|(apply Ima (n:=Lib.nDigits u);(iterate 6 exact J);omega));exact QA)|(apply Af;(iterate 3 exact J);(first|(apply Ag;exact J;intro b;skip)|(apply Aq;exact J;exact has309;exact nd7_c _ hG u h1 hu;skip)|(apply Bi;exact J;exact has310;exact hf _;exact QT;rintro v0 E0 h0 hle0 ⟨rfl,rfl⟩;skip)|(refine Cq QK ?_;intro h2 hle2 hc2;apply Ef (cs:=(Lib.decDigits u).flatMap Il);(iterate 7 exact J);exact hc2.pre;intro v1;exact QR;(rw [hq,hdl];rfl);exact Lo _;omega;exact J;intro A1 c1;skip)))|(apply Aj;exact J;all_goals (intro hc;try simp only [hcS,reduceCtorEq] at hc;try (exfalso;omega))))
   all_goals (try (exfalso;omega))
   rw [← hdl]
   exact Ca rfl rfl rfl (List.Sublist.refl _) ⟨A1,c1,rfl,rfl⟩
theorem grew_two {n:Nat}{xs:List Value}{a b:List UInt8}{v:Value}{Es:List Asn}{h:Ro}(g:Gc (n+a.length) (xs++a.flatMap Il) b v Es h):Gc n xs (a++b) v Es h:=by
 obtain ⟨A,c,rfl,rfl⟩:=g
 refine ⟨A,c,?_,?_⟩
 · rw [List.length_append,Nat.add_assoc]
 · rw [List.length_append,Nat.add_assoc,List.flatMap_append,List.append_assoc]
theorem appI_c (h:Ro)(hG:Kg h)(sv:Value)(n:Nat)(xs:List Value)(i:Int)(h0 : -9223372036854775808≤i)(h1:i≤9223372036854775807)(hn:n≤800000000):Fn Tryz.prog 259 #[sv,.int .i64 i,.int .i64 10] [By 5 1 sv n xs] h (Gc n xs (Lib.itoa i)):=by
 refine Bo (args:=[_,_,_]) ts_ok Go.Proofs.Tryz.func259 rfl rfl fun w0 X0 => ?_
 by_cases hi:i<0
 · have ei:Lib.itoa i=[45]++Lib.decDigits i.natAbs:=by unfold Lib.itoa;rw [if_pos hi];rfl
   have ew:IntKind.u64.wrap (0-IntKind.u64.wrap i)=(i.natAbs:Int):=by rw [IntKind.wrap_u64,IntKind.wrap_u64];omega
   have hcon:∀ h' sv,Le h h'→Fn Tryz.prog 294 #[sv,.int .u64 (IntKind.u64.wrap (0-IntKind.u64.wrap i)),.int .i64 10] [By 5 1 sv (n+1) (xs++[(45:UInt8)].flatMap Il)] h' (Gc (n+1) (xs++[(45:UInt8)].flatMap Il) (Lib.decDigits i.natAbs)):=fun h' sv hle=>by
    rw [ew];exact appU_c h' (hG.le hle) sv (n+1) _ i.natAbs (by omega) (by omega)
   repeat' (first|apply Ac|apply Aa|apply Ab|(apply Ad;(iterate 3 exact J))|(apply Af;(iterate 3 exact J);(first|(apply Bu;(iterate 3 exact J);exact List.cons_ne_nil _ _;(iterate 4 exact J);intro b1 h1 hle1 hcs1;skip)|(apply Ef (cs:=[(45:UInt8)].flatMap Il);(iterate 7 exact J);exact hcs1;intro v1;exact QR;exact J;exact Lo _;omega;exact J;intro A1 c1;skip)|(apply Bi;exact J;exact has294;exact hcon _ _ QL;exact QT;rintro v2 E2 h2 hle2 hg;skip)))|(apply Aj;exact J;all_goals (intro hc;try simp only [hcS,reduceCtorEq] at hc;try (exfalso;omega))))
   have hg':Gc (n+[(45:UInt8)].length) (xs++[(45:UInt8)].flatMap Il) (Lib.decDigits i.natAbs) v2 E2 h2:=hg
   rw [ei]
   exact Ca rfl rfl rfl (List.sublist_append_left _ _) (grew_two hg')
 · have ei:Lib.itoa i=Lib.decDigits i.toNat:=by unfold Lib.itoa;rw [if_neg hi]
   have ew:IntKind.u64.wrap i=(i.toNat:Int):=by rw [IntKind.wrap_u64];omega
   have hcon:Fn Tryz.prog 294 #[sv,.int .u64 (IntKind.u64.wrap i),.int .i64 10] [By 5 1 sv n xs] h (Gc n xs (Lib.decDigits i.toNat)):=by
    rw [ew];exact appU_c h hG sv n _ i.toNat (by omega) (by omega)
   repeat' (first|apply Ac|apply Au|apply Aa|apply Ab|(apply Ad;(iterate 3 exact J))|(apply Af;(iterate 3 exact J);(first|(apply Bi;exact J;exact has294;exact hcon;exact QT;rintro v2 E2 h2 hle2 hg;skip)))|(apply Aj;exact J;all_goals (intro hc;try simp only [hcS,reduceCtorEq] at hc;try (exfalso;omega))))
   rw [ei]
   exact Ca rfl rfl rfl (List.sublist_append_left _ _) hg
theorem Cma (h:Ro)(hG:Kg h)(sv:Value)(n:Nat)(xs:List Value)(i:Int)(h0 : -9223372036854775808≤i)(h1:i≤9223372036854775807)(hn:n≤800000000):Fn Tryz.prog 240 #[sv,.int .i64 i,.int .i64 10] [By 5 1 sv n xs] h (Gc n xs (Lib.itoa i)):=by
 refine Bo (args:=[_,_,_]) ts_ok Go.Proofs.Tryz.func240 rfl rfl fun w0 X0 => ?_
 repeat' (first|apply Ac|apply Aa|apply Ab|(apply Ad;(iterate 3 exact J))|(apply Af;(iterate 3 exact J);(first|(apply Bi;exact J;exact has259;exact appI_c h hG sv n xs i h0 h1 hn;exact QT;rintro v2 E2 h2 hle2 hg;skip))))
 exact Ca rfl rfl rfl (List.sublist_append_left _ _) hg
end Go.Hw
namespace Go.Hw
open Go
attribute [local irreducible] GO GOl GDp Val Fn Res At Fx Blk By Dk Cl Has
open Go.Proofs (Tryz.prog)
structure Va where
 k:Int
 n:Int
 s:List UInt8
 L:Sli
 K:Sli
def vaC (v:Va):List Value:=[.int .i64 v.k,.int .i64 v.n,.string (str v.s),.slice v.L.A v.L.n v.L.c,.slice v.K.A v.K.n v.K.c]
def vaV (v:Va):Value:=.agg (vaC v).toArray
def encS7 (s:List UInt8):List Value:=[.string (str s)]
def Gu {α β:Type} (P:α→β→Prop) (l:List α) (m:List β):Prop:=l.length=m.length∧∀ (i:Nat) (a:α) (b:β),l[i]? = some a→m[i]? = some b→P a b
def I64 (n:Int):Prop:=-9223372036854775808≤n∧n≤9223372036854775807
def Fma (ks bss:List (List UInt8)):List UInt8:=100::((ks.zip bss).flatMap (fun p=>Hf p.1++p.2)++[101])
def Kqa (bss:List (List UInt8)):List UInt8:=108::(bss.flatten++[101])
def Pz:Nat→Ro→Va→List UInt8→Prop
 | 0,_,_,_=>False
 | d+1,h,v,bs =>
   (∃ n,v=⟨1,n,[],Ja,Ja⟩∧I64 n∧bs=Fi n)∨(∃ s,v=⟨2,0,s,Ja,Ja⟩∧bs=Hf s) ∨
   (∃ L vs bss,v=⟨3,0,[],L,Ja⟩∧Cc vaC 5 h L.A L.n vs∧Gu (Pz d h) vs bss∧L.n≤1000000∧bs=Kqa bss) ∨
   (∃ L K vs bss ks,v=⟨4,0,[],L,K⟩∧Cc vaC 5 h L.A L.n vs∧Gu (Pz d h) vs bss∧Cc encS7 1 h K.A K.n ks∧ks.length=vs.length∧(ks.Pairwise fun a b=>Op.bytesLess a b=true)∧L.n≤1000000∧bs=Fma ks bss)
theorem Gu.imp {α β:Type}{P Q:α→β→Prop}{l:List α}{m:List β}(z:Gu P l m)(h:∀ a b,P a b→Q a b):Gu Q l m:=⟨z.1,fun i a b h1 h2=>h a b (z.2 i a b h1 h2)⟩
theorem Pz.le:∀ {d:Nat} {h h':Ro} {v:Va} {bs:List UInt8},Pz d h v bs→Le h h'→Pz d h' v bs
 | 0,_,_,_,_,e,_=>e.elim
 | d+1,h,h',v,bs,e,hl=>by
   rcases e with e|e|⟨L,vs,bss,e1,e2,e3,e4⟩|⟨L,K,vs,bss,ks,e1,e2,e3,e4,e5,e6,e7⟩
   · exact .inl e
   · exact .inr (.inl e)
   · exact .inr (.inr (.inl ⟨L,vs,bss,e1,e2.le hl,e3.imp fun a b q=>Pz.le q hl,e4⟩))
   · exact .inr (.inr (.inr ⟨L,K,vs,bss,ks,e1,e2.le hl,e3.imp fun a b q=>Pz.le q hl,e4.le hl,e5,e6,e7⟩))
theorem Pz.kind {d:Nat}{h:Ro}{v:Va}{bs:List UInt8}(e:Pz d h v bs):1≤v.k∧v.k≤4:=by
 cases d with
 | zero=>exact e.elim
 | succ d =>
   rcases e with ⟨n,rfl,_⟩|⟨s,rfl,_⟩|⟨L,vs,bss,rfl,_⟩|⟨L,K,vs,bss,ks,rfl,_⟩ <;> (constructor <;> (dsimp only;omega))
def va0:Va:=⟨0,0,[],Ja,Ja⟩
theorem Dw (v:Va):(vaC v).length=5:=rfl
theorem Qm:∀ v,∀ u∈vaC v,u.oneCell'=true:=fun v=>Ci rfl
theorem Bza {n m:Nat}{xs ys:List Value}{l:List UInt8}{A:Option Addr}{c:Nat}{h:Ro}(e1:m=n+l.length)(e2:ys=xs++l.flatMap Il):Gc n xs l (.slice A m c) [By 5 1 (.slice A m c) m ys] h:=by
 subst e1;subst e2;exact ⟨A,c,rfl,rfl⟩
theorem text7_c (h:Ro)(hG:Kg h)(sv:Value)(n:Nat)(xs:List Value)(s:List UInt8)(hn:n+s.length≤700000000):Fn Tryz.prog 242 #[sv,.string (str s)] [By 5 1 sv n xs] h (Gc n xs (Hf s)):=by
 refine Bo (args:=[_,_]) ts_ok Go.Proofs.Tryz.func242 rfl rfl fun w0 X0 => ?_
 have hil:(Lib.itoa s.length).length≤21:=by have:=Lib.itoa_length_le (s.length:Int) (by omega) (by omega);omega
 repeat' (first|apply Ac|apply Aa|apply Ab|(apply Ad;(iterate 3 exact J))|(apply Af;(iterate 3 exact J);(first|(apply Bi;exact J;exact has240;exact Cma h hG sv n xs (s.length:Int) (by omega) (by omega) (by omega);exact QT;rintro v2 E2 h2 hle2 ⟨A2,c2,rfl,rfl⟩;skip)|(apply Bu;(iterate 3 exact J);exact List.cons_ne_nil _ _;(iterate 4 exact J);intro b1 h1 hle1 hcs1;skip)|(apply Ef (cs:=[(58:UInt8)].flatMap Il);(iterate 7 exact J);exact hcs1;intro v1;exact QR;exact J;exact Lo _;omega;exact J;intro A1 c1;skip)|(apply Uy (s:=s);(iterate 10 exact J);intro v1;exact QR;omega;intro A3 c3;skip))))
 refine Ca rfl rfl rfl (List.Sublist.refl _) (Bza ?_ ?_)
 · unfold Hf;simp only [List.length_append,List.length_cons];omega
 · unfold Hf;rw [List.flatMap_append,List.flatMap_cons];simp only [List.append_assoc];rfl
def wid (k:Int):Nat:=if k=1 then 239 else if k=2 then 241 else if k=3 then 243 else 244
def wcap (k:Int) (pb:Nat):List Value:=if k≤2 then [] else [.pointer (some ⟨pb,0,none⟩)]
def wV (k:Int) (pb:Nat):Value:=.func (.func (wid k)) #[] (wcap k pb).toArray
structure WAt (h:Ro) (pb wb:Nat):Prop where
 box:At h ⟨pb,0,none⟩ [.pointer (some ⟨wb,0,none⟩)]
 tab:At h ⟨wb,0,none⟩ [.nilFunc,wV 1 pb,wV 2 pb,wV 3 pb,wV 4 pb]
theorem WAt.le {h h':Ro}{pb wb:Nat}(w:WAt h pb wb)(hl:Le h h'):WAt h' pb wb:=⟨w.box.le hl,w.tab.le hl⟩
theorem WAt.at_ {h:Ro}{pb wb:Nat}(w:WAt h pb wb){k:Int}(h1:1≤k)(h2:k≤4):At h ((⟨wb,0,none⟩:Addr).add (k.toNat * 1)) [wV k pb]:=by
 have hs:=w.tab.shift (k.toNat * 1)
 have:k=1∨k=2∨k=3∨k=4:=by omega
 rcases this with rfl|rfl|rfl|rfl
 · exact hs.pre (vs:=[wV 1 pb]) (us:=[wV 2 pb,wV 3 pb,wV 4 pb])
 · exact hs.pre (vs:=[wV 2 pb]) (us:=[wV 3 pb,wV 4 pb])
 · exact hs.pre (vs:=[wV 3 pb]) (us:=[wV 4 pb])
 · exact hs.pre (vs:=[wV 4 pb]) (us:=[])
theorem Haa {k:Int}:Has Tryz.prog (wid k):=by
 unfold wid
 split
 · exact has239
 · split
   · exact has241
   · split
     · exact has243
     · exact has244
def WrOk (d:Nat):Prop:=∀ (h:Ro) (pb wb:Nat) (v:Va) (bs:List UInt8) (sv:Value) (n:Nat) (xs:List Value),Kg h→WAt h pb wb→Pz d h v bs→n+bs.length≤600000000 →
 Fn Tryz.prog (wid v.k) ([]++[sv,vaV v]++wcap v.k pb).toArray [By 5 1 sv n xs] h (Gc n xs bs)
theorem wr1_c (h:Ro)(hG:Kg h)(sv:Value)(n:Nat)(xs:List Value)(m:Int)(hm:I64 m)(hn:n≤600000000):Fn Tryz.prog 239 #[sv,vaV ⟨1,m,[],Ja,Ja⟩] [By 5 1 sv n xs] h (Gc n xs (Fi m)):=by
 refine Bo (args:=[_,_]) ts_ok Go.Proofs.Tryz.func239 rfl rfl fun w0 X0 => ?_
 have hil:(Lib.itoa m).length≤21:=Lib.itoa_length_le m hm.1 hm.2
 repeat' (first|apply Ac|apply Aa|apply Ab|(apply Ad;(iterate 3 exact J))|(apply Af;(iterate 3 exact J);(first|(apply Ao;exact J;intro b;skip)))|(apply Bf (n:=1) [0,1,2,3,4,5,6,7,8] [(0,0),(3,0),(4,0),(1,2),(14,6),(2,2),(8,6),(5,2),(3,6),(6,1),(7,1),(8,0),(5,1),(7,1),(8,0),(2,1),(5,1),(7,1),(8,0),(1,1),(2,1),(5,1),(7,1),(8,0)];kernel_rfl)|(apply Ce;exact J;kernel_rfl;(iterate 3 exact J))|(apply Bj;exact J;kernel_rfl;(iterate 3 exact J);exact QM;exact J;exact J)|(apply Br;exact J;kernel_rfl;(iterate 3 exact J);(first|(apply Bi;exact J;exact has240;exact Cma _ (hG.le QL) _ (n+1) (xs++[(105:UInt8)].flatMap Il) m hm.1 hm.2 (by omega);exact QT;rintro v2 E2 h2 hle2 ⟨A2,c2,rfl,rfl⟩;refine ⟨hle2,QN,?_⟩)|(apply Bu (cs:=[(105:UInt8)].flatMap Il);(iterate 3 exact J);exact List.cons_ne_nil _ _;(iterate 4 exact J);intro b1 h1 hle1 hcs1;refine ⟨hle1,QN,?_⟩)|(apply Bu (cs:=[(101:UInt8)].flatMap Il);(iterate 3 exact J);exact List.cons_ne_nil _ _;(iterate 4 exact J);intro b3 h3 hle3 hcs3;refine ⟨hle3,QN,?_⟩)|(apply Ef (cs:=[(105:UInt8)].flatMap Il);(iterate 7 exact J);exact hcs1.le QL;intro v1;exact QR;exact J;exact Lo _;omega;exact J;intro A1 c1;refine ⟨Le.refl _,QN,?_⟩)|(apply Ef (cs:=[(101:UInt8)].flatMap Il);(iterate 7 exact J);exact hcs3.le QL;intro v1;exact QR;exact J;exact Lo _;omega;exact J;intro A1 c1;refine ⟨Le.refl _,QN,?_⟩)))|(apply Ia;kernel_rfl;exact J;exact J)|(apply Cj;(iterate 4 exact J);(first|(apply Bi;exact J;exact has240;exact Cma _ (hG.le QL) _ (n+1) (xs++[(105:UInt8)].flatMap Il) m hm.1 hm.2 (by omega);exact QT;rintro v2 E2 h2 hle2 ⟨A2,c2,rfl,rfl⟩;refine ⟨hle2,QN,?_⟩)|(apply Bu (cs:=[(105:UInt8)].flatMap Il);(iterate 3 exact J);exact List.cons_ne_nil _ _;(iterate 4 exact J);intro b1 h1 hle1 hcs1;refine ⟨hle1,QN,?_⟩)|(apply Bu (cs:=[(101:UInt8)].flatMap Il);(iterate 3 exact J);exact List.cons_ne_nil _ _;(iterate 4 exact J);intro b3 h3 hle3 hcs3;refine ⟨hle3,QN,?_⟩)|(apply Ef (cs:=[(105:UInt8)].flatMap Il);(iterate 7 exact J);exact hcs1.le QL;intro v1;exact QR;exact J;exact Lo _;omega;exact J;intro A1 c1;refine ⟨Le.refl _,QN,?_⟩)))|(apply Bm;kernel_rfl;exact J))
 all_goals (refine Ca rfl rfl rfl (.cons_cons _ (List.nil_sublist _)) (Bza ?_ ?_))
 all_goals first
  | (unfold Fi;simp only [List.length_append,List.length_cons,List.length_nil];omega)
  | (unfold Fi;simp only [List.flatMap_cons,List.flatMap_append,List.append_assoc,List.flatMap_nil,List.append_nil,List.nil_append])
theorem wr2_c (h:Ro)(hG:Kg h)(sv:Value)(n:Nat)(xs:List Value)(s:List UInt8)(hn:n+s.length≤600000000):Fn Tryz.prog 241 #[sv,vaV ⟨2,0,s,Ja,Ja⟩] [By 5 1 sv n xs] h (Gc n xs (Hf s)):=by
 refine Bo (args:=[_,_]) ts_ok Go.Proofs.Tryz.func241 rfl rfl fun w0 X0 => ?_
 repeat' (first|apply Ac|apply Aa|apply Ab|(apply Ad;(iterate 3 exact J))|(apply Ai;exact J;exact Av rfl QM rfl;exact J;exact J)|(apply Af;(iterate 3 exact J);(first|(apply Ao;exact J;intro b;skip)|(apply Bi;exact J;exact has242;exact text7_c h hG sv n xs s (by omega);exact QT;rintro v2 E2 h2 hle2 ⟨A2,c2,rfl,rfl⟩;skip))))
 exact Ca rfl rfl rfl (.cons_cons _ (List.nil_sublist _)) ⟨A2,c2,rfl,rfl⟩
theorem zip_at {d:Nat}{h:Ro}{vs:List Va}{bss:List (List UInt8)}(z:Gu (Pz d h) vs bss){k:Nat}(hk:k<vs.length):Pz d h (vs.getD k va0) (bss.getD k []) :=
 z.2 k _ _ (by simp [List.getD,List.getElem?_eq_getElem hk]) (by simp [List.getD,List.getElem?_eq_getElem (show k<bss.length from z.1 ▸ hk)])
theorem flat_le {bss:List (List UInt8)}{k:Nat}(hk:k<bss.length):(bss.take k).flatten.length+(bss.getD k []).length≤bss.flatten.length:=by
 have h1:=Fq [] rfl hk
 have h2:(bss.take (k+1)).flatten.length≤bss.flatten.length:=by
  conv=>rhs;rw [← List.take_append_drop (k+1) bss,List.flatten_append,List.length_append]
  omega
 rw [h1,List.flatten_append,List.length_append] at h2
 simpa using h2
theorem wr3_c (d:Nat)(ih0:WrOk d)(h:Ro)(hG:Kg h)(pb wb:Nat)(hw:WAt h pb wb)(sv:Value)(n:Nat)(xs:List Value)(L:Sli)(vs:List Va)(bss:List (List UInt8))(hL:Cc vaC 5 h L.A L.n vs)(hz:Gu (Pz d h) vs bss)(hn:n+(Kqa bss).length≤600000000)(hn2:L.n≤1000000000) :
  Fn Tryz.prog 243 #[sv,vaV ⟨3,0,[],L,Ja⟩,.pointer (some ⟨pb,0,none⟩)] [By 5 1 sv n xs] h (Gc n xs (Kqa bss)):=by
 refine Bo (args:=[_,_,_]) ts_ok Go.Proofs.Tryz.func243 rfl rfl fun w0 X0 => ?_
 have hlen:=hL.len
 have hzl:=hz.1
 have hbl:(Kqa bss).length=bss.flatten.length+2:=by unfold Kqa;simp
 repeat' (first|apply Ac|apply Ak|apply Aa|apply Ab|(apply Ad;(iterate 3 exact J))|(apply Ai;exact J;exact Av rfl QM rfl;exact J;exact J)|(apply Af;(iterate 3 exact J);(first|(apply Ao;exact J;intro b;skip)|(apply Bu (cs:=[(108:UInt8)].flatMap Il);(iterate 3 exact J);exact List.cons_ne_nil _ _;(iterate 4 exact J);intro b1 h1 hle1 hcs1;skip)|(apply Ef (cs:=[(108:UInt8)].flatMap Il);(iterate 7 exact J);exact hcs1.le QL;intro v1;exact QR;exact J;exact Lo _;omega;exact J;intro A1 c1;skip))))
 generalize hmm:n+1=m1
 refine Bt (X:=Nat×Option Addr×Nat×Ro) (fun x=>x.1≤L.n∧Le h x.2.2.2) (fun x=>L.n-x.1)
  (fun x=>[(14,.int .i64 x.1),(13,.int .i64 L.n),(12,.slice L.A L.n L.c),(2,.pointer (some ⟨pb,0,none⟩)),(0,.slice x.2.1 (m1+(bss.take x.1).flatten.length) x.2.2.1)])
  (fun x=>[By 5 1 (.slice x.2.1 (m1+(bss.take x.1).flatten.length) x.2.2.1) (m1+(bss.take x.1).flatten.length) (xs++(108::(bss.take x.1).flatten).flatMap Il)]) (fun x=>x.2.2.2) (0,A1,c1,h1) ⟨by dsimp only;omega,hle1⟩ QS QT rfl ?_
 rintro ⟨k,A,c,hh⟩ ⟨hk,hle⟩ ih
 dsimp only at hk hle ih ⊢
 by_cases hkn:k<L.n
 · have a1:=hL.addrD hkn
   have cc:=(hL.cellsD va0 hkn).le hle
   have hv:=(zip_at hz (show k<vs.length by omega)).le hle
   have hfl:=flat_le (show k<bss.length by omega)
   have ht:=Fq [] rfl (show k<bss.length by omega)
   generalize vs.getD k va0=u at *
   generalize bss.getD k []=bb at *
   have hwb:=(hw.le hle).box
   have hwt:=(hw.le hle).at_ hv.kind.1 hv.kind.2
   have huk:=hv.kind
   have hcon:=fun sv n xs hn=>ih0 hh pb wb u bb sv n xs (hG.le hle) (hw.le hle) hv hn
   repeat' (first|apply Ac|apply Au|apply Ap|apply Ak|apply Aa|apply Ab|(apply Bg;(iterate 3 exact J);omega;exact J;exact J)|(apply Ad;(iterate 3 exact J))|(apply Bd;exact J;exact J;(first|(apply Be (j:=k);(iterate 5 exact J);exact a1;(with_reducible exact J);omega)|(apply Ar;exact J;exact Bh rfl cc rfl));exact QA)|(apply Af;(iterate 3 exact J);(first|(apply Ah;(iterate 3 exact J);exact QR;(iterate 3 exact J);skip)|(apply Ag;exact J;intro b;skip)))|(apply Bf (n:=5) [0,1,2,3,4,5,6,7,8,9,10] [(0,0),(1,0),(2,0),(3,0),(4,0),(5,0),(6,0),(7,0),(8,0),(9,1),(10,0)];kernel_rfl)|(apply Ce;exact J;kernel_rfl;(iterate 3 exact J))|(apply Bj;exact J;kernel_rfl;(iterate 3 exact J);exact QM;exact J;exact J)|(apply De;exact J;kernel_rfl;exact J;exact J;(first|(apply Dj (j:=u.k.toNat);(iterate 5 exact J);omega;omega)|(apply Ar;exact J;exact Bh rfl hwb rfl)|(apply Ar;exact J;exact Dc rfl hwt rfl));exact QA)|(apply Br;exact J;kernel_rfl;(iterate 3 exact J);(first|(apply Fp (f:=wid u.k) (fs:=[]) (cs:=wcap u.k pb);exact J;exact J;exact Haa;exact hcon _ (m1+(bss.take k).flatten.length) (xs++(108::(bss.take k).flatten).flatMap Il) (by omega);exact QT;rintro v2 E2 h2 hle2 ⟨A2,c2,rfl,rfl⟩;refine ⟨hle2,QN,?_⟩)))|(apply Bm;kernel_rfl;exact J)|(apply Aj;exact J;all_goals (intro hc;try simp only [hcS,reduceCtorEq] at hc;try (exfalso;omega))))
   all_goals
    have h3:=ih (k+1,A2,c2,h2) ⟨by dsimp only;omega,by dsimp only;exact hle.trans hle2⟩ (by dsimp only;omega)
    dsimp only at h3
    rw [ht,List.flatten_append,List.flatten_singleton,List.length_append,← Nat.add_assoc,← List.cons_append,List.flatMap_append,← List.append_assoc] at h3
    refine Bw QS QT (h3)
 · rw [List.take_of_length_le (by omega)]
   clear ih
   repeat' (first|apply Ac|apply Aa|apply Ab|(apply Bn;exact J)|(apply Ad;(iterate 3 exact J))|(apply Af;(iterate 3 exact J);(first|(apply Bu (cs:=[(101:UInt8)].flatMap Il);(iterate 3 exact J);exact List.cons_ne_nil _ _;(iterate 4 exact J);intro b3 h3 hle3 hcs3;skip)|(apply Ef (cs:=[(101:UInt8)].flatMap Il);(iterate 7 exact J);exact hcs3.le QL;intro v1;exact QR;exact J;exact Lo _;omega;exact J;intro A3 c3;skip)))|(apply Aj;exact J;all_goals (intro hc;try simp only [hcS,reduceCtorEq] at hc;try (exfalso;omega))))
   refine Ca rfl rfl rfl (List.Sublist.refl _) (Bza ?_ ?_)
   · omega
   · unfold Kqa;simp only [List.flatMap_cons,List.flatMap_append,List.append_assoc,List.flatMap_nil,List.append_nil,List.nil_append]
theorem wr4_c (d:Nat)(ih0:WrOk d)(h:Ro)(hG:Kg h)(pb wb:Nat)(hw:WAt h pb wb)(sv:Value)(n:Nat)(xs:List Value)(L K:Sli)(vs:List Va)(bss ks:List (List UInt8))(hL:Cc vaC 5 h L.A L.n vs)(hz:Gu (Pz d h) vs bss)(hK:Cc encS7 1 h K.A K.n ks)(hkl:ks.length=vs.length)(hn:n+(Fma ks bss).length≤600000000)(hn2:L.n≤1000000000) :
  Fn Tryz.prog 244 #[sv,vaV ⟨4,0,[],L,K⟩,.pointer (some ⟨pb,0,none⟩)] [By 5 1 sv n xs] h (Gc n xs (Fma ks bss)):=by
 refine Bo (args:=[_,_,_]) ts_ok Go.Proofs.Tryz.func244 rfl rfl fun w0 X0 => ?_
 have hlen:=hL.len
 have hlenK:=hK.len
 have hzl:=hz.1
 obtain ⟨tt,htt⟩:∃ tt,tt=(ks.zip bss).map (fun p=>Hf p.1++p.2):=⟨_,rfl⟩
 have hfm:(ks.zip bss).flatMap (fun p=>Hf p.1++p.2)=tt.flatten:=by rw [htt,List.flatMap_def]
 have htl:tt.length=vs.length:=by rw [htt,List.length_map,List.length_zip];omega
 have hbl:(Fma ks bss).length=tt.flatten.length+2:=by unfold Fma;rw [hfm];simp
 have hta:∀ k,k<vs.length→tt.getD k []=Hf (ks.getD k [])++bss.getD k []:=fun k hk=>by
  rw [htt];simp [List.getD,List.getElem?_eq_getElem (show k<ks.length by omega),List.getElem?_eq_getElem (show k<bss.length by omega),List.zip_eq_zipWith,List.getElem?_zipWith]
 repeat' (first|apply Ac|apply Ak|apply Aa|apply Ab|(apply Ad;(iterate 3 exact J))|(apply Ai;exact J;exact Av rfl QM rfl;exact J;exact J)|(apply Af;(iterate 3 exact J);(first|(apply Ao;exact J;intro b;skip)|(apply Bu (cs:=[(100:UInt8)].flatMap Il);(iterate 3 exact J);exact List.cons_ne_nil _ _;(iterate 4 exact J);intro b1 h1 hle1 hcs1;skip)|(apply Ef (cs:=[(100:UInt8)].flatMap Il);(iterate 7 exact J);exact hcs1.le QL;intro v1;exact QR;exact J;exact Lo _;omega;exact J;intro A1 c1;skip))))
 generalize hmm:n+1=m1
 generalize b=b0
 refine Bt (X:=Nat×Option Addr×Nat×Ro) (fun x=>x.1≤L.n∧Le h x.2.2.2) (fun x=>L.n-x.1)
  (fun x=>[(14,.int .i64 x.1),(13,.int .i64 L.n),(12,.slice L.A L.n L.c),(2,.pointer (some ⟨pb,0,none⟩)),(4,.pointer (some ⟨b0,0,none⟩)),(0,.slice x.2.1 (m1+(tt.take x.1).flatten.length) x.2.2.1)])
  (fun x=>[By 5 1 (.slice x.2.1 (m1+(tt.take x.1).flatten.length) x.2.2.1) (m1+(tt.take x.1).flatten.length) (xs++(100::(tt.take x.1).flatten).flatMap Il),Blk b0 218 (vaC ⟨4,0,[],L,K⟩)]) (fun x=>x.2.2.2) (0,A1,c1,h1) ⟨by dsimp only;omega,hle1⟩ QS QT rfl ?_
 rintro ⟨k,A,c,hh⟩ ⟨hk,hle⟩ ih
 dsimp only at hk hle ih ⊢
 by_cases hkn:k<L.n
 · have a1:=hL.addrD hkn
   have cc:=(hL.cellsD va0 hkn).le hle
   have hkK:k<K.n:=by omega
   have a2:=hK.addrD hkK
   have c2k:=(hK.cellsD [] (show k<K.n by omega)).le hle
   have hv:=(zip_at hz (show k<vs.length by omega)).le hle
   have hfl:=flat_le (show k<tt.length by omega)
   have ht:=Fq [] rfl (show k<tt.length by omega)
   have hta1:=hta k (by omega)
   generalize vs.getD k va0=u at *
   generalize bss.getD k []=bb at *
   generalize ks.getD k []=kk at *
   have htal:(tt.getD k []).length=(Hf kk).length+bb.length:=by rw [hta1,List.length_append]
   have hkk:kk.length≤(Hf kk).length:=by unfold Hf;simp;omega
   have hwb:=(hw.le hle).box
   have hwt:=(hw.le hle).at_ hv.kind.1 hv.kind.2
   have huk:=hv.kind
   have hcon:=fun h' (hl:Le hh h') sv n xs hn=>ih0 h' pb wb u bb sv n xs (hG.le (hle.trans hl)) (hw.le (hle.trans hl)) (hv.le hl) hn
   repeat' (first|apply Ac|apply Au|apply Ap|apply Ak|apply Aa|apply Ab|(apply Bg;(iterate 3 exact J);omega;exact J;exact J)|(apply Ad;(iterate 3 exact J))|(apply Bd;exact J;exact J;(first|(apply Be (j:=k);(iterate 5 exact J);exact a1;(with_reducible exact J);omega)|(apply Ar;exact J;exact Bh rfl cc rfl));exact QA)|(apply Af;(iterate 3 exact J);(first|(apply Ah;(iterate 3 exact J);exact QR;(iterate 3 exact J);skip)|(apply Ag;exact J;intro b;skip)))|(apply Bf (n:=5) [0,1,2,3,4,5,6,7,8,9,10,11,12,13,14,15,16] [(0,0),(1,0),(2,0),(3,0),(4,0),(5,0),(6,0),(7,0),(8,0),(9,0),(10,0),(11,0),(12,0),(14,0),(13,1),(15,1),(16,0)];kernel_rfl)|(apply Ce;exact J;kernel_rfl;(iterate 3 exact J))|(apply Bj;exact J;kernel_rfl;(iterate 3 exact J);exact QM;exact J;exact J)|(apply De;exact J;kernel_rfl;exact J;exact J;(first|(apply Be (j:=k);(iterate 5 exact J);exact a2;(with_reducible exact J);exact hkK)|(apply Dj (j:=u.k.toNat);(iterate 5 exact J);omega;omega)|(apply Ar;exact J;exact Bh rfl c2k rfl)|(apply Ar;exact J;exact Bh rfl hwb rfl)|(apply Ar;exact J;exact Dc rfl hwt rfl));exact QA)|(apply Br;exact J;kernel_rfl;(iterate 3 exact J);(first|(apply Bi;exact J;exact has242;exact text7_c _ (hG.le QL) _ (m1+(tt.take k).flatten.length) (xs++(100::(tt.take k).flatten).flatMap Il) kk (by omega);exact QT;rintro v2 E2 h2 hle2 ⟨A2,c2,rfl,rfl⟩;refine ⟨hle2,QN,?_⟩)|(apply Fp (f:=wid u.k) (fs:=[]) (cs:=wcap u.k pb);exact J;exact J;exact Haa;exact hcon _ QL _ (m1+(tt.take k).flatten.length+(Hf kk).length) (xs++(100::(tt.take k).flatten).flatMap Il++(Hf kk).flatMap Il) (by omega);exact QT;rintro v3 E3 h3 hle3 ⟨A3,c3,rfl,rfl⟩;refine ⟨hle3,QN,?_⟩)))|(apply Bm;kernel_rfl;exact J)|(apply Aj;exact J;all_goals (intro hc;try simp only [hcS,reduceCtorEq] at hc;try (exfalso;omega))))
   all_goals
    have h3:=ih (k+1,A3,c3,h3) ⟨by dsimp only;omega,by dsimp only;exact hle.trans QL⟩ (by dsimp only;omega)
    dsimp only at h3
    rw [ht,List.flatten_append,List.flatten_singleton,hta1,List.length_append,List.length_append,← Nat.add_assoc,← Nat.add_assoc,← List.cons_append,List.flatMap_append,List.flatMap_append,← List.append_assoc,← List.append_assoc] at h3
    refine Bw QS QT (h3)
 · rw [List.take_of_length_le (by omega)]
   clear ih
   repeat' (first|apply Ac|apply Aa|apply Ab|(apply Bn;exact J)|(apply Ad;(iterate 3 exact J))|(apply Af;(iterate 3 exact J);(first|(apply Bu (cs:=[(101:UInt8)].flatMap Il);(iterate 3 exact J);exact List.cons_ne_nil _ _;(iterate 4 exact J);intro b3 h3 hle3 hcs3;skip)|(apply Ef (cs:=[(101:UInt8)].flatMap Il);(iterate 7 exact J);exact hcs3.le QL;intro v1;exact QR;exact J;exact Lo _;omega;exact J;intro A3 c3;skip)))|(apply Aj;exact J;all_goals (intro hc;try simp only [hcS,reduceCtorEq] at hc;try (exfalso;omega))))
   refine Ca rfl rfl rfl (.cons_cons _ (List.nil_sublist _)) (Bza ?_ ?_)
   · omega
   · unfold Fma;rw [hfm];simp only [List.flatMap_cons,List.flatMap_append,List.append_assoc,List.flatMap_nil,List.append_nil,List.nil_append]
end Go.Hw
namespace Go.Hw
open Go
attribute [local irreducible] GO GOl GDp Val Fn Res At Fx Blk By Dk Cl Has
open Go.Proofs (Tryz.prog)
theorem wr_ok:∀ d,WrOk d
 | 0=>fun h pb wb v bs sv n xs hG hw hv hn=>hv.elim
 | d+1=>fun h pb wb v bs sv n xs hG hw hv hn=>by
   rcases hv with ⟨m,rfl,hm,rfl⟩|⟨s,rfl,rfl⟩|⟨L,vs,bss,rfl,e2,e3,e4,rfl⟩|⟨L,K,vs,bss,ks,rfl,e2,e3,e4,e5,e6,e7,rfl⟩
   · exact wr1_c h hG sv n xs m hm (by omega)
   · exact wr2_c h hG sv n xs s (by unfold Hf at hn;simp at hn;omega)
   · exact wr3_c d (wr_ok d) h hG pb wb hw sv n xs L vs bss e2 e3 hn (by omega)
   · exact wr4_c d (wr_ok d) h hG pb wb hw sv n xs L K vs bss ks e2 e3 e4 e5 hn (by omega)
theorem G3a (h:Ro):Res Tryz.prog 189 #[] h fun v h'=>∃ pb wb,v=.pointer (some ⟨wb,0,none⟩)∧WAt h' pb wb:=by
 refine Bq (args:=[]) ts_ok Go.Proofs.Tryz.func189 rfl rfl fun w0 X0 => ?_
 repeat' (first|apply Ac|apply Aa|apply Ab|(apply Ad;(iterate 3 exact J))|(apply Ai;exact J;exact Av rfl QM rfl;exact J;exact J)|(apply Bd;exact J;exact J;(first|(apply Dj (j:=1);(iterate 6 exact J);exact (by decide))|(apply Dj (j:=2);(iterate 6 exact J);exact (by decide))|(apply Dj (j:=3);(iterate 6 exact J);exact (by decide))|(apply Dj (j:=4);(iterate 6 exact J);exact (by decide)));exact QA)|(apply Af;(iterate 3 exact J);(first|(apply Ah;(iterate 3 exact J);exact QR;(iterate 3 exact J);skip)|(apply Ao;exact J;intro b;skip)|(apply Ag;exact J;intro b;skip))))
 rename_i wb
 refine Gf (b:=wb) QK ?_
 intro h1 hle1 hc1
 refine Gf (b:=b) QK ?_
 intro h2 hle2 hc2
 (first|(apply Cb;(iterate 3 exact J)))
 exact ⟨b,wb,rfl,hc2,hc1.le hle2⟩
theorem sEq (a b:List UInt8):((str a).toList == (⟨#[]⟩:ByteArray).toList)=decide (a=[]):=by
 rw [Io,show (⟨#[]⟩:ByteArray).toList=[] from Io []];exact Si beq_iff_eq
theorem strNil:((str []).toList == (⟨#[]⟩:ByteArray).toList)=true:=by rw [sEq [] []];rfl
theorem empty_c (h:Ro)(d:Nat)(v:Va)(bs:List UInt8)(hv:Pz d h v bs):Val Tryz.prog 258 #[vaV v] h (.bool true):=by
 refine Az (args:=[_]) ts_ok Go.Proofs.Tryz.func258 rfl rfl fun w0 X0 => ?_
 cases d with
 | zero=>exact hv.elim
 | succ d =>
   have hs:=strNil
   rcases hv with ⟨m,rfl,hm,rfl⟩|⟨s,rfl,rfl⟩|⟨L,vs,bss,rfl,e2,e3,e4,rfl⟩|⟨L,K,vs,bss,ks,rfl,e2,e3,e4,e5,e6,e7,rfl⟩
   · repeat' (first|apply Ac|apply Aa|apply Ab|(apply Aw;exact J;exact J)|(apply Ad;(iterate 3 exact J))|(apply Ai;exact J;exact Av rfl QM rfl;exact J;exact J)|(apply Bd;exact J;exact J;(first|(apply Sv (j:=1);(iterate 6 exact J);exact (by decide);exact J));exact QA)|(apply Af;(iterate 3 exact J);(first|(apply Ao;exact J;intro b;skip)))|(apply Ba;exact J;exact J;all_goals (intro hc;try simp only [hcS,reduceCtorEq] at hc;try (exfalso;omega))))
     all_goals (first|((first|(apply Bb;(iterate 3 exact J)));simp [Hm,Ja];done)|(exfalso;simp_all [Ja];done)|skip)
   · repeat' (first|apply Ac|apply Aa|apply Ab|(apply Aw;exact J;exact J)|(apply Ad;(iterate 3 exact J))|(apply Ai;exact J;exact Av rfl QM rfl;exact J;exact J)|(apply Bd;exact J;exact J;(first|(apply Sv (j:=2);(iterate 6 exact J);exact (by decide);exact J));exact QA)|(apply Af;(iterate 3 exact J);(first|(apply Ao;exact J;intro b;skip)))|(apply Ba;exact J;exact J;all_goals (intro hc;try simp only [hcS,reduceCtorEq] at hc;try (exfalso;omega))))
     all_goals (first|((first|(apply Bb;(iterate 3 exact J)));simp [Hm,Ja];done)|(exfalso;simp_all [Ja];done)|skip)
   · repeat' (first|apply Ac|apply Aa|apply Ab|(apply Aw;exact J;exact J)|(apply Ad;(iterate 3 exact J))|(apply Ai;exact J;exact Av rfl QM rfl;exact J;exact J)|(apply Bd;exact J;exact J;(first|(apply Sv (j:=3);(iterate 6 exact J);exact (by decide);exact J));exact QA)|(apply Af;(iterate 3 exact J);(first|(apply Ao;exact J;intro b;skip)))|(apply Ba;exact J;exact J;all_goals (intro hc;try simp only [hcS,reduceCtorEq] at hc;try (exfalso;omega))))
     all_goals (first|((first|(apply Bb;(iterate 3 exact J)));simp [Hm,Ja];done)|(exfalso;simp_all [Ja];done)|skip)
   · have h1:=e2.len
     have h2:=e4.len
     repeat' (first|apply Ac|apply Aa|apply Ab|(apply Aw;exact J;exact J)|(apply Ad;(iterate 3 exact J))|(apply Ai;exact J;exact Av rfl QM rfl;exact J;exact J)|(apply Bd;exact J;exact J;(first|(apply Sv (j:=4);(iterate 6 exact J);exact (by decide);exact J));exact QA)|(apply Af;(iterate 3 exact J);(first|(apply Ao;exact J;intro b;skip)))|(apply Ba;exact J;exact J;all_goals (intro hc;try simp only [hcS,reduceCtorEq] at hc;try (exfalso;omega))))
     all_goals (first|((first|(apply Bb;(iterate 3 exact J)));rw [Hm,decide_eq_true (by dsimp only;omega)];done)|((first|(apply Bb;(iterate 3 exact J)));simp [Hm,Ja];done)|(exfalso;simp_all [Ja];done)|skip)
theorem less_at {ks:List (List UInt8)}(hp:ks.Pairwise fun a b=>Op.bytesLess a b=true){k:Nat}(h0:1≤k)(hk:k<ks.length):Op.bytesLess (ks.getD (k-1) []) (ks.getD k [])=true:=by
 rw [List.pairwise_iff_getElem] at hp
 have:=hp (k-1) k (by omega) hk (by omega)
 simpa [List.getD,List.getElem?_eq_getElem hk,List.getElem?_eq_getElem (show k-1<ks.length by omega)] using this
def FmOk (d:Nat):Prop:=∀ (h:Ro) (v:Va) (bs:List UInt8),Pz d h v bs→Res Tryz.prog 238 #[vaV v] h fun u _=>∃ m:Int,u=.tuple #[.int .i64 m,.bool true]∧0≤m∧m≤d
theorem Xt (d:Nat)(h:Ro)(v:Va)(bs:List UInt8)(hv:Pz d h v bs)(hk:v.k<3)(hK:v.K=Ja):Res Tryz.prog 238 #[vaV v] h fun u _=>u=.tuple #[.int .i64 0,.bool true]:=by
 refine Bq (args:=[_]) ts_ok Go.Proofs.Tryz.func238 rfl rfl fun w0 X0 => ?_
 have hkk:=hv.kind
 obtain ⟨vk,vn,vs,vL,vK⟩:=v
 dsimp only at hk hK hkk
 subst hK
 repeat' (first|apply Ac|apply Au|apply Ak|apply Aa|apply Ab|(apply Ad;(iterate 3 exact J))|(apply Ai;exact J;exact Av rfl QM rfl;exact J;exact J)|(apply Af;(iterate 3 exact J);(first|(apply Ao;exact J;intro b;skip)|(apply Aq;exact J;exact has258;exact empty_c _ d _ bs hv;skip)))|(apply Aj;exact J;all_goals (intro hc;try simp only [hcS,reduceCtorEq] at hc;try (exfalso;omega)))|(apply Ba;exact J;exact J;all_goals (intro hc;try simp only [hcS,reduceCtorEq] at hc;try (exfalso;omega))))
 all_goals (try (exfalso;omega))
 refine Bt (X:=Nat) (fun k=>k=0) (fun k=>0) (fun k=>[(4,.int .i64 1),(2,.int .i64 0),(3,.bool false),(1,.pointer (some ⟨b,0,none⟩))]) (fun _=>[Blk b 218 (vaC ⟨vk,vn,vs,vL,Ja⟩)]) (fun _=>h) 0 rfl QS QT rfl ?_
 rintro k _ ih
 clear ih
 repeat' (first|apply Ac|apply Au|apply Ak|apply Aa|apply Ab|(apply Bn;exact J)|(apply Ad;(iterate 3 exact J))|(apply Ai;exact J;exact Av rfl QM rfl;exact J;exact J)|(apply Bf (n:=6) [0,1,2,3,4,5,6,7,8,9,10,11] [(0,0),(1,0),(2,0),(3,0),(4,0),(5,0),(6,0),(7,0),(8,0),(9,0),(10,0),(11,0)];kernel_rfl)|(apply Vb;exact J;kernel_rfl;(iterate 5 exact J);omega)|(apply Ce;exact J;kernel_rfl;(iterate 3 exact J))|(apply Bj;exact J;kernel_rfl;(iterate 3 exact J);exact QM;exact J;exact J)|(apply Aj;exact J;all_goals (intro hc;try simp only [hcS,reduceCtorEq] at hc;try (exfalso;omega))))
 all_goals first
  | (exfalso;simp [Ja] at *;done)
  | (exfalso;omega)
  | (exact Df rfl rfl rfl rfl rfl)
theorem Xs (d:Nat)(ih0:FmOk d)(h:Ro)(v:Va)(bs:List UInt8)(hv:Pz (d+1) h v bs)(hk:3≤v.k)(vs:List Va)(bss:List (List UInt8))(hL:Cc vaC 5 h v.L.A v.L.n vs)(hz:Gu (Pz d h) vs bss)(hn:v.L.n≤1000000)(ks:List (List UInt8))(hK:Cc encS7 1 h v.K.A v.K.n ks)(hp:ks.Pairwise fun a b=>Op.bytesLess a b=true)(hkn:v.K.n≤1000000)(hd:d≤1000) :
  Res Tryz.prog 238 #[vaV v] h fun u _=>∃ m:Int,u=.tuple #[.int .i64 m,.bool true]∧0≤m∧m≤(d+1:Nat):=by
 refine Bq (args:=[_]) ts_ok Go.Proofs.Tryz.func238 rfl rfl fun w0 X0 => ?_
 have hkk:=hv.kind
 have hlen:=hL.len
 have hlenK:=hK.len
 obtain ⟨vk,vn,vss,vL,vK⟩:=v
 dsimp only at hk hL hn hK hkn hkk hlen hlenK
 repeat' (first|apply Ac|apply Au|apply Ak|apply Aa|apply Ab|(apply Ad;(iterate 3 exact J))|(apply Ai;exact J;exact Av rfl QM rfl;exact J;exact J)|(apply Af;(iterate 3 exact J);(first|(apply Ao;exact J;intro b;skip)|(apply Aq;exact J;exact has258;exact empty_c _ _ _ bs hv;skip)))|(apply Aj;exact J;all_goals (intro hc;try simp only [hcS,reduceCtorEq] at hc;try (exfalso;omega)))|(apply Ba;exact J;exact J;all_goals (intro hc;try simp only [hcS,reduceCtorEq] at hc;try (exfalso;omega))))
 all_goals (try (exfalso;omega))
 generalize b=b0
 refine Bt (X:=Nat) (fun k=>1≤k∧(k≤vK.n∨k=1)) (fun k=>vK.n+1-k) (fun k=>[(4,.int .i64 k),(2,.int .i64 0),(3,.bool false),(1,.pointer (some ⟨b0,0,none⟩))]) (fun _=>[Blk b0 218 (vaC ⟨vk,vn,vss,vL,vK⟩)]) (fun _=>h) 1 ⟨by omega,by omega⟩ QS QT rfl ?_
 rintro k ⟨hk1,hk2⟩ ih
 by_cases hkn2:k<vK.n
 · have a1:=hK.addrD hkn2
   have c1:=hK.cellsD [] hkn2
   have c2:=hK.cellsD [] (show k-1<vK.n by omega)
   have hls:=less_at hp hk1 (by omega)
   generalize ks.getD k []=k1 at *
   generalize ks.getD (k-1) []=k0 at *
   have hkq:k-1<vK.n:=by omega
   have hi1:((k:Int)-1)=((k-1:Nat):Int):=by omega
   repeat' (first|apply Ac|apply Au|apply Ap|apply Ak|apply Aa|apply Ab|(apply Bg;(iterate 3 exact J);omega;exact J;exact J)|(apply Ad;(iterate 3 exact J))|(apply Ai;exact J;exact Av rfl QM rfl;exact J;exact J)|(apply Bf (n:=6) [0,1,2,3,4,5,6,7,8,9,10,11] [(0,0),(1,0),(2,0),(3,0),(4,0),(5,0),(6,0),(7,0),(8,0),(9,0),(10,0),(11,0)];kernel_rfl)|(apply Vb;exact J;kernel_rfl;(iterate 5 exact J);omega)|(apply Ce;exact J;kernel_rfl;(iterate 3 exact J))|(apply Bj;exact J;kernel_rfl;(iterate 3 exact J);exact QM;exact J;exact J)|(apply De;exact J;kernel_rfl;exact J;exact J;(first|(apply Be (j:=k);(iterate 5 exact J);exact a1;(with_reducible exact J);exact hkn2)|(apply Be (j:=k-1);(iterate 5 exact J);exact a1;exact hi1;exact hkq)|(apply Ar;exact J;exact Bh rfl c1 rfl)|(apply Ar;exact J;exact Bh rfl c2 rfl));exact QA)|(apply Bm;kernel_rfl;exact J)|(apply Aj;exact J;all_goals (intro hc;try simp only [hcS,reduceCtorEq] at hc;try (exfalso;omega))))
   all_goals first
    | (exfalso;rw [Io,Io,hls] at *;simp at *;done)
    | (have h3:=ih (k+1) ⟨by omega,by omega⟩ (by omega)
       refine Bw QS QT (h3))
 · clear ih
   repeat' (first|apply Ac|apply Au|apply Ak|apply Aa|apply Ab|(apply Bn;exact J)|(apply Ad;(iterate 3 exact J))|(apply Ai;exact J;exact Av rfl QM rfl;exact J;exact J)|(apply Aj;exact J;all_goals (intro hc;try simp only [hcS,reduceCtorEq] at hc;try (exfalso;omega))))
   all_goals (try (exfalso;dsimp only at *;omega))
   refine Bt (X:=Nat×Int×Ro) (fun x=>x.1≤vL.n∧0≤x.2.1∧x.2.1≤d∧Le h x.2.2) (fun x=>vL.n-x.1) (fun x=>[(47,.int .i64 x.1),(46,.int .i64 vL.n),(45,.slice vL.A vL.n vL.c),(2,.int .i64 x.2.1)]) (fun _=>[]) (fun x=>x.2.2) (0,0,h) ⟨by dsimp only;omega,by dsimp only;omega,by dsimp only;omega,Le.refl _⟩ QS QT rfl ?_
   rintro ⟨j,m0,hh⟩ ⟨hj,hm1,hm2,hle⟩ ih
   dsimp only at hj hm1 hm2 hle ih ⊢
   by_cases hjn:j<vL.n
   · have a1:=hL.addrD hjn
     have cc:=(hL.cellsD va0 hjn).le hle
     have hv2:=(zip_at hz (show j<vs.length by omega)).le hle
     generalize vs.getD j va0=u at *
     generalize bss.getD j []=bb at *
     have hcon:=ih0 hh u bb hv2
     repeat' (first|apply Ac|apply Au|apply Ap|apply Ak|apply Aa|apply Ab|(apply Bg;(iterate 3 exact J);omega;exact J;exact J)|(apply Ad;(iterate 3 exact J))|(apply Ai;exact J;exact Av rfl QM rfl;exact J;exact J)|(apply Bd;exact J;exact J;(first|(apply Be (j:=j);(iterate 5 exact J);exact a1;(with_reducible exact J);exact hjn)|(apply Ar;exact J;exact Bh rfl cc rfl));exact QA)|(apply Af;(iterate 3 exact J);(first|(apply Ah;(iterate 3 exact J);exact QR;(iterate 3 exact J);skip)|(apply Ag;exact J;intro b;skip)|(apply Ay;exact J;exact has238;exact hcon;rintro v1 h1 hle1 ⟨m,rfl,q1,q2⟩;skip)))|(apply Aj;exact J;all_goals (intro hc;try simp only [hcS,reduceCtorEq] at hc;try (exfalso;omega))))
     have hmx:0≤max m0 m∧max m0 m≤d:=by rw [Int.max_def];split <;> omega
     have h3:=ih (j+1,max m0 m,h1) ⟨by dsimp only;omega,hmx.1,hmx.2,hle.trans hle1⟩ (by dsimp only;omega)
     dsimp only at h3
     refine Bw QS QT (h3)
   · clear ih
     repeat' (first|apply Ac|apply Aa|apply Ab|(apply Bn;exact J)|(apply Bg;(iterate 3 exact J);omega;exact J;exact J)|(apply Ad;(iterate 3 exact J))|(apply Aj;exact J;all_goals (intro hc;try simp only [hcS,reduceCtorEq] at hc;try (exfalso;omega))))
     exact Df rfl rfl rfl rfl ⟨m0+1,rfl,by omega,by omega⟩
theorem fm_ok:∀ d,d≤1000→FmOk d
 | 0,_=>fun h v bs hv=>hv.elim
 | d+1,hd=>fun h v bs hv=>by
   have hv0:=hv
   rcases hv with ⟨m,rfl,hm,rfl⟩|⟨s,rfl,rfl⟩|⟨L,vs,bss,rfl,e2,e3,e4,rfl⟩|⟨L,K,vs,bss,ks,rfl,e2,e3,e4,e5,e6,e7,rfl⟩
   · exact (Xt _ h _ _ hv0 (by dsimp only;omega) rfl).mono fun u _ _ e=>⟨0,e,by omega,by omega⟩
   · exact (Xt _ h _ _ hv0 (by dsimp only;omega) rfl).mono fun u _ _ e=>⟨0,e,by omega,by omega⟩
   · exact Xs d (fm_ok d (by omega)) h _ _ hv0 (by dsimp only;omega) vs bss e2 e3 e4 [] Cc.nil .nil (by simp [Ja]) (by omega)
   · have h1:=e2.len
     have h2:=e4.len
     exact Xs d (fm_ok d (by omega)) h _ _ hv0 (by dsimp only;omega) vs bss e2 e3 e7 ks e4 e6 (by dsimp only;omega) (by omega)
theorem checkV_c (h:Ro)(d:Nat)(hd:d≤16)(v:Va)(bs:List UInt8)(hv:Pz d h v bs):Res Tryz.prog 188 #[vaV v] h fun u _=>u=.int .i64 0:=by
 refine Bq (args:=[_]) ts_ok Go.Proofs.Tryz.func188 rfl rfl fun w0 X0 => ?_
 repeat' (first|apply Ac|apply Au|apply Ap|apply Ak|apply Aa|apply Ab|(apply Ad;(iterate 3 exact J))|(apply Ai;exact J;exact Av rfl QM rfl;exact J;exact J)|(apply Af;(iterate 3 exact J);(first|(apply Ao;exact J;intro b;skip)|(apply Ay;exact J;exact has238;exact fm_ok d (by omega) h v bs hv;rintro v1 h1 hle1 ⟨m,rfl,q1,q2⟩;skip)))|(apply Aj;exact J;all_goals (intro hc;try simp only [hcS,reduceCtorEq] at hc;try (exfalso;omega))))
 all_goals first
  | (exfalso;omega)
  | (exact Cb rfl rfl rfl rfl)
theorem encode_c (h:Ro)(hG:Kg h)(d:Nat)(hd:d≤16)(v:Va)(bs:List UInt8)(hv:Pz d h v bs)(hb:bs.length≤500000000):Res Tryz.prog 144 #[vaV v] h fun u h'=>∃ A c,u=.tuple #[.slice A bs.length c,.int .i64 0]∧Cc Il 1 h' A bs.length bs:=by
 refine Bq (args:=[_]) ts_ok Go.Proofs.Tryz.func144 rfl rfl fun w0 X0 => ?_
 have hk:=hv.kind
 refine Eh 5 1 ?_
 repeat' (first|apply Ac|apply Au|apply Aa|apply Ab|(apply Ad;(iterate 3 exact J))|(apply Ai;exact J;exact Av rfl QM rfl;exact J;exact J)|(apply Af;(iterate 3 exact J);(first|(apply Ao;exact J;intro b;skip)|(apply Ay;exact J;exact has188;exact checkV_c h d hd v bs hv;rintro v1 h1 hle1 rfl;skip)))|(apply Bf (n:=4) [0,1,2,3,4,5,6,7,8,9,10] [(1,0),(2,0),(7,0),(0,1),(3,0),(4,0),(5,0),(6,0),(8,1),(9,0),(10,0)];kernel_rfl)|(apply Ce;exact J;kernel_rfl;(iterate 3 exact J))|(apply Bj;exact J;kernel_rfl;(iterate 3 exact J);exact QM;exact J;exact J)|(apply De;exact J;kernel_rfl;exact J;exact J;(first|(apply Dj (j:=v.k.toNat);(iterate 5 exact J);omega;omega)|(apply Ar;exact J;exact Dc rfl (hwa.at_ hk.1 hk.2) rfl));exact QA)|(apply Br;exact J;kernel_rfl;(iterate 3 exact J);(first|(apply Ay;exact J;exact has189;exact G3a _;rintro v2 h2 hle2 ⟨pb,wb,rfl,hwa⟩;refine ⟨hle2,QN,?_⟩)|(apply Fp (f:=wid v.k) (fs:=[]) (cs:=wcap v.k pb);exact J;exact J;exact Haa;exact wr_ok d _ pb wb v bs _ 0 [] (hG.le QL) hwa (hv.le QL) (by omega);exact QT;rintro v3 E3 h3 hle3 ⟨A3,c3,rfl,rfl⟩;refine ⟨hle3,QN,?_⟩)))|(apply Bm;kernel_rfl;exact J)|(apply Aj;exact J;all_goals (intro hc;try simp only [hcS,reduceCtorEq] at hc;try (exfalso;omega))))
 simp only [Nat.zero_add,List.nil_append]
 refine Ge (enc:=Il) (e:=5) (xs:=bs) (fun _=>rfl) rfl QK ?_
 intro A2 c2 h4 hle4 e2 hnc hs
 injection e2 with e21 _ e23
 subst e21;subst e23
 exact Df rfl rfl rfl rfl ⟨_,_,rfl,hs⟩
end Go.Hw
namespace Go.Hw
open Go
attribute [local irreducible] GO GOl GDp Val Fn Res At Fx Blk By Dk Cl Has
open Go.Proofs (Tryz.prog)
def Gi (n:Int):Va:=⟨1,n,[],Ja,Ja⟩
def Daa (s:List UInt8):Va:=⟨2,0,s,Ja,Ja⟩
def Jt (A:Option Addr) (n c:Nat):Va:=⟨3,0,[],⟨A,n,c⟩,Ja⟩
theorem Fn_free {P:Program}{f:FuncId}{args:Array Value}{Es0:List Asn}{h0:Ro}{Post Post':Value→List Asn→Ro→Prop}(hf:Fn P f args Es0 h0 Post)
  (hp:∀ v Es h,Le h0 h→Post v Es h→∃ A Fs,Es=A::Fs∧∀ D h',Le h h'→A.holds D h'→Post' v Fs h'):Fn P f args Es0 h0 Post':=by
 unfold Fn at hf ⊢
 intro w X0 hl ho
 refine (hf w X0 hl ho).mono ?_
 rintro e w' ⟨v,rfl,Es,h,hP,H⟩
 obtain ⟨A,Fs,rfl,hq⟩:=hp v Es h H.le hP
 obtain ⟨D,h',h1,h2,h3⟩:=H.release Je.here
 exact ⟨v,rfl,Fs,h',hq D h' h1 h2,h3⟩
theorem G2a (h:Ro)(n:Int):Val Tryz.prog 145 #[.int .i64 n] h (vaV (Gi n)):=by
 refine Az (args:=[_]) ts_ok Go.Proofs.Tryz.func145 rfl rfl fun w0 X0 => ?_
 repeat' (first|apply Ac|apply Aa|apply Ab|(apply Ad;(iterate 3 exact J))|(apply Af;(iterate 3 exact J);(first|(apply Ah;(iterate 3 exact J);exact QR;(iterate 3 exact J);skip)|(apply Ag;exact J;intro b;skip))))
 exact Ih rfl rfl rfl QM rfl rfl rfl
theorem Jta (h:Ro)(A:Option Addr)(n c:Nat):Val Tryz.prog 146 #[.slice A n c] h (vaV (Jt A n c)):=by
 refine Az (args:=[_]) ts_ok Go.Proofs.Tryz.func146 rfl rfl fun w0 X0 => ?_
 repeat' (first|apply Ac|apply Aa|apply Ab|(apply Ad;(iterate 3 exact J))|(apply Af;(iterate 3 exact J);(first|(apply Ah;(iterate 3 exact J);exact QR;(iterate 3 exact J);skip)|(apply Ag;exact J;intro b;skip))))
 exact Ih rfl rfl rfl QM rfl rfl rfl
theorem textV_c (h:Ro)(s:List UInt8):Val Tryz.prog 184 #[.string (str s)] h (vaV (Daa s)):=by
 refine Az (args:=[_]) ts_ok Go.Proofs.Tryz.func184 rfl rfl fun w0 X0 => ?_
 repeat' (first|apply Ac|apply Aa|apply Ab|(apply Ad;(iterate 3 exact J))|(apply Af;(iterate 3 exact J);(first|(apply Ah;(iterate 3 exact J);exact QR;(iterate 3 exact J);skip)|(apply Ag;exact J;intro b;skip))))
 exact Ih rfl rfl rfl QM rfl rfl rfl
theorem truth_c (h:Ro)(b:Bool):Val Tryz.prog 187 #[.bool b] h (.int .i64 (if b then 1 else 0)):=by
 refine Az (args:=[_]) ts_ok Go.Proofs.Tryz.func187 rfl rfl fun w0 X0 => ?_
 repeat' (first|apply Ac|apply Au|apply Aa|apply Ab|(apply Ad;(iterate 3 exact J))|(apply Aj;exact J;all_goals (intro hc;try simp only [hcS,reduceCtorEq] at hc;try (exfalso;omega)))|(apply Bb;(iterate 3 exact J)))
 all_goals (subst hc;rfl)
def numsPost (l:List Int):Value→List Asn→Ro→Prop:=fun v Es _=>∃ A c,v=vaV (Jt A l.length c)∧Es=[By 218 5 (.slice A l.length c) l.length ((l.map Gi).flatMap vaC)]
theorem nums_c (h:Ro)(A:Option Addr)(n c:Nat)(l:List Int)(hx:Cc Ex 1 h A n l)(hn:n≤1000000):Fn Tryz.prog 183 #[.slice A n c] [] h (numsPost l):=by
 refine Bo (args:=[_]) ts_ok Go.Proofs.Tryz.func183 rfl rfl fun w0 X0 => ?_
 have hlen:=hx.len
 repeat' (first|apply Ac|apply Ak|apply Aa|apply Ab|(apply Ad;(iterate 3 exact J))|(apply Af;(iterate 3 exact J);(first|(apply Ah;(iterate 3 exact J);exact QR;(iterate 3 exact J);skip)|(apply Ag;exact J;intro b;skip)|(apply Aq;exact J;exact J0a;exact Jta _ _ _ _;skip))))
 rename_i b2
 generalize b=b3
 refine Eh 218 5 ?_
 refine Bt (X:=Nat×Option Addr×Nat×Ro) (fun x=>x.1≤n∧Le h x.2.2.2) (fun x=>n-x.1)
  (fun x=>[(9,.int .i64 x.1),(8,.int .i64 n),(7,.slice A n c),(3,.pointer (some ⟨b3,0,none⟩)),(2,.pointer (some ⟨b2,0,none⟩))])
  (fun x=>[Blk b3 218 (vaC (Jt x.2.1 x.1 x.2.2.1)),By 218 5 (.slice x.2.1 x.1 x.2.2.1) x.1 (((l.take x.1).map Gi).flatMap vaC),Blk b2 218 (vaC va0)]) (fun x=>x.2.2.2) (0,none,0,h) ⟨by dsimp only;omega,Le.refl _⟩ QS QT rfl ?_
 rintro ⟨k,A1,c1,hh⟩ ⟨hk,hle⟩ ih
 dsimp only at hk hle ih ⊢
 by_cases hkn:k<n
 · have a1:=hx.addrD hkn
   have cc:=(hx.cellsD 0 hkn).le hle
   have ht:=Fq 0 hlen hkn
   generalize l.getD k 0=u at *
   repeat' (first|apply Ac|apply Au|apply Ap|apply Ak|apply Aa|apply Ab|(apply Bg;(iterate 3 exact J);omega;exact J;exact J)|(apply Ad;(iterate 3 exact J))|(apply Bd;exact J;exact J;(first|(apply Be (j:=k);(iterate 5 exact J);exact a1;(with_reducible exact J);omega)|(apply Ar;exact J;exact Bh rfl cc rfl));exact QA)|(apply Bf (n:=5) [0,1,2,3,4,5,6,7] [(0,0),(1,0),(2,0),(3,1),(4,1),(5,1),(6,0),(7,1)];kernel_rfl)|(apply Ce;exact J;kernel_rfl;(iterate 3 exact J))|(apply Bj;exact J;kernel_rfl;(iterate 3 exact J);exact QM;exact J;exact J)|(apply Br;exact J;kernel_rfl;(iterate 3 exact J);(first|(apply Ah;(iterate 3 exact J);exact QR;(iterate 3 exact J);refine ⟨Le.refl _,QN,?_⟩)|(apply Bc (enc:=vaC) (n:=1) [Gi u];(iterate 3 exact J);exact List.cons_ne_nil _ _;(iterate 4 exact J);exact Dw;exact J;exact J;intro b1 h1 hle1 hs1;refine ⟨hle1,QN,?_⟩)|(apply Bk (enc:=vaC) (xs:=(l.take k).map Gi);(iterate 7 exact J);exact hs1;exact Dw;exact Qm;intro v1;exact QR;omega;exact J;intro A2 c2;refine ⟨Le.refl _,QN,?_⟩)|(apply Aq;exact J;exact Xp;exact G2a _ _;refine ⟨Le.refl _,QN,?_⟩)))|(apply Bm;kernel_rfl;exact J)|(apply Aj;exact J;all_goals (intro hc;try simp only [hcS,reduceCtorEq] at hc;try (exfalso;omega))))
   all_goals
    have h3:=ih (k+1,A2,c2,h1) ⟨by dsimp only;omega,by dsimp only;exact hle.trans hle1⟩ (by dsimp only;omega)
    dsimp only at h3
    rw [ht,List.map_append] at h3
    refine Bw QS QT (h3)
 · rw [List.take_of_length_le (by omega)]
   clear ih
   have hkk:k=l.length:=by omega
   subst hkk
   repeat' (first|apply Ac|apply Aa|apply Ab|(apply Bn;exact J)|(apply Ad;(iterate 3 exact J))|(apply Ai;exact J;exact Av rfl QM rfl;exact J;exact J)|(apply Af;(iterate 3 exact J);(first|(apply Ah;(iterate 3 exact J);exact QR;(iterate 3 exact J);skip)))|(apply Aj;exact J;all_goals (intro hc;try simp only [hcS,reduceCtorEq] at hc;try (exfalso;omega))))
   exact Lu (rs:=[.cell 2 218]) (vs:=[vaV (Jt A1 l.length c1)]) rfl rfl ⟨⟨_,rfl,Av rfl QM rfl⟩,trivial⟩ (.cons _ (.cons_cons _ (List.nil_sublist _))) ⟨A1,c1,rfl,rfl⟩
theorem Xb (h:Ro)(A:Option Addr)(n c:Nat)(l:List Int)(hx:Cc Ex 1 h A n l)(hn:n≤1000000):Res Tryz.prog 183 #[.slice A n c] h fun u h'=>∃ A' c',u=vaV (Jt A' l.length c')∧Cc vaC 5 h' A' l.length (l.map Gi):=by
 unfold Res
 exact Fn_free (nums_c h A n c l hx hn) fun v Es h' hle ⟨A',c',e1,e2⟩=>⟨_,_,e2,fun D h'' hl hD=>by
  obtain ⟨A2,c2,e3,hs⟩:=Yo Dw (by simp) hD
  injection e3 with e31 _ e33
  subst e31;subst e33
  exact ⟨rfl,A',c',e1,hs⟩⟩
theorem Ct {d:Nat}{h:Ro}{n:Int}(hn:I64 n):Pz (d+1) h (Gi n) (Fi n):=.inl ⟨n,rfl,hn,rfl⟩
theorem C8a {d:Nat}{h:Ro}{s:List UInt8}:Pz (d+1) h (Daa s) (Hf s):=.inr (.inl ⟨s,rfl,rfl⟩)
theorem Wf {d:Nat}{h:Ro}{A:Option Addr}{n c:Nat}{vs:List Va}{bss:List (List UInt8)}(hs:Cc vaC 5 h A n vs)(hz:Gu (Pz d h) vs bss)(hn:n≤1000000):Pz (d+1) h (Jt A n c) (Kqa bss) :=
 .inr (.inr (.inl ⟨⟨A,n,c⟩,vs,bss,rfl,hs,hz,hn,rfl⟩))
theorem I2a {d:Nat}{h:Ro}{l:List Int}(hl:∀ x∈l,I64 x):Gu (Pz (d+1) h) (l.map Gi) (l.map Fi):=by
 refine ⟨by simp,fun i a b h1 h2 => ?_⟩
 rw [List.getElem?_map] at h1 h2
 cases hi:l[i]? with
 | none=>rw [hi] at h1;cases h1
 | some x =>
   rw [hi] at h1 h2
   injection h1 with h1;injection h2 with h2
   subst h1;subst h2
   exact Ct (hl x (List.mem_of_getElem? hi))
theorem bSeq_nums (l:List Int):Kqa (l.map Fi)=Gj l:=by
 unfold Kqa Gj Cka;rw [List.flatMap_def]
theorem venc_nums {d:Nat}{h:Ro}{A:Option Addr}{c:Nat}{l:List Int}(hs:Cc vaC 5 h A l.length (l.map Gi))(hl:∀ x∈l,I64 x)(hn:l.length≤1000000):Pz (d+2) h (Jt A l.length c) (Gj l):=by
 rw [← bSeq_nums];exact Wf hs (I2a hl) hn
def VR (d:Nat) (bs:List UInt8):Value→Ro→Prop:=fun u h=>∃ v,u=vaV v∧Pz d h v bs
theorem Tk {d:Nat}(h:Ro)(A:Option Addr)(n c:Nat)(l:List Int)(hx:Cc Ex 1 h A n l)(hn:n≤1000000)(hl:∀ x∈l,I64 x):Res Tryz.prog 183 #[.slice A n c] h (VR (d+2) (Gj l)) :=
 (Xb h A n c l hx hn).mono fun v h' _ ⟨A',c',e1,e2⟩=>⟨_,e1,venc_nums e2 hl (by have:=hx.len;omega)⟩
def Vo (g:Bl):Prop:=I64 g.s∧I64 g.c∧I64 g.h∧I64 g.a
theorem Eva {g:Bl}(hg:Vo g):∀ x∈Ns g,I64 x:=by
 obtain ⟨h1,h2,h3,h4⟩:=hg
 intro x hx
 simp only [Ns,List.mem_cons,List.not_mem_nil,or_false] at hx
 rcases hx with rfl|rfl|rfl|rfl <;> assumption
theorem B2a {d:Nat}(h:Ro)(g:Bl)(hg:Vo g):Res Tryz.prog 185 #[Fr g] h (VR (d+2) (Gj (Ns g))):=by
 refine Bq (args:=[_]) ts_ok Go.Proofs.Tryz.func185 rfl rfl fun w0 X0 => ?_
 repeat' (first|apply Ac|apply Aa|apply Ab|(apply Ad;(iterate 3 exact J))|(apply Ai;exact J;exact Av rfl QM rfl;exact J;exact J)|(apply Af;(iterate 3 exact J);(first|(apply Ah;(iterate 3 exact J);exact QR;(iterate 3 exact J);skip)|(apply Ao;exact J;intro b;skip)|(apply Ag;exact J;intro b;skip)|(apply Bu (cs:=(Ns g).map fun i=>.int .i64 i);(iterate 3 exact J);exact List.cons_ne_nil _ _;(iterate 4 exact J);intro b1 h1 hle1 hcs1;skip)|(apply Ay;exact J;exact Oj;exact Tk (d:=d) _ _ 4 4 (Ns g) (Gv hcs1) (by omega) (Eva hg);rintro v2 h2 hle2 ⟨v,rfl,hv⟩;skip))))
 exact Gy rfl rfl rfl QM rfl rfl ⟨v,rfl,hv⟩
theorem Kka (c:Fy)(hc:I64 c.p):∀ x∈Vj c,I64 x:=by
 intro x hx
 simp only [Vj,List.mem_cons,List.not_mem_nil,or_false] at hx
 rcases hx with rfl|rfl
 · exact hc
 · unfold I64;split <;> omega
theorem M4a (l:List Fy):Kqa (l.map fun c=>Gj (Vj c))=Lf l:=by
 unfold Kqa Lf Cka;rw [List.flatMap_def]
theorem Gu.snoc {α β:Type}{P:α→β→Prop}{l:List α}{m:List β}{a:α}{b:β}(z:Gu P l m)(h:P a b):Gu P (l++[a]) (m++[b]):=by
 refine ⟨by simp [z.1],fun i x y h1 h2 => ?_⟩
 by_cases hi:i<l.length
 · rw [List.getElem?_append_left hi] at h1
   rw [List.getElem?_append_left (z.1 ▸ hi)] at h2
   exact z.2 i x y h1 h2
 · rw [List.getElem?_append_right (by omega)] at h1
   rw [List.getElem?_append_right (by rw [← z.1];omega)] at h2
   have hl:=z.1
   have e:i-l.length=0:=by
    have:=(List.getElem?_eq_some_iff.1 h1).1
    simp at this;omega
   rw [e] at h1
   rw [show i-m.length=0 by omega] at h2
   injection h1 with h1;injection h2 with h2
   subst h1;subst h2;exact h
theorem shown_c {d:Nat}(h:Ro)(A:Option Addr)(n c:Nat)(l:List Fy)(hx:Cc Aoa 2 h A n l)(hn:n≤1000000)(hl:∀ c∈l,I64 c.p):Res Tryz.prog 186 #[.slice A n c] h (VR (d+3) (Lf l)):=by
 refine Bq (args:=[_]) ts_ok Go.Proofs.Tryz.func186 rfl rfl fun w0 X0 => ?_
 have hlen:=hx.len
 repeat' (first|apply Ac|apply Ak|apply Aa|apply Ab|(apply Ad;(iterate 3 exact J))|(apply Af;(iterate 3 exact J);(first|(apply Ah;(iterate 3 exact J);exact QR;(iterate 3 exact J);skip)|(apply Ag;exact J;intro b;skip)|(apply Aq;exact J;exact J0a;exact Jta _ _ _ _;skip))))
 rename_i b2
 generalize b=b3
 refine Eh 218 5 ?_
 refine Bt (X:=Nat×List Va×Option Addr×Nat×Ro) (fun x=>x.1≤n∧x.2.1.length=x.1∧Le h x.2.2.2.2∧Gu (Pz (d+2) x.2.2.2.2) x.2.1 ((l.take x.1).map fun c=>Gj (Vj c))) (fun x=>n-x.1)
  (fun x=>[(9,.int .i64 x.1),(8,.int .i64 n),(7,.slice A n c),(3,.pointer (some ⟨b3,0,none⟩)),(2,.pointer (some ⟨b2,0,none⟩))])
  (fun x=>[Blk b3 218 (vaC (Jt x.2.2.1 x.1 x.2.2.2.1)),By 218 5 (.slice x.2.2.1 x.1 x.2.2.2.1) x.1 (x.2.1.flatMap vaC),Blk b2 218 (vaC va0)]) (fun x=>x.2.2.2.2) (0,[],none,0,h) ⟨by dsimp only;omega,rfl,Le.refl _,⟨rfl,fun i a b h1=>by simp at h1⟩⟩ QS QT rfl ?_
 rintro ⟨k,vs,A1,c1,hh⟩ ⟨hk,hvl,hle,hz⟩ ih
 dsimp only at hk hvl hle hz ih ⊢
 by_cases hkn:k<n
 · have a1:=hx.addrD hkn
   have cc:=(hx.cellsD Kr hkn).le hle
   have ht:=Fq Kr hlen hkn
   have hc0:=Kka _ (hl _ (mem7 Kr (show k<l.length by omega)))
   generalize l.getD k Kr=u at *
   repeat' (first|apply Ac|apply Au|apply Ap|apply Ak|apply Aa|apply Ab|(apply Bg;(iterate 3 exact J);omega;exact J;exact J)|(apply Ad;(iterate 3 exact J))|(apply Bd;exact J;exact J;(first|(apply Be (j:=k);(iterate 5 exact J);exact a1;(with_reducible exact J);omega)|(apply Ar;exact J;exact Bh rfl cc rfl));exact QA)|(apply Af;(iterate 3 exact J);(first|(apply Ah;(iterate 3 exact J);exact QR;(iterate 3 exact J);skip)|(apply Ag;exact J;intro b;skip)))|(apply Bf (n:=5) [0,1,2,3,4,5,6,7,8,9,10,11,12] [(0,0),(1,0),(2,0),(3,0),(4,0),(5,0),(6,1),(7,1),(8,1),(9,1),(10,1),(11,0),(12,1)];kernel_rfl)|(apply Ce;exact J;kernel_rfl;(iterate 3 exact J))|(apply Bj;exact J;kernel_rfl;(iterate 3 exact J);exact QM;exact J;exact J)|(apply Br;exact J;kernel_rfl;(iterate 3 exact J);(first|(apply Ah;(iterate 3 exact J);exact QR;(iterate 3 exact J);refine ⟨Le.refl _,QN,?_⟩)|(apply Bu (e:=3) (cs:=(Vj u).map fun i=>.int .i64 i);(iterate 3 exact J);exact List.cons_ne_nil _ _;(iterate 4 exact J);intro b1 h1 hle1 hcs1;refine ⟨hle1,QN,?_⟩)|(apply Ay;exact J;exact Oj;exact Tk (d:=d) _ _ 2 2 (Vj u) (Gv hcs1) (by omega) hc0;rintro v2 h2 hle2 ⟨v,rfl,hv⟩;refine ⟨hle2,QN,?_⟩)|(apply Bc (enc:=vaC) (n:=1) [v];(iterate 3 exact J);exact List.cons_ne_nil _ _;(iterate 4 exact J);exact Dw;exact J;exact J;intro b4 h4 hle4 hs4;refine ⟨hle4,QN,?_⟩)|(apply Bk (enc:=vaC) (xs:=vs);(iterate 7 exact J);exact hs4;exact Dw;exact Qm;intro v1;exact QR;omega;exact J;intro A2 c2;refine ⟨Le.refl _,QN,?_⟩)|(apply Aq;exact J;exact has187;exact truth_c _ _;refine ⟨Le.refl _,QN,?_⟩)))|(apply Bm;kernel_rfl;exact J)|(apply Aj;exact J;all_goals (intro hc;try simp only [hcS,reduceCtorEq] at hc;try (exfalso;omega))))
   all_goals
    have h3:=ih (k+1,vs++[v],A2,c2,h4) ⟨by dsimp only;omega,by simp [hvl],by dsimp only;exact hle.trans QL,by
     dsimp only;rw [ht,List.map_append];exact (hz.imp fun a b q=>q.le QL).snoc (hv.le hle4)⟩ (by dsimp only;omega)
    dsimp only at h3
    refine Bw QS QT (h3)
 · rw [List.take_of_length_le (by omega)] at hz
   clear ih
   have hkk:k=n:=by omega
   subst hkk
   repeat' (first|apply Ac|apply Aa|apply Ab|(apply Bn;exact J)|(apply Ad;(iterate 3 exact J))|(apply Ai;exact J;exact Av rfl QM rfl;exact J;exact J)|(apply Af;(iterate 3 exact J);(first|(apply Ah;(iterate 3 exact J);exact QR;(iterate 3 exact J);skip)))|(apply Aj;exact J;all_goals (intro hc;try simp only [hcS,reduceCtorEq] at hc;try (exfalso;omega))))
   refine GO_relS (enc:=vaC) (xs:=vs) Dw hvl QK ?_
   intro A2 c2 h4 hle4 e2 hs4
   injection e2 with e21 _ e23
   subst e21;subst e23
   refine Gy rfl rfl rfl QM rfl rfl ⟨Jt A1 k c1,rfl,?_⟩
   rw [← M4a]
   exact Wf hs4 (hz.imp fun a b q=>q.le hle4) hn
end Go.Hw
