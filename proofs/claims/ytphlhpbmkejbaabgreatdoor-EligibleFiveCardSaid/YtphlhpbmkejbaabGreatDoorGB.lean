import Derived.Test.YtphlhpbmkejbaabGreatDoorGA
import Derived.Test.YtphlhpbmkejbaabGreatDoorHC
import Derived.Test.YtphlhpbmkejbaabGreatDoorQSh
import Derived.Lib.ItoaLen
set_option linter.unusedVariables false
set_option linter.unusedSimpArgs false
set_option maxRecDepth 100000
set_option maxHeartbeats 4000000
namespace Go.Hw
open Go
attribute [local irreducible] GO GOl GDp Val Fn Res CellsAt ValE Blk OwnS MapA OwnPf Has
open Go.Proofs (Tryz.prog)
open Classical in
theorem kk1_c (h : Ro) (s : Fsh) (f : Fct) (hf : FAt h s f) (hs : FSm f) : Val Tryz.prog 101 #[factV s f] h (.bool (decide (EntOk f))):=by
  refine Val_intro (args:=[_]) ts_ok Go.Proofs.Tryz.func101 rfl rfl fun w0 X0 => ?_
  obtain ⟨n1,n2,n3,n4,n5,n6⟩:=hf.small hs
  repeat' (first|apply GO_seq|apply GO_region|apply GOl_nil|(apply GOl_pv;(iterate 3 exact rfl))|(apply GOl_load;exact rfl;exact Ld_blk rfl QM rfl;exact rfl;exact rfl)|(apply GOl_to;(iterate 3 exact rfl);(first|(apply OpTo_box;exact rfl;intro b;skip)|(apply OpTo_val;exact rfl;exact has102;exact entrants7_c _ s f hf.cl (by omega) (by have:=hs.2.2.2;omega);skip)))|(apply GO_retV1;(iterate 3 exact rfl)))
  all_goals rfl
theorem kk3_c (h : Ro) (s : Fsh) (f : Fct) : Val Tryz.prog 104 #[factV s f] h (.bool (decide (GameOk f.fg ∧ Bel f.venue 4096))):=by
  refine Val_intro (args:=[_]) ts_ok Go.Proofs.Tryz.func104 rfl rfl fun w0 X0 => ?_
  repeat' (first|apply GO_seq|apply GO_region|apply GOl_nil|(apply GOl_unwanted;exact rfl;exact rfl)|(apply GOl_pv;(iterate 3 exact rfl))|(apply GOl_load;exact rfl;exact Ld_blk rfl QM rfl;exact rfl;exact rfl)|(apply GOl_to;(iterate 3 exact rfl);(first|(apply OpTo_box;exact rfl;intro b;skip)|(apply OpTo_val;exact rfl;exact has105;exact game7_c _ f.fg;skip)|(apply OpTo_val;exact rfl;exact has106;exact below7_c _ _ _;skip)))|(apply GOl_split;exact rfl;exact rfl;all_goals (intro hc;try simp only [hcS,reduceCtorEq] at hc;try (exfalso;omega)))|(apply GO_retV1;(iterate 3 exact rfl)))
  all_goals (refine dec_ofV ?_;grind)
open Classical in
theorem kk5_c (h : Ro) (s : Fsh) (f : Fct) (hf : FAt h s f) (hs : FSm f) : Val Tryz.prog 108 #[factV s f] h (.bool (decide (SheetOk f.sh))):=by
  refine Val_intro (args:=[_]) ts_ok Go.Proofs.Tryz.func108 rfl rfl fun w0 X0 => ?_
  repeat' (first|apply GO_seq|apply GO_region|apply GOl_nil|(apply GOl_pv;(iterate 3 exact rfl))|(apply GOl_load;exact rfl;exact Ld_blk rfl QM rfl;exact rfl;exact rfl)|(apply GOl_to;(iterate 3 exact rfl);(first|(apply OpTo_box;exact rfl;intro b;skip)|(apply OpTo_val;exact rfl;exact has109;exact sheet7_c _ s f.sh hf.sh hs.1;skip)))|(apply GO_retV1;(iterate 3 exact rfl)))
  all_goals rfl
open Classical in
theorem kk7_c (h : Ro) (s : Fsh) (f : Fct) : Val Tryz.prog 111 #[factV s f] h (.bool (decide (RulOk f.ru))):=by
  refine Val_intro (args:=[_]) ts_ok Go.Proofs.Tryz.func111 rfl rfl fun w0 X0 => ?_
  repeat' (first|apply GO_seq|apply GO_region|apply GOl_nil|(apply GOl_pv;(iterate 3 exact rfl))|(apply GOl_load;exact rfl;exact Ld_blk rfl QM rfl;exact rfl;exact rfl)|(apply GOl_to;(iterate 3 exact rfl);(first|(apply OpTo_box;exact rfl;intro b;skip)|(apply OpTo_val;exact rfl;exact has112;exact ruling_c _ f.ru;skip)))|(apply GO_retV1;(iterate 3 exact rfl)))
  all_goals rfl
theorem kk9_c (h : Ro) (s : Fsh) (f : Fct) : Val Tryz.prog 114 #[factV s f] h (.bool (decide (1 ≤ f.aCase ∧ f.aCase ≤ 1048576 ∧ 1 ≤ f.aInst ∧ f.aInst < 3))):=by
  refine Val_intro (args:=[_]) ts_ok Go.Proofs.Tryz.func114 rfl rfl fun w0 X0 => ?_
  repeat' (first|apply GO_seq|apply GO_region|apply GOl_nil|(apply GOl_unwanted;exact rfl;exact rfl)|(apply GOl_pv;(iterate 3 exact rfl))|(apply GOl_load;exact rfl;exact Ld_blk rfl QM rfl;exact rfl;exact rfl)|(apply GOl_to;(iterate 3 exact rfl);(first|(apply OpTo_box;exact rfl;intro b;skip)))|(apply GOl_split;exact rfl;exact rfl;all_goals (intro hc;try simp only [hcS,reduceCtorEq] at hc;try (exfalso;omega)))|(apply GO_retV1;(iterate 3 exact rfl)))
  all_goals (refine dec_ofV ?_;(try rw [ltI_t]);grind)
theorem kk11_c (h : Ro) (s : Fsh) (f : Fct) : Val Tryz.prog 116 #[factV s f] h (.bool (decide (Bel f.mP 8192 ∧ (f.mTo = -1 ∨ Bel f.mTo 192)))):=by
  refine Val_intro (args:=[_]) ts_ok Go.Proofs.Tryz.func116 rfl rfl fun w0 X0 => ?_
  repeat' (first|apply GO_seq|apply GO_region|apply GOl_nil|(apply GOl_unwanted;exact rfl;exact rfl)|(apply GOl_pv;(iterate 3 exact rfl))|(apply GOl_load;exact rfl;exact Ld_blk rfl QM rfl;exact rfl;exact rfl)|(apply GOl_to;(iterate 3 exact rfl);(first|(apply OpTo_box;exact rfl;intro b;skip)|(apply OpTo_val;exact rfl;exact has117;exact player7_c _ _;skip)|(apply OpTo_val;exact rfl;exact has118;exact club7_c _ _;skip)))|(apply GOl_split;exact rfl;exact rfl;all_goals (intro hc;try simp only [hcS,reduceCtorEq] at hc;try (exfalso;omega)))|(apply GO_retV1;(iterate 3 exact rfl)))
  all_goals (refine dec_ofV ?_;(try rw [eqI_t]);grind)
open Classical in
theorem kk13_c (h : Ro) (s : Fsh) (f : Fct) (hf : FAt h s f) (hs : FSm f) : Val Tryz.prog 120 #[factV s f] h (.bool (decide (LotOk f))):=by
  refine Val_intro (args:=[_]) ts_ok Go.Proofs.Tryz.func120 rfl rfl fun w0 X0 => ?_
  obtain ⟨n1,n2,n3,n4,n5,n6⟩:=hf.small hs
  repeat' (first|apply GO_seq|apply GO_region|apply GOl_nil|(apply GOl_pv;(iterate 3 exact rfl))|(apply GOl_load;exact rfl;exact Ld_blk rfl QM rfl;exact rfl;exact rfl)|(apply GOl_to;(iterate 3 exact rfl);(first|(apply OpTo_box;exact rfl;intro b;skip)|(apply OpTo_val;exact rfl;exact has121;exact lot7_c _ s f hf.lo (by omega);skip)))|(apply GO_retV1;(iterate 3 exact rfl)))
  all_goals rfl
theorem kk15_c (h : Ro) (s : Fsh) (f : Fct) : Val Tryz.prog 123 #[factV s f] h (.bool true):=by
  refine Val_intro (args:=[_]) ts_ok Go.Proofs.Tryz.func123 rfl rfl fun w0 X0 => ?_
  repeat' (first|apply GO_seq|apply GO_region|apply GOl_nil|(apply GOl_pv;(iterate 3 exact rfl))|(apply GOl_to;(iterate 3 exact rfl);(first|(apply OpTo_box;exact rfl;intro b;skip)))|(apply GO_retV1;(iterate 3 exact rfl)))
  all_goals rfl
theorem kk2_c (h : Ro) (bq : Nat) (s t : Fsh) (f x : Fct) : Fn Tryz.prog 103 #[factV s f,.pointer (some ⟨bq,0,none⟩)] [Blk bq 60 (factC t x)] h (wrPost bq 60 (factC { t with cl:=s.cl } { x with eS:=f.eS,eC:=f.eC,eClubs:=f.eClubs,eRules:=f.eRules })):=by
  refine Fn_intro (args:=[_,_]) ts_ok Go.Proofs.Tryz.func103 rfl rfl fun w0 X0 => ?_
  repeat' (first|apply GO_seq|apply GO_region|apply GOl_nil|(apply GOl_pv;(iterate 3 exact rfl))|(apply GOl_load;exact rfl;exact Ld_blk rfl QM rfl;exact rfl;exact rfl)|(apply GOl_to;(iterate 3 exact rfl);(first|(apply OpTo_store;(iterate 3 exact rfl);exact QR;(iterate 3 exact rfl);skip)|(apply OpTo_box;exact rfl;intro b;skip))))
  exact GO_take (Es':=[Blk bq 60 (factC { t with cl:=s.cl } { x with eS:=f.eS,eC:=f.eC,eClubs:=f.eClubs,eRules:=f.eRules })]) QT (GO_end (rs:=[]) (vs:=[]) rfl rfl trivial ⟨rfl,rfl⟩)
theorem kk4_c (h : Ro) (bq : Nat) (s t : Fsh) (f x : Fct) : Fn Tryz.prog 107 #[factV s f,.pointer (some ⟨bq,0,none⟩)] [Blk bq 60 (factC t x)] h (wrPost bq 60 (factC t { x with fg:=f.fg,venue:=f.venue })):=by
  refine Fn_intro (args:=[_,_]) ts_ok Go.Proofs.Tryz.func107 rfl rfl fun w0 X0 => ?_
  repeat' (first|apply GO_seq|apply GO_region|apply GOl_nil|(apply GOl_pv;(iterate 3 exact rfl))|(apply GOl_load;exact rfl;exact Ld_blk rfl QM rfl;exact rfl;exact rfl)|(apply GOl_to;(iterate 3 exact rfl);(first|(apply OpTo_store;(iterate 3 exact rfl);exact QR;(iterate 3 exact rfl);skip)|(apply OpTo_box;exact rfl;intro b;skip))))
  exact GO_take (Es':=[Blk bq 60 (factC t { x with fg:=f.fg,venue:=f.venue })]) QT (GO_end (rs:=[]) (vs:=[]) rfl rfl trivial ⟨rfl,rfl⟩)
theorem kk6_c (h : Ro) (bq : Nat) (s t : Fsh) (f x : Fct) : Fn Tryz.prog 110 #[factV s f,.pointer (some ⟨bq,0,none⟩)] [Blk bq 60 (factC t x)] h (wrPost bq 60 (factC { t with hs:=s.hs,asn:=s.asn,hc:=s.hc,ac:=s.ac } { x with sh:=f.sh })):=by
  refine Fn_intro (args:=[_,_]) ts_ok Go.Proofs.Tryz.func110 rfl rfl fun w0 X0 => ?_
  repeat' (first|apply GO_seq|apply GO_region|apply GOl_nil|(apply GOl_pv;(iterate 3 exact rfl))|(apply GOl_load;exact rfl;exact Ld_blk rfl QM rfl;exact rfl;exact rfl)|(apply GOl_to;(iterate 3 exact rfl);(first|(apply OpTo_store;(iterate 3 exact rfl);exact QR;(iterate 3 exact rfl);skip)|(apply OpTo_box;exact rfl;intro b;skip))))
  exact GO_take (Es':=[Blk bq 60 (factC { t with hs:=s.hs,asn:=s.asn,hc:=s.hc,ac:=s.ac } { x with sh:=f.sh })]) QT (GO_end (rs:=[]) (vs:=[]) rfl rfl trivial ⟨rfl,rfl⟩)
theorem kk8_c (h : Ro) (bq : Nat) (s t : Fsh) (f x : Fct) : Fn Tryz.prog 113 #[factV s f,.pointer (some ⟨bq,0,none⟩)] [Blk bq 60 (factC t x)] h (wrPost bq 60 (factC t { x with ru:=f.ru })):=by
  refine Fn_intro (args:=[_,_]) ts_ok Go.Proofs.Tryz.func113 rfl rfl fun w0 X0 => ?_
  repeat' (first|apply GO_seq|apply GO_region|apply GOl_nil|(apply GOl_pv;(iterate 3 exact rfl))|(apply GOl_load;exact rfl;exact Ld_blk rfl QM rfl;exact rfl;exact rfl)|(apply GOl_to;(iterate 3 exact rfl);(first|(apply OpTo_store;(iterate 3 exact rfl);exact QR;(iterate 3 exact rfl);skip)|(apply OpTo_box;exact rfl;intro b;skip))))
  exact GO_take (Es':=[Blk bq 60 (factC t { x with ru:=f.ru })]) QT (GO_end (rs:=[]) (vs:=[]) rfl rfl trivial ⟨rfl,rfl⟩)
theorem kk10_c (h : Ro) (bq : Nat) (s t : Fsh) (f x : Fct) : Fn Tryz.prog 115 #[factV s f,.pointer (some ⟨bq,0,none⟩)] [Blk bq 60 (factC t x)] h (wrPost bq 60 (factC t { x with aCase:=f.aCase,aInst:=f.aInst,aSusp:=f.aSusp })):=by
  refine Fn_intro (args:=[_,_]) ts_ok Go.Proofs.Tryz.func115 rfl rfl fun w0 X0 => ?_
  repeat' (first|apply GO_seq|apply GO_region|apply GOl_nil|(apply GOl_pv;(iterate 3 exact rfl))|(apply GOl_load;exact rfl;exact Ld_blk rfl QM rfl;exact rfl;exact rfl)|(apply GOl_to;(iterate 3 exact rfl);(first|(apply OpTo_store;(iterate 3 exact rfl);exact QR;(iterate 3 exact rfl);skip)|(apply OpTo_box;exact rfl;intro b;skip))))
  exact GO_take (Es':=[Blk bq 60 (factC t { x with aCase:=f.aCase,aInst:=f.aInst,aSusp:=f.aSusp })]) QT (GO_end (rs:=[]) (vs:=[]) rfl rfl trivial ⟨rfl,rfl⟩)
theorem kk12_c (h : Ro) (bq : Nat) (s t : Fsh) (f x : Fct) : Fn Tryz.prog 119 #[factV s f,.pointer (some ⟨bq,0,none⟩)] [Blk bq 60 (factC t x)] h (wrPost bq 60 (factC t { x with mP:=f.mP,mTo:=f.mTo })):=by
  refine Fn_intro (args:=[_,_]) ts_ok Go.Proofs.Tryz.func119 rfl rfl fun w0 X0 => ?_
  repeat' (first|apply GO_seq|apply GO_region|apply GOl_nil|(apply GOl_pv;(iterate 3 exact rfl))|(apply GOl_load;exact rfl;exact Ld_blk rfl QM rfl;exact rfl;exact rfl)|(apply GOl_to;(iterate 3 exact rfl);(first|(apply OpTo_store;(iterate 3 exact rfl);exact QR;(iterate 3 exact rfl);skip)|(apply OpTo_box;exact rfl;intro b;skip))))
  exact GO_take (Es':=[Blk bq 60 (factC t { x with mP:=f.mP,mTo:=f.mTo })]) QT (GO_end (rs:=[]) (vs:=[]) rfl rfl trivial ⟨rfl,rfl⟩)
theorem kk14_c (h : Ro) (bq : Nat) (s t : Fsh) (f x : Fct) : Fn Tryz.prog 122 #[factV s f,.pointer (some ⟨bq,0,none⟩)] [Blk bq 60 (factC t x)] h (wrPost bq 60 (factC { t with lo:=s.lo } { x with lS:=f.lS,lC:=f.lC,lO:=f.lO })):=by
  refine Fn_intro (args:=[_,_]) ts_ok Go.Proofs.Tryz.func122 rfl rfl fun w0 X0 => ?_
  repeat' (first|apply GO_seq|apply GO_region|apply GOl_nil|(apply GOl_pv;(iterate 3 exact rfl))|(apply GOl_load;exact rfl;exact Ld_blk rfl QM rfl;exact rfl;exact rfl)|(apply GOl_to;(iterate 3 exact rfl);(first|(apply OpTo_store;(iterate 3 exact rfl);exact QR;(iterate 3 exact rfl);skip)|(apply OpTo_box;exact rfl;intro b;skip))))
  exact GO_take (Es':=[Blk bq 60 (factC { t with lo:=s.lo } { x with lS:=f.lS,lC:=f.lC,lO:=f.lO })]) QT (GO_end (rs:=[]) (vs:=[]) rfl rfl trivial ⟨rfl,rfl⟩)
theorem kk16_c (h : Ro) (bq : Nat) (s t : Fsh) (f x : Fct) : Fn Tryz.prog 124 #[factV s f,.pointer (some ⟨bq,0,none⟩)] [Blk bq 60 (factC t x)] h (wrPost bq 60 (factC t { x with void:=f.void })):=by
  refine Fn_intro (args:=[_,_]) ts_ok Go.Proofs.Tryz.func124 rfl rfl fun w0 X0 => ?_
  repeat' (first|apply GO_seq|apply GO_region|apply GOl_nil|(apply GOl_pv;(iterate 3 exact rfl))|(apply GOl_load;exact rfl;exact Ld_blk rfl QM rfl;exact rfl;exact rfl)|(apply GOl_to;(iterate 3 exact rfl);(first|(apply OpTo_store;(iterate 3 exact rfl);exact QR;(iterate 3 exact rfl);skip)|(apply OpTo_box;exact rfl;intro b;skip))))
  exact GO_take (Es':=[Blk bq 60 (factC t { x with void:=f.void })]) QT (GO_end (rs:=[]) (vs:=[]) rfl rfl trivial ⟨rfl,rfl⟩)
def kindL : List (Int × (Value × Value)):=kL [
  (1,(fnV 101 [],fnV 103 [])),
  (2,(fnV 104 [],fnV 107 [])),
  (3,(fnV 108 [],fnV 110 [])),
  (4,(fnV 111 [],fnV 113 [])),
  (5,(fnV 114 [],fnV 115 [])),
  (6,(fnV 116 [],fnV 119 [])),
  (7,(fnV 120 [],fnV 122 [])),
  (8,(fnV 123 [],fnV 124 []))]
theorem kinds_c (h : Ro) : Fn Tryz.prog 63 #[] [] h fun v Es h' => ∃ bm,v = .map (some bm) ∧ Es = [MapA (fun i : Int => .int .i64 i) shV bm kindL]:=by
  refine Fn_intro (args:=[]) ts_ok Go.Proofs.Tryz.func63 rfl rfl fun w0 X0 => ?_
  repeat' (first|apply GO_seq|apply GO_region|apply GOl_nil|(apply GOl_pv;(iterate 3 exact rfl))|(apply GOl_to;(iterate 3 exact rfl);(first|(apply OpTo_makeMap (fun i : Int => .int .i64 i) shV;intro bm;skip)|(apply OpTo_insSh K7;(iterate 5 exact rfl);exact QR;skip))))
  exact GO_retS1 rfl rfl rfl (List.Sublist.refl _) ⟨bm,rfl,rfl⟩
theorem kindL_look (k : Int) : lookA k kindL =
    if 8 = k then some (fnV 123 [],fnV 124 [])
    else if 7 = k then some (fnV 120 [],fnV 122 [])
    else if 6 = k then some (fnV 116 [],fnV 119 [])
    else if 5 = k then some (fnV 114 [],fnV 115 [])
    else if 4 = k then some (fnV 111 [],fnV 113 [])
    else if 3 = k then some (fnV 108 [],fnV 110 [])
    else if 2 = k then some (fnV 104 [],fnV 107 [])
    else if 1 = k then some (fnV 101 [],fnV 103 [])
    else none:=by
  unfold kindL kL
  simp only [List.foldl_cons,List.foldl_nil,look7,lookA]
def baseF (f : Fct) : Fct:={ fct0 with kind:=f.kind,day:=f.day,known:=f.known }
def FctK (s : Fsh) (f : Fct) (g kf : Nat) (gb : Bool) (s' : Fsh) : Prop :=
  lookA f.kind kindL = some (fnV g [],fnV kf []) ∧ Has Tryz.prog g ∧ Has Tryz.prog kf ∧ (gb = true ↔ ContOk f) ∧ (∀ h',FAt h' s f → Val Tryz.prog g ([] ++ [factV s f] ++ []).toArray h' (.bool gb)) ∧
  ((∀ h',FAt h' s f → FAt h' s' (onlyF f)) ∧ FSm (onlyF f)) ∧
  ∀ h' bq,Fn Tryz.prog kf ([] ++ [factV s f,.pointer (some ⟨bq,0,none⟩)] ++ []).toArray [Blk bq 60 (factC fsh0 (baseF f))] h' (wrPost bq 60 (factC s' (onlyF f)))
theorem fctK_mk {s : Fsh} {f : Fct} {g kf : Nat} {gb : Bool} {s' : Fsh} {x : Fct} (hl : lookA f.kind kindL = some (fnV g [],fnV kf [])) (hg : Has Tryz.prog g) (hk : Has Tryz.prog kf) (hgb : gb = true ↔ ContOk f)
    (hv : ∀ h',FAt h' s f → Val Tryz.prog g ([] ++ [factV s f] ++ []).toArray h' (.bool gb)) (hx : x = onlyF f) (ha : (∀ h',FAt h' s f → FAt h' s' x) ∧ FSm x)
    (hf : ∀ h' bq,Fn Tryz.prog kf ([] ++ [factV s f,.pointer (some ⟨bq,0,none⟩)] ++ []).toArray [Blk bq 60 (factC fsh0 (baseF f))] h' (wrPost bq 60 (factC s' x))) :
    ∃ g kf gb s',FctK s f g kf gb s':=⟨g,kf,gb,s',hl,hg,hk,hgb,hv,hx ▸ ha,hx ▸ hf⟩
theorem shSm0 : ShSm sheet0:=by unfold ShSm sheet0;simp
open Classical in
theorem fct_kind (s : Fsh) (f : Fct) (hs : FSm f) (hk : 1 ≤ f.kind ∧ f.kind ≤ 8) : ∃ g kf gb s',FctK s f g kf gb s':=by
  have : f.kind = 1 ∨ f.kind = 2 ∨ f.kind = 3 ∨ f.kind = 4 ∨ f.kind = 5 ∨ f.kind = 6 ∨ f.kind = 7 ∨ f.kind = 8:=by omega
  rcases this with e|e|e|e|e|e|e|e
  · exact fctK_mk (s':={ fsh0 with cl:=s.cl }) (x:={ baseF f with eS:=f.eS,eC:=f.eC,eClubs:=f.eClubs,eRules:=f.eRules }) (by rw [kindL_look,e];rfl) has101 has103 (by rw [decide_eq_true_eq,ContOk,e];rfl) (fun h' a => kk1_c h' s f a hs) (by simp [onlyF,baseF,fct0,e]) (⟨fun h' a => ⟨⟨SlOf.nil,SlOf.nil,SlOf.nil,SlOf.nil⟩,a.cl,SlOf.nil,rfl,Nat.le_refl _⟩,shSm0,hs.2.1,by simp [baseF,fct0],hs.2.2.2⟩) (fun h' bq => kk2_c h' bq s fsh0 f (baseF f))
  · exact fctK_mk (s':=fsh0) (x:={ baseF f with fg:=f.fg,venue:=f.venue }) (by rw [kindL_look,e];rfl) has104 has107 (by rw [decide_eq_true_eq,ContOk,e];rfl) (fun h' a => kk3_c h' s f) (by simp [onlyF,baseF,fct0,e]) (⟨fun h' a => ⟨ShAt.nil h',SlOf.nil,SlOf.nil,rfl,Nat.le_refl _⟩,shSm0,by simp [baseF,fct0],by simp [baseF,fct0],by simp [baseF,fct0]⟩) (fun h' bq => kk4_c h' bq s fsh0 f (baseF f))
  · exact fctK_mk (s':={ fsh0 with hs:=s.hs,asn:=s.asn,hc:=s.hc,ac:=s.ac }) (x:={ baseF f with sh:=f.sh }) (by rw [kindL_look,e];rfl) has108 has110 (by rw [decide_eq_true_eq,ContOk,e];rfl) (fun h' a => kk5_c h' s f a hs) (by simp [onlyF,baseF,fct0,e]) (⟨fun h' a => ⟨⟨a.sh.hs,a.sh.asn,a.sh.hc,a.sh.ac⟩,SlOf.nil,SlOf.nil,rfl,Nat.le_refl _⟩,hs.1,by simp [baseF,fct0],by simp [baseF,fct0],by simp [baseF,fct0]⟩) (fun h' bq => kk6_c h' bq s fsh0 f (baseF f))
  · exact fctK_mk (s':=fsh0) (x:={ baseF f with ru:=f.ru }) (by rw [kindL_look,e];rfl) has111 has113 (by rw [decide_eq_true_eq,ContOk,e];rfl) (fun h' a => kk7_c h' s f) (by simp [onlyF,baseF,fct0,e]) (⟨fun h' a => ⟨ShAt.nil h',SlOf.nil,SlOf.nil,rfl,Nat.le_refl _⟩,shSm0,by simp [baseF,fct0],by simp [baseF,fct0],by simp [baseF,fct0]⟩) (fun h' bq => kk8_c h' bq s fsh0 f (baseF f))
  · exact fctK_mk (s':=fsh0) (x:={ baseF f with aCase:=f.aCase,aInst:=f.aInst,aSusp:=f.aSusp }) (by rw [kindL_look,e];rfl) has114 has115 (by rw [decide_eq_true_eq,ContOk,e];rfl) (fun h' a => kk9_c h' s f) (by simp [onlyF,baseF,fct0,e]) (⟨fun h' a => ⟨ShAt.nil h',SlOf.nil,SlOf.nil,rfl,Nat.le_refl _⟩,shSm0,by simp [baseF,fct0],by simp [baseF,fct0],by simp [baseF,fct0]⟩) (fun h' bq => kk10_c h' bq s fsh0 f (baseF f))
  · exact fctK_mk (s':=fsh0) (x:={ baseF f with mP:=f.mP,mTo:=f.mTo }) (by rw [kindL_look,e];rfl) has116 has119 (by rw [decide_eq_true_eq,ContOk,e];rfl) (fun h' a => kk11_c h' s f) (by simp [onlyF,baseF,fct0,e]) (⟨fun h' a => ⟨ShAt.nil h',SlOf.nil,SlOf.nil,rfl,Nat.le_refl _⟩,shSm0,by simp [baseF,fct0],by simp [baseF,fct0],by simp [baseF,fct0]⟩) (fun h' bq => kk12_c h' bq s fsh0 f (baseF f))
  · exact fctK_mk (s':={ fsh0 with lo:=s.lo }) (x:={ baseF f with lS:=f.lS,lC:=f.lC,lO:=f.lO }) (by rw [kindL_look,e];rfl) has120 has122 (by rw [decide_eq_true_eq,ContOk,e];rfl) (fun h' a => kk13_c h' s f a hs) (by simp [onlyF,baseF,fct0,e]) (⟨fun h' a => ⟨⟨SlOf.nil,SlOf.nil,SlOf.nil,SlOf.nil⟩,SlOf.nil,a.lo,rfl,a.lc⟩,shSm0,by simp [baseF,fct0],hs.2.2.1,by simp [baseF,fct0]⟩) (fun h' bq => kk14_c h' bq s fsh0 f (baseF f))
  · exact fctK_mk (s':=fsh0) (x:={ baseF f with void:=f.void }) (by rw [kindL_look,e];rfl) has123 has124 (by rw [ContOk,e];simp) (fun h' a => kk15_c h' s f) (by simp [onlyF,baseF,fct0,e]) (⟨fun h' a => ⟨ShAt.nil h',SlOf.nil,SlOf.nil,a.void,Nat.le_refl _⟩,shSm0,by simp [baseF,fct0],by simp [baseF,fct0],by simp [baseF,fct0]⟩) (fun h' bq => kk16_c h' bq s fsh0 f (baseF f))
theorem fct_none (f : Fct) (hk : ¬ (1 ≤ f.kind ∧ f.kind ≤ 8)) : lookA f.kind kindL = none ∧ ¬ ContOk f:=by
  constructor
  · rw [kindL_look]
    repeat rw [if_neg (by omega)]
  · rw [ContOk]
    repeat rw [if_neg (by omega)]
    omega
open Classical in
theorem check7_c (h : Ro) (s : Fsh) (f : Fct) (hf : FAt h s f) (hs : FSm f) : Val Tryz.prog 49 #[factV s f] h (.int .i64 (if FctOk f then 0 else 70)):=by
  refine Val_intro (args:=[_]) ts_ok Go.Proofs.Tryz.func49 rfl rfl fun w0 X0 => ?_
  by_cases hk : 1 ≤ f.kind ∧ f.kind ≤ 8
  · obtain ⟨g,kf,gb,s',hl,hg,hkf,hgb,hv,⟨hat,hsm⟩,hfn⟩:=fct_kind s f hs hk
    repeat' (first|apply GO_seq|apply GO_skip|apply GO_region|apply GOl_nil|(apply GOl_unwanted;exact rfl;exact rfl)|(apply GOl_pv;(iterate 3 exact rfl))|(apply GOl_load;exact rfl;exact Ld_blk rfl QM rfl;exact rfl;exact rfl)|(apply GOl_to;(iterate 3 exact rfl);(first|(apply OpTo_store;(iterate 3 exact rfl);exact QR;(iterate 3 exact rfl);skip)|(apply OpTo_box;exact rfl;intro b;skip)|(apply OpTo_alloc;exact rfl;intro b;skip)|(apply OpTo_valF (f:=g) (fs:=[]) (cs:=[]);exact rfl;exact rfl;exact hg;exact hv _ (hf.le (by first|exact Le.refl _|assumption|(repeat (first|assumption|(apply Le.trans;assumption)))));skip)|(apply OpTo_callPF (f:=kf) (fs:=[]) (cs:=[]);exact rfl;exact rfl;exact hkf;exact hfn _ _;exact QT;rintro v1 E1 h1 hle1 ⟨rfl,rfl⟩;skip)|(apply OpTo_val;exact rfl;exact has65;exact same7_c _ s' (onlyF f) (hat _ (hf.le (by first|exact Le.refl _|assumption|(repeat (first|assumption|(apply Le.trans;assumption)))))) hsm s f (hf.le (by first|exact Le.refl _|assumption|(repeat (first|assumption|(apply Le.trans;assumption))))) hs;skip)|(apply OpTo_val;exact rfl;exact has64;exact day7_c _ _;skip)))|(apply GO_drawp (n:=1) [0,1,2,3,4,5,7,8,6,9] [(1,0),(2,0),(0,2),(7,7),(3,0),(4,0),(5,0),(6,0),(7,1),(8,1),(9,0),(0,1),(3,0),(4,0),(5,0),(6,0),(8,1),(9,0)];kernel_rfl)|(apply GP_pv;exact rfl;kernel_rfl;(iterate 3 exact rfl))|(apply GP_loadB;exact rfl;kernel_rfl;(iterate 3 exact rfl);exact QM;exact rfl;exact rfl)|(apply GP_ov;exact rfl;kernel_rfl;exact rfl;exact rfl;(first|(apply OV_lookup (ek:=fun i : Int => .int .i64 i) (ev:=shV) (key:=f.kind) (m:=kindL) (r:=some (fnV g [],fnV kf [])) K7;(iterate 5 exact rfl);exact hl));exact QA)|(apply GP_real;exact rfl;kernel_rfl;(iterate 3 exact rfl);(first|(apply OpTo_store;(iterate 3 exact rfl);exact QR;(iterate 3 exact rfl);refine ⟨Le.refl _,QN,?_⟩)|(apply OpTo_alloc;exact rfl;intro b;refine ⟨Le.refl _,QN,?_⟩)|(apply OpTo_callP;exact rfl;exact has63;exact kinds_c _;exact QT;rintro v0 E0 h0 hle0 ⟨bm,rfl,rfl⟩;refine ⟨hle0,QN,?_⟩)))|(apply GP_two;kernel_rfl;exact rfl;exact rfl)|(apply RealP_intro;(iterate 4 exact rfl);(first|(apply OpTo_alloc;exact rfl;intro b;refine ⟨Le.refl _,QN,?_⟩)|(apply OpTo_callP;exact rfl;exact has63;exact kinds_c _;exact QT;rintro v0 E0 h0 hle0 ⟨bm,rfl,rfl⟩;refine ⟨hle0,QN,?_⟩)))|(apply GP_done;kernel_rfl;exact rfl)|(apply GO_cond;exact rfl;all_goals (intro hc;try simp only [hcS,reduceCtorEq] at hc;try (exfalso;omega)))|(apply GOl_split;exact rfl;exact rfl;all_goals (intro hc;try simp only [hcS,reduceCtorEq] at hc;try (exfalso;omega))))
    all_goals (first|(apply GO_retV1;(iterate 3 exact rfl)))
    all_goals (first|(rw [if_pos (show FctOk f from by unfold FctOk;grind)];done)|(rw [if_neg (show ¬ FctOk f from by unfold FctOk;grind)];done))
  · repeat' (first|apply GO_seq|apply GO_region|apply GOl_nil|(apply GOl_unwanted;exact rfl;exact rfl)|(apply GOl_pv;(iterate 3 exact rfl))|(apply GOl_to;(iterate 3 exact rfl);(first|(apply OpTo_box;exact rfl;intro b;skip)))|(apply GO_drawp (n:=1) [0,1,2,3,4,5,7,8,6,9] [(1,0),(2,0),(0,2),(7,7),(3,0),(4,0),(5,0),(6,0),(7,1),(8,1),(9,0),(0,1),(3,0),(4,0),(5,0),(6,0),(8,1),(9,0)];kernel_rfl)|(apply GP_pv;exact rfl;kernel_rfl;(iterate 3 exact rfl))|(apply GP_loadB;exact rfl;kernel_rfl;(iterate 3 exact rfl);exact QM;exact rfl;exact rfl)|(apply GP_ov;exact rfl;kernel_rfl;exact rfl;exact rfl;(first|(apply OV_lookup (ek:=fun i : Int => .int .i64 i) (ev:=shV) (key:=f.kind) (m:=kindL) (r:=none) K7;(iterate 5 exact rfl);exact (fct_none f hk).1));exact QA)|(apply GP_real;exact rfl;kernel_rfl;(iterate 3 exact rfl);(first|(apply OpTo_store;(iterate 3 exact rfl);exact QR;(iterate 3 exact rfl);refine ⟨Le.refl _,QN,?_⟩)|(apply OpTo_alloc;exact rfl;intro b;refine ⟨Le.refl _,QN,?_⟩)|(apply OpTo_callP;exact rfl;exact has63;exact kinds_c _;exact QT;rintro v0 E0 h0 hle0 ⟨bm,rfl,rfl⟩;refine ⟨hle0,QN,?_⟩)))|(apply GP_two;kernel_rfl;exact rfl;exact rfl)|(apply RealP_intro;(iterate 4 exact rfl);(first|(apply OpTo_alloc;exact rfl;intro b;refine ⟨Le.refl _,QN,?_⟩)|(apply OpTo_callP;exact rfl;exact has63;exact kinds_c _;exact QT;rintro v0 E0 h0 hle0 ⟨bm,rfl,rfl⟩;refine ⟨hle0,QN,?_⟩)))|(apply GP_done;kernel_rfl;exact rfl)|(apply GO_cond;exact rfl;all_goals (intro hc;try simp only [hcS,reduceCtorEq] at hc;try (exfalso;omega))))
    all_goals (first|(apply GO_retV1;(iterate 3 exact rfl)))
    all_goals (rw [if_neg (show ¬ FctOk f from fun hh => (fct_none f hk).2 hh.2.2.1)])
end Go.Hw
set_option linter.unusedVariables false
set_option linter.unusedSimpArgs false
set_option maxRecDepth 100000
set_option maxHeartbeats 4000000
namespace Go.Hw
open Go
attribute [local irreducible] GO GOl GDp Val Fn Res CellsAt ValE Blk OwnS MapA OwnPf Has
open Go.Proofs (Tryz.prog)
def PowG (h : Ro) : Prop:=VarG Tryz.prog h "internal/strconv.uint64pow10" (Lib.pow10Tab.map fun z => .int .u64 z)
theorem PowG.le {h h' : Ro} (g : PowG h) (hl : Le h h') : PowG h':=VarG.le g hl
theorem small7_c (h : Ro) (u : Nat) (hu : u < 100) : Val Tryz.prog 226 #[.int .i64 u] h (.string (str (Lib.decDigits u))) :=
  Val_of_calls fun w _ => Go.Proofs.Tryz.internal_strconv_small u hu w
theorem nd7_c (h : Ro) (hG : PowG h) (u : Nat) (h1 : 1 ≤ u) (h2 : u < 18446744073709551616) : Val Tryz.prog 227 #[.int .u64 u] h (.int .i64 (Lib.nDigits u)) :=
  Val_of_calls fun w hl => Go.Proofs.Tryz.internal_strconv_numDigits u h1 h2 w (hG.tab hl)
theorem fmt7_c (h : Ro) (b u : Nat) (hu1 : 1 ≤ u) (hu : u < 18446744073709551616) : Fn Tryz.prog 228 #[.slice (some ⟨b,0,none⟩) (Lib.nDigits u) 24,.int .u64 u] [Blk b 265 (List.replicate 24 (.int .u8 0))] h
    fun v Es _ => v = .tuple #[] ∧ Es = [Blk b 265 ((Lib.decDigits u).flatMap encB ++ List.replicate (24 - Lib.nDigits u) (.int .u8 0))]:=by
  have hn20 : Lib.nDigits u ≤ 20:=by have:=Lib.numDigits_eq u hu1 hu;split at this <;> omega
  have e : List.replicate 24 (Value.int .u8 0) = List.replicate (Lib.nDigits u) (Value.int .u8 0) ++ List.replicate (24 - Lib.nDigits u) (Value.int .u8 0):=by
    rw [List.replicate_append_replicate];congr 1;omega
  rw [e]
  exact fmtFn (fun blk off cap u d w => Go.Proofs.Tryz.internal_strconv_formatBase10 blk off cap u d w) h b _ 24 u _ _ hu1 hu rfl
theorem CellsAt.pre {h : Ro} {ad : Addr} {vs us : List Value} (c : CellsAt h ad (vs ++ us)) : CellsAt h ad vs:=by
  unfold CellsAt at c ⊢
  exact fun j v e => c j v (by rw [List.getElem?_append_left (List.getElem?_eq_some_iff.1 e).1];exact e)
theorem encB_one : ∀ x,∀ u ∈ encB x,u.oneCell' = true:=fun x => allOne_ok rfl
theorem fmB_one (l : List UInt8) : ∀ u ∈ l.flatMap encB,u.oneCell' = true:=fun u hu => by
  obtain ⟨x,_,h2⟩:=List.mem_flatMap.1 hu
  exact encB_one x u h2
theorem fmB_len (l : List UInt8) : (l.flatMap encB).length = l.length * 1:=flatMap_len (sz:=1) (fun _ => rfl) l
def grewPost (n : Nat) (xs : List Value) (l : List UInt8) : Value → List Asn → Ro → Prop:=fun v Es _ =>
  ∃ A c,v = .slice A (n + l.length) c ∧ Es = [OwnS 5 1 (.slice A (n + l.length) c) (n + l.length) (xs ++ l.flatMap encB)]
theorem appU_c (h : Ro) (hG : PowG h) (sv : Value) (n : Nat) (xs : List Value) (u : Nat) (hu : u < 18446744073709551616) (hn : n ≤ 900000000) : Fn Tryz.prog 209 #[sv,.int .u64 u,.int .i64 10] [OwnS 5 1 sv n xs] h (grewPost n xs (Lib.decDigits u)):=by
  refine Fn_intro (args:=[_,_,_]) ts_ok Go.Proofs.Tryz.func209 rfl rfl fun w0 X0 => ?_
  have hdl : (Lib.decDigits u).length = Lib.nDigits u:=Lib.decDigits_length u
  by_cases h100 : u < 100
  · have hs:=small7_c h u h100
    rw [← i64_in (u : Int) (by omega)] at hs
    have hl2 : (Lib.decDigits u).length ≤ 20:=by
      by_cases h0 : u = 0
      · subst h0;rw [Lib.decDigits,dif_pos (by omega)];simp
      · rw [hdl];have:=Lib.numDigits_eq u (by omega) hu;split at this <;> omega
    repeat' (first|apply GO_seq|apply GO_region|apply GOl_nil|(apply GOl_pv;(iterate 3 exact rfl))|(apply GOl_to;(iterate 3 exact rfl);(first|(apply OpTo_val;exact rfl;exact has226;exact hs;skip)|(apply OpTo_appStrS;(iterate 10 exact rfl);intro v1;exact QR;omega;intro A1 c1;skip)))|(apply GO_cond;exact rfl;all_goals (intro hc;try simp only [hcS,reduceCtorEq] at hc;try (exfalso;omega))))
    exact GO_retS1 rfl rfl rfl (List.Sublist.refl _) ⟨A1,c1,rfl,rfl⟩
  · have h1 : 1 ≤ u:=by omega
    have hn20 : Lib.nDigits u ≤ 20:=by have:=Lib.numDigits_eq u h1 hu;split at this <;> omega
    have hf:=fun b => fmt7_c h b u h1 hu
    have hq:=fmB_len (Lib.decDigits u)
    repeat' (first|apply GO_seq|apply GO_skip|apply GO_region|apply GOl_nil|(apply GOl_pv;(iterate 3 exact rfl))|(apply GOl_ov;exact rfl;exact rfl;(first|(apply OV_sliceArr (n:=Lib.nDigits u);(iterate 6 exact rfl);omega));exact QA)|(apply GOl_to;(iterate 3 exact rfl);(first|(apply OpTo_alloc;exact rfl;intro b;skip)|(apply OpTo_val;exact rfl;exact has227;exact nd7_c _ hG u h1 hu;skip)|(apply OpTo_callP;exact rfl;exact has228;exact hf _;exact QT;rintro v0 E0 h0 hle0 ⟨rfl,rfl⟩;skip)|(refine OpTo_relB QK ?_;intro h2 hle2 hc2;apply OpTo_appendQ (cs:=(Lib.decDigits u).flatMap encB);(iterate 7 exact rfl);exact hc2.pre;intro v1;exact QR;(rw [hq,hdl];rfl);exact fmB_one _;omega;exact rfl;intro A1 c1;skip)))|(apply GO_cond;exact rfl;all_goals (intro hc;try simp only [hcS,reduceCtorEq] at hc;try (exfalso;omega))))
    all_goals (try (exfalso;omega))
    rw [← hdl]
    exact GO_retS1 rfl rfl rfl (List.Sublist.refl _) ⟨A1,c1,rfl,rfl⟩
theorem grew_two {n : Nat} {xs : List Value} {a b : List UInt8} {v : Value} {Es : List Asn} {h : Ro} (g : grewPost (n + a.length) (xs ++ a.flatMap encB) b v Es h) : grewPost n xs (a ++ b) v Es h:=by
  obtain ⟨A,c,rfl,rfl⟩:=g
  refine ⟨A,c,?_,?_⟩
  · rw [List.length_append,Nat.add_assoc]
  · rw [List.length_append,Nat.add_assoc,List.flatMap_append,List.append_assoc]
theorem appI_c (h : Ro) (hG : PowG h) (sv : Value) (n : Nat) (xs : List Value) (i : Int) (h0 : -9223372036854775808 ≤ i) (h1 : i ≤ 9223372036854775807) (hn : n ≤ 800000000) : Fn Tryz.prog 204 #[sv,.int .i64 i,.int .i64 10] [OwnS 5 1 sv n xs] h (grewPost n xs (Lib.itoa i)):=by
  refine Fn_intro (args:=[_,_,_]) ts_ok Go.Proofs.Tryz.func204 rfl rfl fun w0 X0 => ?_
  by_cases hi : i < 0
  · have ei : Lib.itoa i = [45] ++ Lib.decDigits i.natAbs:=by unfold Lib.itoa;rw [if_pos hi];rfl
    have ew : IntKind.u64.wrap (0 - IntKind.u64.wrap i) = (i.natAbs : Int):=by rw [IntKind.wrap_u64,IntKind.wrap_u64];omega
    have hcon : ∀ h' sv,Le h h' → Fn Tryz.prog 209 #[sv,.int .u64 (IntKind.u64.wrap (0 - IntKind.u64.wrap i)),.int .i64 10] [OwnS 5 1 sv (n + 1) (xs ++ [(45 : UInt8)].flatMap encB)] h' (grewPost (n + 1) (xs ++ [(45 : UInt8)].flatMap encB) (Lib.decDigits i.natAbs)):=fun h' sv hle => by
      rw [ew];exact appU_c h' (hG.le hle) sv (n + 1) _ i.natAbs (by omega) (by omega)
    repeat' (first|apply GO_seq|apply GO_region|apply GOl_nil|(apply GOl_pv;(iterate 3 exact rfl))|(apply GOl_to;(iterate 3 exact rfl);(first|(apply OpTo_buildSliceR;(iterate 3 exact rfl);exact List.cons_ne_nil _ _;(iterate 4 exact rfl);intro b1 h1 hle1 hcs1;skip)|(apply OpTo_appendQ (cs:=[(45 : UInt8)].flatMap encB);(iterate 7 exact rfl);exact hcs1;intro v1;exact QR;exact rfl;exact fmB_one _;omega;exact rfl;intro A1 c1;skip)|(apply OpTo_callP;exact rfl;exact has209;exact hcon _ _ (by first|exact Le.refl _|assumption|(repeat (first|assumption|(apply Le.trans;assumption))));exact QT;rintro v2 E2 h2 hle2 hg;skip)))|(apply GO_cond;exact rfl;all_goals (intro hc;try simp only [hcS,reduceCtorEq] at hc;try (exfalso;omega))))
    have hg' : grewPost (n + [(45 : UInt8)].length) (xs ++ [(45 : UInt8)].flatMap encB) (Lib.decDigits i.natAbs) v2 E2 h2:=hg
    rw [ei]
    exact GO_retS1 rfl rfl rfl (List.sublist_append_left _ _) (grew_two hg')
  · have ei : Lib.itoa i = Lib.decDigits i.toNat:=by unfold Lib.itoa;rw [if_neg hi]
    have ew : IntKind.u64.wrap i = (i.toNat : Int):=by rw [IntKind.wrap_u64];omega
    have hcon : Fn Tryz.prog 209 #[sv,.int .u64 (IntKind.u64.wrap i),.int .i64 10] [OwnS 5 1 sv n xs] h (grewPost n xs (Lib.decDigits i.toNat)):=by
      rw [ew];exact appU_c h hG sv n _ i.toNat (by omega) (by omega)
    repeat' (first|apply GO_seq|apply GO_skip|apply GO_region|apply GOl_nil|(apply GOl_pv;(iterate 3 exact rfl))|(apply GOl_to;(iterate 3 exact rfl);(first|(apply OpTo_callP;exact rfl;exact has209;exact hcon;exact QT;rintro v2 E2 h2 hle2 hg;skip)))|(apply GO_cond;exact rfl;all_goals (intro hc;try simp only [hcS,reduceCtorEq] at hc;try (exfalso;omega))))
    rw [ei]
    exact GO_retS1 rfl rfl rfl (List.sublist_append_left _ _) hg
theorem appInt_c (h : Ro) (hG : PowG h) (sv : Value) (n : Nat) (xs : List Value) (i : Int) (h0 : -9223372036854775808 ≤ i) (h1 : i ≤ 9223372036854775807) (hn : n ≤ 800000000) : Fn Tryz.prog 164 #[sv,.int .i64 i,.int .i64 10] [OwnS 5 1 sv n xs] h (grewPost n xs (Lib.itoa i)):=by
  refine Fn_intro (args:=[_,_,_]) ts_ok Go.Proofs.Tryz.func164 rfl rfl fun w0 X0 => ?_
  repeat' (first|apply GO_seq|apply GO_region|apply GOl_nil|(apply GOl_pv;(iterate 3 exact rfl))|(apply GOl_to;(iterate 3 exact rfl);(first|(apply OpTo_callP;exact rfl;exact has204;exact appI_c h hG sv n xs i h0 h1 hn;exact QT;rintro v2 E2 h2 hle2 hg;skip))))
  exact GO_retS1 rfl rfl rfl (List.sublist_append_left _ _) hg
end Go.Hw
set_option linter.unusedVariables false
set_option linter.unusedSimpArgs false
set_option maxRecDepth 100000
set_option maxHeartbeats 4000000
namespace Go.Hw
open Go
attribute [local irreducible] GO GOl GDp Val Fn Res CellsAt ValE Blk OwnS MapA OwnPf Has
open Go.Proofs (Tryz.prog)
structure Va where
  k : Int
  n : Int
  s : List UInt8
  L : Sli
  K : Sli
def vaC (v : Va) : List Value:=[.int .i64 v.k,.int .i64 v.n,.string (str v.s),.slice v.L.A v.L.n v.L.c,.slice v.K.A v.K.n v.K.c]
def vaV (v : Va) : Value:=.agg (vaC v).toArray
def encS7 (s : List UInt8) : List Value:=[.string (str s)]
def Zip7 {α β : Type} (P : α → β → Prop) (l : List α) (m : List β) : Prop:=l.length = m.length ∧ ∀ (i : Nat) (a : α) (b : β),l[i]? = some a → m[i]? = some b → P a b
def I64 (n : Int) : Prop:=-9223372036854775808 ≤ n ∧ n ≤ 9223372036854775807
def bDict (ks bss : List (List UInt8)) : List UInt8:=100 :: ((ks.zip bss).flatMap (fun p => bText p.1 ++ p.2) ++ [101])
def bSeq (bss : List (List UInt8)) : List UInt8:=108 :: (bss.flatten ++ [101])
def VEnc : Nat → Ro → Va → List UInt8 → Prop
  | 0,_,_,_ => False
  | d + 1,h,v,bs =>
    (∃ n,v = ⟨1,n,[],sli0,sli0⟩ ∧ I64 n ∧ bs = bInt n) ∨ (∃ s,v = ⟨2,0,s,sli0,sli0⟩ ∧ bs = bText s) ∨
    (∃ L vs bss,v = ⟨3,0,[],L,sli0⟩ ∧ SlOf vaC 5 h L.A L.n vs ∧ Zip7 (VEnc d h) vs bss ∧ L.n ≤ 1000000 ∧ bs = bSeq bss) ∨
    (∃ L K vs bss ks,v = ⟨4,0,[],L,K⟩ ∧ SlOf vaC 5 h L.A L.n vs ∧ Zip7 (VEnc d h) vs bss ∧ SlOf encS7 1 h K.A K.n ks ∧ ks.length = vs.length ∧ (ks.Pairwise fun a b => Op.bytesLess a b = true) ∧ L.n ≤ 1000000 ∧ bs = bDict ks bss)
theorem Zip7.imp {α β : Type} {P Q : α → β → Prop} {l : List α} {m : List β} (z : Zip7 P l m) (h : ∀ a b,P a b → Q a b) : Zip7 Q l m:=⟨z.1,fun i a b h1 h2 => h a b (z.2 i a b h1 h2)⟩
theorem VEnc.le : ∀ {d : Nat} {h h' : Ro} {v : Va} {bs : List UInt8},VEnc d h v bs → Le h h' → VEnc d h' v bs
  | 0,_,_,_,_,e,_ => e.elim
  | d + 1,h,h',v,bs,e,hl => by
    rcases e with e|e|⟨L,vs,bss,e1,e2,e3,e4⟩|⟨L,K,vs,bss,ks,e1,e2,e3,e4,e5,e6,e7⟩
    · exact .inl e
    · exact .inr (.inl e)
    · exact .inr (.inr (.inl ⟨L,vs,bss,e1,e2.le hl,e3.imp fun a b q => VEnc.le q hl,e4⟩))
    · exact .inr (.inr (.inr ⟨L,K,vs,bss,ks,e1,e2.le hl,e3.imp fun a b q => VEnc.le q hl,e4.le hl,e5,e6,e7⟩))
theorem VEnc.kind {d : Nat} {h : Ro} {v : Va} {bs : List UInt8} (e : VEnc d h v bs) : 1 ≤ v.k ∧ v.k ≤ 4:=by
  cases d with
  | zero => exact e.elim
  | succ d =>
    rcases e with ⟨n,rfl,_⟩|⟨s,rfl,_⟩|⟨L,vs,bss,rfl,_⟩|⟨L,K,vs,bss,ks,rfl,_⟩ <;> (constructor <;> (dsimp only;omega))
def va0 : Va:=⟨0,0,[],sli0,sli0⟩
theorem vaC_len (v : Va) : (vaC v).length = 5:=rfl
theorem vaC_one : ∀ v,∀ u ∈ vaC v,u.oneCell' = true:=fun v => allOne_ok rfl
theorem grew_eq {n m : Nat} {xs ys : List Value} {l : List UInt8} {A : Option Addr} {c : Nat} {h : Ro} (e1 : m = n + l.length) (e2 : ys = xs ++ l.flatMap encB) : grewPost n xs l (.slice A m c) [OwnS 5 1 (.slice A m c) m ys] h:=by
  subst e1;subst e2;exact ⟨A,c,rfl,rfl⟩
theorem text7_c (h : Ro) (hG : PowG h) (sv : Value) (n : Nat) (xs : List Value) (s : List UInt8) (hn : n + s.length ≤ 700000000) : Fn Tryz.prog 166 #[sv,.string (str s)] [OwnS 5 1 sv n xs] h (grewPost n xs (bText s)):=by
  refine Fn_intro (args:=[_,_]) ts_ok Go.Proofs.Tryz.func166 rfl rfl fun w0 X0 => ?_
  have hil : (Lib.itoa s.length).length ≤ 21:=by have:=Lib.itoa_length_le (s.length : Int) (by omega) (by omega);omega
  repeat' (first|apply GO_seq|apply GO_region|apply GOl_nil|(apply GOl_pv;(iterate 3 exact rfl))|(apply GOl_to;(iterate 3 exact rfl);(first|(apply OpTo_callP;exact rfl;exact has164;exact appInt_c h hG sv n xs (s.length : Int) (by omega) (by omega) (by omega);exact QT;rintro v2 E2 h2 hle2 ⟨A2,c2,rfl,rfl⟩;skip)|(apply OpTo_buildSliceR;(iterate 3 exact rfl);exact List.cons_ne_nil _ _;(iterate 4 exact rfl);intro b1 h1 hle1 hcs1;skip)|(apply OpTo_appendQ (cs:=[(58 : UInt8)].flatMap encB);(iterate 7 exact rfl);exact hcs1;intro v1;exact QR;exact rfl;exact fmB_one _;omega;exact rfl;intro A1 c1;skip)|(apply OpTo_appStrS (s:=s);(iterate 10 exact rfl);intro v1;exact QR;omega;intro A3 c3;skip))))
  refine GO_retS1 rfl rfl rfl (List.Sublist.refl _) (grew_eq ?_ ?_)
  · unfold bText;simp only [List.length_append,List.length_cons];omega
  · unfold bText;rw [List.flatMap_append,List.flatMap_cons];simp only [List.append_assoc];rfl
def wid (k : Int) : Nat:=if k = 1 then 163 else if k = 2 then 165 else if k = 3 then 167 else 168
def wcap (k : Int) (pb : Nat) : List Value:=if k ≤ 2 then [] else [.pointer (some ⟨pb,0,none⟩)]
def wV (k : Int) (pb : Nat) : Value:=.func (.func (wid k)) #[] (wcap k pb).toArray
structure WAt (h : Ro) (pb wb : Nat) : Prop where
  box : CellsAt h ⟨pb,0,none⟩ [.pointer (some ⟨wb,0,none⟩)]
  tab : CellsAt h ⟨wb,0,none⟩ [.nilFunc,wV 1 pb,wV 2 pb,wV 3 pb,wV 4 pb]
theorem WAt.le {h h' : Ro} {pb wb : Nat} (w : WAt h pb wb) (hl : Le h h') : WAt h' pb wb:=⟨w.box.le hl,w.tab.le hl⟩
theorem WAt.at_ {h : Ro} {pb wb : Nat} (w : WAt h pb wb) {k : Int} (h1 : 1 ≤ k) (h2 : k ≤ 4) : CellsAt h ((⟨wb,0,none⟩ : Addr).add (k.toNat * 1)) [wV k pb]:=by
  have hs:=w.tab.shift (k.toNat * 1)
  have : k = 1 ∨ k = 2 ∨ k = 3 ∨ k = 4:=by omega
  rcases this with rfl|rfl|rfl|rfl
  · exact hs.pre (vs:=[wV 1 pb]) (us:=[wV 2 pb,wV 3 pb,wV 4 pb])
  · exact hs.pre (vs:=[wV 2 pb]) (us:=[wV 3 pb,wV 4 pb])
  · exact hs.pre (vs:=[wV 3 pb]) (us:=[wV 4 pb])
  · exact hs.pre (vs:=[wV 4 pb]) (us:=[])
theorem has_wid {k : Int} : Has Tryz.prog (wid k):=by
  unfold wid
  split
  · exact has163
  · split
    · exact has165
    · split
      · exact has167
      · exact has168
def WrOk (d : Nat) : Prop:=∀ (h : Ro) (pb wb : Nat) (v : Va) (bs : List UInt8) (sv : Value) (n : Nat) (xs : List Value),PowG h → WAt h pb wb → VEnc d h v bs → n + bs.length ≤ 600000000 →
  Fn Tryz.prog (wid v.k) ([] ++ [sv,vaV v] ++ wcap v.k pb).toArray [OwnS 5 1 sv n xs] h (grewPost n xs bs)
theorem wr1_c (h : Ro) (hG : PowG h) (sv : Value) (n : Nat) (xs : List Value) (m : Int) (hm : I64 m) (hn : n ≤ 600000000) : Fn Tryz.prog 163 #[sv,vaV ⟨1,m,[],sli0,sli0⟩] [OwnS 5 1 sv n xs] h (grewPost n xs (bInt m)):=by
  refine Fn_intro (args:=[_,_]) ts_ok Go.Proofs.Tryz.func163 rfl rfl fun w0 X0 => ?_
  have hil : (Lib.itoa m).length ≤ 21:=Lib.itoa_length_le m hm.1 hm.2
  repeat' (first|apply GO_seq|apply GO_region|apply GOl_nil|(apply GOl_pv;(iterate 3 exact rfl))|(apply GOl_to;(iterate 3 exact rfl);(first|(apply OpTo_box;exact rfl;intro b;skip)))|(apply GO_drawp (n:=1) [0,1,2,3,4,5,6,7,8] [(0,0),(3,0),(4,0),(1,2),(14,6),(2,2),(8,6),(5,2),(3,6),(6,1),(7,1),(8,0),(5,1),(7,1),(8,0),(2,1),(5,1),(7,1),(8,0),(1,1),(2,1),(5,1),(7,1),(8,0)];kernel_rfl)|(apply GP_pv;exact rfl;kernel_rfl;(iterate 3 exact rfl))|(apply GP_loadB;exact rfl;kernel_rfl;(iterate 3 exact rfl);exact QM;exact rfl;exact rfl)|(apply GP_real;exact rfl;kernel_rfl;(iterate 3 exact rfl);(first|(apply OpTo_callP;exact rfl;exact has164;exact appInt_c _ (hG.le (by first|exact Le.refl _|assumption|(repeat (first|assumption|(apply Le.trans;assumption))))) _ (n + 1) (xs ++ [(105 : UInt8)].flatMap encB) m hm.1 hm.2 (by omega);exact QT;rintro v2 E2 h2 hle2 ⟨A2,c2,rfl,rfl⟩;refine ⟨hle2,QN,?_⟩)|(apply OpTo_buildSliceR (cs:=[(105 : UInt8)].flatMap encB);(iterate 3 exact rfl);exact List.cons_ne_nil _ _;(iterate 4 exact rfl);intro b1 h1 hle1 hcs1;refine ⟨hle1,QN,?_⟩)|(apply OpTo_buildSliceR (cs:=[(101 : UInt8)].flatMap encB);(iterate 3 exact rfl);exact List.cons_ne_nil _ _;(iterate 4 exact rfl);intro b3 h3 hle3 hcs3;refine ⟨hle3,QN,?_⟩)|(apply OpTo_appendQ (cs:=[(105 : UInt8)].flatMap encB);(iterate 7 exact rfl);exact hcs1.le (by first|exact Le.refl _|assumption|(repeat (first|assumption|(apply Le.trans;assumption))));intro v1;exact QR;exact rfl;exact fmB_one _;omega;exact rfl;intro A1 c1;refine ⟨Le.refl _,QN,?_⟩)|(apply OpTo_appendQ (cs:=[(101 : UInt8)].flatMap encB);(iterate 7 exact rfl);exact hcs3.le (by first|exact Le.refl _|assumption|(repeat (first|assumption|(apply Le.trans;assumption))));intro v1;exact QR;exact rfl;exact fmB_one _;omega;exact rfl;intro A1 c1;refine ⟨Le.refl _,QN,?_⟩)))|(apply GP_two;kernel_rfl;exact rfl;exact rfl)|(apply RealP_intro;(iterate 4 exact rfl);(first|(apply OpTo_callP;exact rfl;exact has164;exact appInt_c _ (hG.le (by first|exact Le.refl _|assumption|(repeat (first|assumption|(apply Le.trans;assumption))))) _ (n + 1) (xs ++ [(105 : UInt8)].flatMap encB) m hm.1 hm.2 (by omega);exact QT;rintro v2 E2 h2 hle2 ⟨A2,c2,rfl,rfl⟩;refine ⟨hle2,QN,?_⟩)|(apply OpTo_buildSliceR (cs:=[(105 : UInt8)].flatMap encB);(iterate 3 exact rfl);exact List.cons_ne_nil _ _;(iterate 4 exact rfl);intro b1 h1 hle1 hcs1;refine ⟨hle1,QN,?_⟩)|(apply OpTo_buildSliceR (cs:=[(101 : UInt8)].flatMap encB);(iterate 3 exact rfl);exact List.cons_ne_nil _ _;(iterate 4 exact rfl);intro b3 h3 hle3 hcs3;refine ⟨hle3,QN,?_⟩)|(apply OpTo_appendQ (cs:=[(105 : UInt8)].flatMap encB);(iterate 7 exact rfl);exact hcs1.le (by first|exact Le.refl _|assumption|(repeat (first|assumption|(apply Le.trans;assumption))));intro v1;exact QR;exact rfl;exact fmB_one _;omega;exact rfl;intro A1 c1;refine ⟨Le.refl _,QN,?_⟩)))|(apply GP_done;kernel_rfl;exact rfl))
  all_goals (refine GO_retS1 rfl rfl rfl (.cons_cons _ (List.nil_sublist _)) (grew_eq ?_ ?_))
  all_goals first
    | (unfold bInt;simp only [List.length_append,List.length_cons,List.length_nil];omega)
    | (unfold bInt;simp only [List.flatMap_cons,List.flatMap_append,List.append_assoc,List.flatMap_nil,List.append_nil,List.nil_append])
theorem wr2_c (h : Ro) (hG : PowG h) (sv : Value) (n : Nat) (xs : List Value) (s : List UInt8) (hn : n + s.length ≤ 600000000) : Fn Tryz.prog 165 #[sv,vaV ⟨2,0,s,sli0,sli0⟩] [OwnS 5 1 sv n xs] h (grewPost n xs (bText s)):=by
  refine Fn_intro (args:=[_,_]) ts_ok Go.Proofs.Tryz.func165 rfl rfl fun w0 X0 => ?_
  repeat' (first|apply GO_seq|apply GO_region|apply GOl_nil|(apply GOl_pv;(iterate 3 exact rfl))|(apply GOl_load;exact rfl;exact Ld_blk rfl QM rfl;exact rfl;exact rfl)|(apply GOl_to;(iterate 3 exact rfl);(first|(apply OpTo_box;exact rfl;intro b;skip)|(apply OpTo_callP;exact rfl;exact has166;exact text7_c h hG sv n xs s (by omega);exact QT;rintro v2 E2 h2 hle2 ⟨A2,c2,rfl,rfl⟩;skip))))
  exact GO_retS1 rfl rfl rfl (.cons_cons _ (List.nil_sublist _)) ⟨A2,c2,rfl,rfl⟩
theorem zip_at {d : Nat} {h : Ro} {vs : List Va} {bss : List (List UInt8)} (z : Zip7 (VEnc d h) vs bss) {k : Nat} (hk : k < vs.length) : VEnc d h (vs.getD k va0) (bss.getD k []) :=
  z.2 k _ _ (by simp [List.getD,List.getElem?_eq_getElem hk]) (by simp [List.getD,List.getElem?_eq_getElem (show k < bss.length from z.1 ▸ hk)])
theorem flat_le {bss : List (List UInt8)} {k : Nat} (hk : k < bss.length) : (bss.take k).flatten.length + (bss.getD k []).length ≤ bss.flatten.length:=by
  have h1:=take7 [] rfl hk
  have h2 : (bss.take (k + 1)).flatten.length ≤ bss.flatten.length:=by
    conv => rhs;rw [← List.take_append_drop (k + 1) bss,List.flatten_append,List.length_append]
    omega
  rw [h1,List.flatten_append,List.length_append] at h2
  simpa using h2
theorem wr3_c (d : Nat) (ih0 : WrOk d) (h : Ro) (hG : PowG h) (pb wb : Nat) (hw : WAt h pb wb) (sv : Value) (n : Nat) (xs : List Value) (L : Sli) (vs : List Va) (bss : List (List UInt8)) (hL : SlOf vaC 5 h L.A L.n vs) (hz : Zip7 (VEnc d h) vs bss) (hn : n + (bSeq bss).length ≤ 600000000) (hn2 : L.n ≤ 1000000000) :
    Fn Tryz.prog 167 #[sv,vaV ⟨3,0,[],L,sli0⟩,.pointer (some ⟨pb,0,none⟩)] [OwnS 5 1 sv n xs] h (grewPost n xs (bSeq bss)):=by
  refine Fn_intro (args:=[_,_,_]) ts_ok Go.Proofs.Tryz.func167 rfl rfl fun w0 X0 => ?_
  have hlen:=hL.len
  have hzl:=hz.1
  have hbl : (bSeq bss).length = bss.flatten.length + 2:=by unfold bSeq;simp
  repeat' (first|apply GO_seq|apply GO_block|apply GO_region|apply GOl_nil|(apply GOl_pv;(iterate 3 exact rfl))|(apply GOl_load;exact rfl;exact Ld_blk rfl QM rfl;exact rfl;exact rfl)|(apply GOl_to;(iterate 3 exact rfl);(first|(apply OpTo_box;exact rfl;intro b;skip)|(apply OpTo_buildSliceR (cs:=[(108 : UInt8)].flatMap encB);(iterate 3 exact rfl);exact List.cons_ne_nil _ _;(iterate 4 exact rfl);intro b1 h1 hle1 hcs1;skip)|(apply OpTo_appendQ (cs:=[(108 : UInt8)].flatMap encB);(iterate 7 exact rfl);exact hcs1.le (by first|exact Le.refl _|assumption|(repeat (first|assumption|(apply Le.trans;assumption))));intro v1;exact QR;exact rfl;exact fmB_one _;omega;exact rfl;intro A1 c1;skip))))
  generalize hmm : n + 1 = m1
  refine GO_loopT (X:=Nat × Option Addr × Nat × Ro) (fun x => x.1 ≤ L.n ∧ Le h x.2.2.2) (fun x => L.n - x.1)
    (fun x => [(14,.int .i64 x.1),(13,.int .i64 L.n),(12,.slice L.A L.n L.c),(2,.pointer (some ⟨pb,0,none⟩)),(0,.slice x.2.1 (m1 + (bss.take x.1).flatten.length) x.2.2.1)])
    (fun x => [OwnS 5 1 (.slice x.2.1 (m1 + (bss.take x.1).flatten.length) x.2.2.1) (m1 + (bss.take x.1).flatten.length) (xs ++ (108 :: (bss.take x.1).flatten).flatMap encB)]) (fun x => x.2.2.2) (0,A1,c1,h1) ⟨by dsimp only;omega,hle1⟩ QS QT rfl ?_
  rintro ⟨k,A,c,hh⟩ ⟨hk,hle⟩ ih
  dsimp only at hk hle ih ⊢
  by_cases hkn : k < L.n
  · have a1:=hL.addrD hkn
    have cc:=(hL.cellsD va0 hkn).le hle
    have hv:=(zip_at hz (show k < vs.length by omega)).le hle
    have hfl:=flat_le (show k < bss.length by omega)
    have ht:=take7 [] rfl (show k < bss.length by omega)
    generalize vs.getD k va0 = u at *
    generalize bss.getD k [] = bb at *
    have hwb:=(hw.le hle).box
    have hwt:=(hw.le hle).at_ hv.kind.1 hv.kind.2
    have huk:=hv.kind
    have hcon:=fun sv n xs hn => ih0 hh pb wb u bb sv n xs (hG.le hle) (hw.le hle) hv hn
    repeat' (first|apply GO_seq|apply GO_skip|apply GO_inBlock|apply GO_block|apply GO_region|apply GOl_nil|(apply GOl_add;(iterate 3 exact rfl);omega;exact rfl;exact rfl)|(apply GOl_pv;(iterate 3 exact rfl))|(apply GOl_ov;exact rfl;exact rfl;(first|(apply OV_idxS (j:=k);(iterate 5 exact rfl);exact a1;(with_reducible exact rfl);omega)|(apply OV_load;exact rfl;exact Lv_ro rfl cc rfl));exact QA)|(apply GOl_to;(iterate 3 exact rfl);(first|(apply OpTo_store;(iterate 3 exact rfl);exact QR;(iterate 3 exact rfl);skip)|(apply OpTo_alloc;exact rfl;intro b;skip)))|(apply GO_drawp (n:=5) [0,1,2,3,4,5,6,7,8,9,10] [(0,0),(1,0),(2,0),(3,0),(4,0),(5,0),(6,0),(7,0),(8,0),(9,1),(10,0)];kernel_rfl)|(apply GP_pv;exact rfl;kernel_rfl;(iterate 3 exact rfl))|(apply GP_loadB;exact rfl;kernel_rfl;(iterate 3 exact rfl);exact QM;exact rfl;exact rfl)|(apply GP_ov;exact rfl;kernel_rfl;exact rfl;exact rfl;(first|(apply OV_idxA (j:=u.k.toNat);(iterate 5 exact rfl);omega;omega)|(apply OV_load;exact rfl;exact Lv_ro rfl hwb rfl)|(apply OV_load;exact rfl;exact Lv_roF rfl hwt rfl));exact QA)|(apply GP_real;exact rfl;kernel_rfl;(iterate 3 exact rfl);(first|(apply OpTo_callPF (f:=wid u.k) (fs:=[]) (cs:=wcap u.k pb);exact rfl;exact rfl;exact has_wid;exact hcon _ (m1 + (bss.take k).flatten.length) (xs ++ (108 :: (bss.take k).flatten).flatMap encB) (by omega);exact QT;rintro v2 E2 h2 hle2 ⟨A2,c2,rfl,rfl⟩;refine ⟨hle2,QN,?_⟩)))|(apply GP_done;kernel_rfl;exact rfl)|(apply GO_cond;exact rfl;all_goals (intro hc;try simp only [hcS,reduceCtorEq] at hc;try (exfalso;omega))))
    all_goals
      have h3:=ih (k + 1,A2,c2,h2) ⟨by dsimp only;omega,by dsimp only;exact hle.trans hle2⟩ (by dsimp only;omega)
      dsimp only at h3
      rw [ht,List.flatten_append,List.flatten_singleton,List.length_append,← Nat.add_assoc,← List.cons_append,List.flatMap_append,← List.append_assoc] at h3
      refine GO_fit QS QT (h3)
  · rw [List.take_of_length_le (by omega)]
    clear ih
    repeat' (first|apply GO_seq|apply GO_region|apply GOl_nil|(apply GO_exit;exact rfl)|(apply GOl_pv;(iterate 3 exact rfl))|(apply GOl_to;(iterate 3 exact rfl);(first|(apply OpTo_buildSliceR (cs:=[(101 : UInt8)].flatMap encB);(iterate 3 exact rfl);exact List.cons_ne_nil _ _;(iterate 4 exact rfl);intro b3 h3 hle3 hcs3;skip)|(apply OpTo_appendQ (cs:=[(101 : UInt8)].flatMap encB);(iterate 7 exact rfl);exact hcs3.le (by first|exact Le.refl _|assumption|(repeat (first|assumption|(apply Le.trans;assumption))));intro v1;exact QR;exact rfl;exact fmB_one _;omega;exact rfl;intro A3 c3;skip)))|(apply GO_cond;exact rfl;all_goals (intro hc;try simp only [hcS,reduceCtorEq] at hc;try (exfalso;omega))))
    refine GO_retS1 rfl rfl rfl (List.Sublist.refl _) (grew_eq ?_ ?_)
    · omega
    · unfold bSeq;simp only [List.flatMap_cons,List.flatMap_append,List.append_assoc,List.flatMap_nil,List.append_nil,List.nil_append]
theorem wr4_c (d : Nat) (ih0 : WrOk d) (h : Ro) (hG : PowG h) (pb wb : Nat) (hw : WAt h pb wb) (sv : Value) (n : Nat) (xs : List Value) (L K : Sli) (vs : List Va) (bss ks : List (List UInt8)) (hL : SlOf vaC 5 h L.A L.n vs) (hz : Zip7 (VEnc d h) vs bss) (hK : SlOf encS7 1 h K.A K.n ks) (hkl : ks.length = vs.length) (hn : n + (bDict ks bss).length ≤ 600000000) (hn2 : L.n ≤ 1000000000) :
    Fn Tryz.prog 168 #[sv,vaV ⟨4,0,[],L,K⟩,.pointer (some ⟨pb,0,none⟩)] [OwnS 5 1 sv n xs] h (grewPost n xs (bDict ks bss)):=by
  refine Fn_intro (args:=[_,_,_]) ts_ok Go.Proofs.Tryz.func168 rfl rfl fun w0 X0 => ?_
  have hlen:=hL.len
  have hlenK:=hK.len
  have hzl:=hz.1
  obtain ⟨tt,htt⟩ : ∃ tt,tt = (ks.zip bss).map (fun p => bText p.1 ++ p.2):=⟨_,rfl⟩
  have hfm : (ks.zip bss).flatMap (fun p => bText p.1 ++ p.2) = tt.flatten:=by rw [htt,List.flatMap_def]
  have htl : tt.length = vs.length:=by rw [htt,List.length_map,List.length_zip];omega
  have hbl : (bDict ks bss).length = tt.flatten.length + 2:=by unfold bDict;rw [hfm];simp
  have hta : ∀ k,k < vs.length → tt.getD k [] = bText (ks.getD k []) ++ bss.getD k []:=fun k hk => by
    rw [htt];simp [List.getD,List.getElem?_eq_getElem (show k < ks.length by omega),List.getElem?_eq_getElem (show k < bss.length by omega),List.zip_eq_zipWith,List.getElem?_zipWith]
  repeat' (first|apply GO_seq|apply GO_block|apply GO_region|apply GOl_nil|(apply GOl_pv;(iterate 3 exact rfl))|(apply GOl_load;exact rfl;exact Ld_blk rfl QM rfl;exact rfl;exact rfl)|(apply GOl_to;(iterate 3 exact rfl);(first|(apply OpTo_box;exact rfl;intro b;skip)|(apply OpTo_buildSliceR (cs:=[(100 : UInt8)].flatMap encB);(iterate 3 exact rfl);exact List.cons_ne_nil _ _;(iterate 4 exact rfl);intro b1 h1 hle1 hcs1;skip)|(apply OpTo_appendQ (cs:=[(100 : UInt8)].flatMap encB);(iterate 7 exact rfl);exact hcs1.le (by first|exact Le.refl _|assumption|(repeat (first|assumption|(apply Le.trans;assumption))));intro v1;exact QR;exact rfl;exact fmB_one _;omega;exact rfl;intro A1 c1;skip))))
  generalize hmm : n + 1 = m1
  generalize b = b0
  refine GO_loopT (X:=Nat × Option Addr × Nat × Ro) (fun x => x.1 ≤ L.n ∧ Le h x.2.2.2) (fun x => L.n - x.1)
    (fun x => [(14,.int .i64 x.1),(13,.int .i64 L.n),(12,.slice L.A L.n L.c),(2,.pointer (some ⟨pb,0,none⟩)),(4,.pointer (some ⟨b0,0,none⟩)),(0,.slice x.2.1 (m1 + (tt.take x.1).flatten.length) x.2.2.1)])
    (fun x => [OwnS 5 1 (.slice x.2.1 (m1 + (tt.take x.1).flatten.length) x.2.2.1) (m1 + (tt.take x.1).flatten.length) (xs ++ (100 :: (tt.take x.1).flatten).flatMap encB),Blk b0 147 (vaC ⟨4,0,[],L,K⟩)]) (fun x => x.2.2.2) (0,A1,c1,h1) ⟨by dsimp only;omega,hle1⟩ QS QT rfl ?_
  rintro ⟨k,A,c,hh⟩ ⟨hk,hle⟩ ih
  dsimp only at hk hle ih ⊢
  by_cases hkn : k < L.n
  · have a1:=hL.addrD hkn
    have cc:=(hL.cellsD va0 hkn).le hle
    have hkK : k < K.n:=by omega
    have a2:=hK.addrD hkK
    have c2k:=(hK.cellsD [] (show k < K.n by omega)).le hle
    have hv:=(zip_at hz (show k < vs.length by omega)).le hle
    have hfl:=flat_le (show k < tt.length by omega)
    have ht:=take7 [] rfl (show k < tt.length by omega)
    have hta1:=hta k (by omega)
    generalize vs.getD k va0 = u at *
    generalize bss.getD k [] = bb at *
    generalize ks.getD k [] = kk at *
    have htal : (tt.getD k []).length = (bText kk).length + bb.length:=by rw [hta1,List.length_append]
    have hkk : kk.length ≤ (bText kk).length:=by unfold bText;simp;omega
    have hwb:=(hw.le hle).box
    have hwt:=(hw.le hle).at_ hv.kind.1 hv.kind.2
    have huk:=hv.kind
    have hcon:=fun h' (hl : Le hh h') sv n xs hn => ih0 h' pb wb u bb sv n xs (hG.le (hle.trans hl)) (hw.le (hle.trans hl)) (hv.le hl) hn
    repeat' (first|apply GO_seq|apply GO_skip|apply GO_inBlock|apply GO_block|apply GO_region|apply GOl_nil|(apply GOl_add;(iterate 3 exact rfl);omega;exact rfl;exact rfl)|(apply GOl_pv;(iterate 3 exact rfl))|(apply GOl_ov;exact rfl;exact rfl;(first|(apply OV_idxS (j:=k);(iterate 5 exact rfl);exact a1;(with_reducible exact rfl);omega)|(apply OV_load;exact rfl;exact Lv_ro rfl cc rfl));exact QA)|(apply GOl_to;(iterate 3 exact rfl);(first|(apply OpTo_store;(iterate 3 exact rfl);exact QR;(iterate 3 exact rfl);skip)|(apply OpTo_alloc;exact rfl;intro b;skip)))|(apply GO_drawp (n:=5) [0,1,2,3,4,5,6,7,8,9,10,11,12,13,14,15,16] [(0,0),(1,0),(2,0),(3,0),(4,0),(5,0),(6,0),(7,0),(8,0),(9,0),(10,0),(11,0),(12,0),(14,0),(13,1),(15,1),(16,0)];kernel_rfl)|(apply GP_pv;exact rfl;kernel_rfl;(iterate 3 exact rfl))|(apply GP_loadB;exact rfl;kernel_rfl;(iterate 3 exact rfl);exact QM;exact rfl;exact rfl)|(apply GP_ov;exact rfl;kernel_rfl;exact rfl;exact rfl;(first|(apply OV_idxS (j:=k);(iterate 5 exact rfl);exact a2;(with_reducible exact rfl);exact hkK)|(apply OV_idxA (j:=u.k.toNat);(iterate 5 exact rfl);omega;omega)|(apply OV_load;exact rfl;exact Lv_ro rfl c2k rfl)|(apply OV_load;exact rfl;exact Lv_ro rfl hwb rfl)|(apply OV_load;exact rfl;exact Lv_roF rfl hwt rfl));exact QA)|(apply GP_real;exact rfl;kernel_rfl;(iterate 3 exact rfl);(first|(apply OpTo_callP;exact rfl;exact has166;exact text7_c _ (hG.le (by first|exact Le.refl _|assumption|(repeat (first|assumption|(apply Le.trans;assumption))))) _ (m1 + (tt.take k).flatten.length) (xs ++ (100 :: (tt.take k).flatten).flatMap encB) kk (by omega);exact QT;rintro v2 E2 h2 hle2 ⟨A2,c2,rfl,rfl⟩;refine ⟨hle2,QN,?_⟩)|(apply OpTo_callPF (f:=wid u.k) (fs:=[]) (cs:=wcap u.k pb);exact rfl;exact rfl;exact has_wid;exact hcon _ (by first|exact Le.refl _|assumption|(repeat (first|assumption|(apply Le.trans;assumption)))) _ (m1 + (tt.take k).flatten.length + (bText kk).length) (xs ++ (100 :: (tt.take k).flatten).flatMap encB ++ (bText kk).flatMap encB) (by omega);exact QT;rintro v3 E3 h3 hle3 ⟨A3,c3,rfl,rfl⟩;refine ⟨hle3,QN,?_⟩)))|(apply GP_done;kernel_rfl;exact rfl)|(apply GO_cond;exact rfl;all_goals (intro hc;try simp only [hcS,reduceCtorEq] at hc;try (exfalso;omega))))
    all_goals
      have h3:=ih (k + 1,A3,c3,h3) ⟨by dsimp only;omega,by dsimp only;exact hle.trans (by first|exact Le.refl _|assumption|(repeat (first|assumption|(apply Le.trans;assumption))))⟩ (by dsimp only;omega)
      dsimp only at h3
      rw [ht,List.flatten_append,List.flatten_singleton,hta1,List.length_append,List.length_append,← Nat.add_assoc,← Nat.add_assoc,← List.cons_append,List.flatMap_append,List.flatMap_append,← List.append_assoc,← List.append_assoc] at h3
      refine GO_fit QS QT (h3)
  · rw [List.take_of_length_le (by omega)]
    clear ih
    repeat' (first|apply GO_seq|apply GO_region|apply GOl_nil|(apply GO_exit;exact rfl)|(apply GOl_pv;(iterate 3 exact rfl))|(apply GOl_to;(iterate 3 exact rfl);(first|(apply OpTo_buildSliceR (cs:=[(101 : UInt8)].flatMap encB);(iterate 3 exact rfl);exact List.cons_ne_nil _ _;(iterate 4 exact rfl);intro b3 h3 hle3 hcs3;skip)|(apply OpTo_appendQ (cs:=[(101 : UInt8)].flatMap encB);(iterate 7 exact rfl);exact hcs3.le (by first|exact Le.refl _|assumption|(repeat (first|assumption|(apply Le.trans;assumption))));intro v1;exact QR;exact rfl;exact fmB_one _;omega;exact rfl;intro A3 c3;skip)))|(apply GO_cond;exact rfl;all_goals (intro hc;try simp only [hcS,reduceCtorEq] at hc;try (exfalso;omega))))
    refine GO_retS1 rfl rfl rfl (.cons_cons _ (List.nil_sublist _)) (grew_eq ?_ ?_)
    · omega
    · unfold bDict;rw [hfm];simp only [List.flatMap_cons,List.flatMap_append,List.append_assoc,List.flatMap_nil,List.append_nil,List.nil_append]
end Go.Hw
set_option linter.unusedVariables false
set_option linter.unusedSimpArgs false
set_option maxRecDepth 100000
set_option maxHeartbeats 4000000
namespace Go.Hw
open Go
attribute [local irreducible] GO GOl GDp Val Fn Res CellsAt ValE Blk OwnS MapA OwnPf Has
open Go.Proofs (Tryz.prog)
theorem wr_ok : ∀ d,WrOk d
  | 0 => fun h pb wb v bs sv n xs hG hw hv hn => hv.elim
  | d + 1 => fun h pb wb v bs sv n xs hG hw hv hn => by
    rcases hv with ⟨m,rfl,hm,rfl⟩|⟨s,rfl,rfl⟩|⟨L,vs,bss,rfl,e2,e3,e4,rfl⟩|⟨L,K,vs,bss,ks,rfl,e2,e3,e4,e5,e6,e7,rfl⟩
    · exact wr1_c h hG sv n xs m hm (by omega)
    · exact wr2_c h hG sv n xs s (by unfold bText at hn;simp at hn;omega)
    · exact wr3_c d (wr_ok d) h hG pb wb hw sv n xs L vs bss e2 e3 hn (by omega)
    · exact wr4_c d (wr_ok d) h hG pb wb hw sv n xs L K vs bss ks e2 e3 e4 e5 hn (by omega)
theorem newWriter_c (h : Ro) : Res Tryz.prog 133 #[] h fun v h' => ∃ pb wb,v = .pointer (some ⟨wb,0,none⟩) ∧ WAt h' pb wb:=by
  refine Res_intro (args:=[]) ts_ok Go.Proofs.Tryz.func133 rfl rfl fun w0 X0 => ?_
  repeat' (first|apply GO_seq|apply GO_region|apply GOl_nil|(apply GOl_pv;(iterate 3 exact rfl))|(apply GOl_load;exact rfl;exact Ld_blk rfl QM rfl;exact rfl;exact rfl)|(apply GOl_ov;exact rfl;exact rfl;(first|(apply OV_idxA (j:=1);(iterate 6 exact rfl);exact (by decide))|(apply OV_idxA (j:=2);(iterate 6 exact rfl);exact (by decide))|(apply OV_idxA (j:=3);(iterate 6 exact rfl);exact (by decide))|(apply OV_idxA (j:=4);(iterate 6 exact rfl);exact (by decide)));exact QA)|(apply GOl_to;(iterate 3 exact rfl);(first|(apply OpTo_store;(iterate 3 exact rfl);exact QR;(iterate 3 exact rfl);skip)|(apply OpTo_box;exact rfl;intro b;skip)|(apply OpTo_alloc;exact rfl;intro b;skip))))
  rename_i wb
  refine GO_relB (b:=wb) QK ?_
  intro h1 hle1 hc1
  refine GO_relB (b:=b) QK ?_
  intro h2 hle2 hc2
  (first|(apply GO_retR1;(iterate 3 exact rfl)))
  exact ⟨b,wb,rfl,hc2,hc1.le hle2⟩
theorem sEq (a b : List UInt8) : ((str a).toList == (⟨#[]⟩ : ByteArray).toList) = decide (a = []):=by
  rw [str_toList,show (⟨#[]⟩ : ByteArray).toList = [] from str_toList []];exact dec_of beq_iff_eq
theorem strNil : ((str []).toList == (⟨#[]⟩ : ByteArray).toList) = true:=by rw [sEq [] []];rfl
theorem empty_c (h : Ro) (d : Nat) (v : Va) (bs : List UInt8) (hv : VEnc d h v bs) : Val Tryz.prog 203 #[vaV v] h (.bool true):=by
  refine Val_intro (args:=[_]) ts_ok Go.Proofs.Tryz.func203 rfl rfl fun w0 X0 => ?_
  cases d with
  | zero => exact hv.elim
  | succ d =>
    have hs:=strNil
    rcases hv with ⟨m,rfl,hm,rfl⟩|⟨s,rfl,rfl⟩|⟨L,vs,bss,rfl,e2,e3,e4,rfl⟩|⟨L,K,vs,bss,ks,rfl,e2,e3,e4,e5,e6,e7,rfl⟩
    · repeat' (first|apply GO_seq|apply GO_region|apply GOl_nil|(apply GOl_unwanted;exact rfl;exact rfl)|(apply GOl_pv;(iterate 3 exact rfl))|(apply GOl_load;exact rfl;exact Ld_blk rfl QM rfl;exact rfl;exact rfl)|(apply GOl_ov;exact rfl;exact rfl;(first|(apply OV_arrIdx (j:=1);(iterate 6 exact rfl);exact (by decide);exact rfl));exact QA)|(apply GOl_to;(iterate 3 exact rfl);(first|(apply OpTo_box;exact rfl;intro b;skip)))|(apply GOl_split;exact rfl;exact rfl;all_goals (intro hc;try simp only [hcS,reduceCtorEq] at hc;try (exfalso;omega))))
      all_goals (first|((first|(apply GO_retV1;(iterate 3 exact rfl)));simp [eqI_eq,sli0];done)|(exfalso;simp_all [sli0];done)|skip)
    · repeat' (first|apply GO_seq|apply GO_region|apply GOl_nil|(apply GOl_unwanted;exact rfl;exact rfl)|(apply GOl_pv;(iterate 3 exact rfl))|(apply GOl_load;exact rfl;exact Ld_blk rfl QM rfl;exact rfl;exact rfl)|(apply GOl_ov;exact rfl;exact rfl;(first|(apply OV_arrIdx (j:=2);(iterate 6 exact rfl);exact (by decide);exact rfl));exact QA)|(apply GOl_to;(iterate 3 exact rfl);(first|(apply OpTo_box;exact rfl;intro b;skip)))|(apply GOl_split;exact rfl;exact rfl;all_goals (intro hc;try simp only [hcS,reduceCtorEq] at hc;try (exfalso;omega))))
      all_goals (first|((first|(apply GO_retV1;(iterate 3 exact rfl)));simp [eqI_eq,sli0];done)|(exfalso;simp_all [sli0];done)|skip)
    · repeat' (first|apply GO_seq|apply GO_region|apply GOl_nil|(apply GOl_unwanted;exact rfl;exact rfl)|(apply GOl_pv;(iterate 3 exact rfl))|(apply GOl_load;exact rfl;exact Ld_blk rfl QM rfl;exact rfl;exact rfl)|(apply GOl_ov;exact rfl;exact rfl;(first|(apply OV_arrIdx (j:=3);(iterate 6 exact rfl);exact (by decide);exact rfl));exact QA)|(apply GOl_to;(iterate 3 exact rfl);(first|(apply OpTo_box;exact rfl;intro b;skip)))|(apply GOl_split;exact rfl;exact rfl;all_goals (intro hc;try simp only [hcS,reduceCtorEq] at hc;try (exfalso;omega))))
      all_goals (first|((first|(apply GO_retV1;(iterate 3 exact rfl)));simp [eqI_eq,sli0];done)|(exfalso;simp_all [sli0];done)|skip)
    · have h1:=e2.len
      have h2:=e4.len
      repeat' (first|apply GO_seq|apply GO_region|apply GOl_nil|(apply GOl_unwanted;exact rfl;exact rfl)|(apply GOl_pv;(iterate 3 exact rfl))|(apply GOl_load;exact rfl;exact Ld_blk rfl QM rfl;exact rfl;exact rfl)|(apply GOl_ov;exact rfl;exact rfl;(first|(apply OV_arrIdx (j:=4);(iterate 6 exact rfl);exact (by decide);exact rfl));exact QA)|(apply GOl_to;(iterate 3 exact rfl);(first|(apply OpTo_box;exact rfl;intro b;skip)))|(apply GOl_split;exact rfl;exact rfl;all_goals (intro hc;try simp only [hcS,reduceCtorEq] at hc;try (exfalso;omega))))
      all_goals (first|((first|(apply GO_retV1;(iterate 3 exact rfl)));rw [eqI_eq,decide_eq_true (by dsimp only;omega)];done)|((first|(apply GO_retV1;(iterate 3 exact rfl)));simp [eqI_eq,sli0];done)|(exfalso;simp_all [sli0];done)|skip)
theorem less_at {ks : List (List UInt8)} (hp : ks.Pairwise fun a b => Op.bytesLess a b = true) {k : Nat} (h0 : 1 ≤ k) (hk : k < ks.length) : Op.bytesLess (ks.getD (k - 1) []) (ks.getD k []) = true:=by
  rw [List.pairwise_iff_getElem] at hp
  have:=hp (k - 1) k (by omega) hk (by omega)
  simpa [List.getD,List.getElem?_eq_getElem hk,List.getElem?_eq_getElem (show k - 1 < ks.length by omega)] using this
def FmOk (d : Nat) : Prop:=∀ (h : Ro) (v : Va) (bs : List UInt8),VEnc d h v bs → Res Tryz.prog 162 #[vaV v] h fun u _ => ∃ m : Int,u = .tuple #[.int .i64 m,.bool true] ∧ 0 ≤ m ∧ m ≤ d
theorem formed_leaf (d : Nat) (h : Ro) (v : Va) (bs : List UInt8) (hv : VEnc d h v bs) (hk : v.k < 3) (hK : v.K = sli0) : Res Tryz.prog 162 #[vaV v] h fun u _ => u = .tuple #[.int .i64 0,.bool true]:=by
  refine Res_intro (args:=[_]) ts_ok Go.Proofs.Tryz.func162 rfl rfl fun w0 X0 => ?_
  have hkk:=hv.kind
  obtain ⟨vk,vn,vs,vL,vK⟩:=v
  dsimp only at hk hK hkk
  subst hK
  repeat' (first|apply GO_seq|apply GO_skip|apply GO_block|apply GO_region|apply GOl_nil|(apply GOl_pv;(iterate 3 exact rfl))|(apply GOl_load;exact rfl;exact Ld_blk rfl QM rfl;exact rfl;exact rfl)|(apply GOl_to;(iterate 3 exact rfl);(first|(apply OpTo_box;exact rfl;intro b;skip)|(apply OpTo_val;exact rfl;exact has203;exact empty_c _ d _ bs hv;skip)))|(apply GO_cond;exact rfl;all_goals (intro hc;try simp only [hcS,reduceCtorEq] at hc;try (exfalso;omega)))|(apply GOl_split;exact rfl;exact rfl;all_goals (intro hc;try simp only [hcS,reduceCtorEq] at hc;try (exfalso;omega))))
  all_goals (try (exfalso;omega))
  refine GO_loopT (X:=Nat) (fun k => k = 0) (fun k => 0) (fun k => [(4,.int .i64 1),(2,.int .i64 0),(3,.bool false),(1,.pointer (some ⟨b,0,none⟩))]) (fun _ => [Blk b 147 (vaC ⟨vk,vn,vs,vL,sli0⟩)]) (fun _ => h) 0 rfl QS QT rfl ?_
  rintro k _ ih
  clear ih
  repeat' (first|apply GO_seq|apply GO_skip|apply GO_block|apply GO_region|apply GOl_nil|(apply GO_exit;exact rfl)|(apply GOl_pv;(iterate 3 exact rfl))|(apply GOl_load;exact rfl;exact Ld_blk rfl QM rfl;exact rfl;exact rfl)|(apply GO_drawp (n:=6) [0,1,2,3,4,5,6,7,8,9,10,11] [(0,0),(1,0),(2,0),(3,0),(4,0),(5,0),(6,0),(7,0),(8,0),(9,0),(10,0),(11,0)];kernel_rfl)|(apply GP_sub;exact rfl;kernel_rfl;(iterate 5 exact rfl);omega)|(apply GP_pv;exact rfl;kernel_rfl;(iterate 3 exact rfl))|(apply GP_loadB;exact rfl;kernel_rfl;(iterate 3 exact rfl);exact QM;exact rfl;exact rfl)|(apply GO_cond;exact rfl;all_goals (intro hc;try simp only [hcS,reduceCtorEq] at hc;try (exfalso;omega))))
  all_goals first
    | (exfalso;simp [sli0] at *;done)
    | (exfalso;omega)
    | (exact GO_retR2 rfl rfl rfl rfl rfl)
theorem formed_node (d : Nat) (ih0 : FmOk d) (h : Ro) (v : Va) (bs : List UInt8) (hv : VEnc (d + 1) h v bs) (hk : 3 ≤ v.k) (vs : List Va) (bss : List (List UInt8)) (hL : SlOf vaC 5 h v.L.A v.L.n vs) (hz : Zip7 (VEnc d h) vs bss) (hn : v.L.n ≤ 1000000) (ks : List (List UInt8)) (hK : SlOf encS7 1 h v.K.A v.K.n ks) (hp : ks.Pairwise fun a b => Op.bytesLess a b = true) (hkn : v.K.n ≤ 1000000) (hd : d ≤ 1000) :
    Res Tryz.prog 162 #[vaV v] h fun u _ => ∃ m : Int,u = .tuple #[.int .i64 m,.bool true] ∧ 0 ≤ m ∧ m ≤ (d + 1 : Nat):=by
  refine Res_intro (args:=[_]) ts_ok Go.Proofs.Tryz.func162 rfl rfl fun w0 X0 => ?_
  have hkk:=hv.kind
  have hlen:=hL.len
  have hlenK:=hK.len
  obtain ⟨vk,vn,vss,vL,vK⟩:=v
  dsimp only at hk hL hn hK hkn hkk hlen hlenK
  repeat' (first|apply GO_seq|apply GO_skip|apply GO_block|apply GO_region|apply GOl_nil|(apply GOl_pv;(iterate 3 exact rfl))|(apply GOl_load;exact rfl;exact Ld_blk rfl QM rfl;exact rfl;exact rfl)|(apply GOl_to;(iterate 3 exact rfl);(first|(apply OpTo_box;exact rfl;intro b;skip)|(apply OpTo_val;exact rfl;exact has203;exact empty_c _ _ _ bs hv;skip)))|(apply GO_cond;exact rfl;all_goals (intro hc;try simp only [hcS,reduceCtorEq] at hc;try (exfalso;omega)))|(apply GOl_split;exact rfl;exact rfl;all_goals (intro hc;try simp only [hcS,reduceCtorEq] at hc;try (exfalso;omega))))
  all_goals (try (exfalso;omega))
  generalize b = b0
  refine GO_loopT (X:=Nat) (fun k => 1 ≤ k ∧ (k ≤ vK.n ∨ k = 1)) (fun k => vK.n + 1 - k) (fun k => [(4,.int .i64 k),(2,.int .i64 0),(3,.bool false),(1,.pointer (some ⟨b0,0,none⟩))]) (fun _ => [Blk b0 147 (vaC ⟨vk,vn,vss,vL,vK⟩)]) (fun _ => h) 1 ⟨by omega,by omega⟩ QS QT rfl ?_
  rintro k ⟨hk1,hk2⟩ ih
  by_cases hkn2 : k < vK.n
  · have a1:=hK.addrD hkn2
    have c1:=hK.cellsD [] hkn2
    have c2:=hK.cellsD [] (show k - 1 < vK.n by omega)
    have hls:=less_at hp hk1 (by omega)
    generalize ks.getD k [] = k1 at *
    generalize ks.getD (k - 1) [] = k0 at *
    have hkq : k - 1 < vK.n:=by omega
    have hi1 : ((k : Int) - 1) = ((k - 1 : Nat) : Int):=by omega
    repeat' (first|apply GO_seq|apply GO_skip|apply GO_inBlock|apply GO_block|apply GO_region|apply GOl_nil|(apply GOl_add;(iterate 3 exact rfl);omega;exact rfl;exact rfl)|(apply GOl_pv;(iterate 3 exact rfl))|(apply GOl_load;exact rfl;exact Ld_blk rfl QM rfl;exact rfl;exact rfl)|(apply GO_drawp (n:=6) [0,1,2,3,4,5,6,7,8,9,10,11] [(0,0),(1,0),(2,0),(3,0),(4,0),(5,0),(6,0),(7,0),(8,0),(9,0),(10,0),(11,0)];kernel_rfl)|(apply GP_sub;exact rfl;kernel_rfl;(iterate 5 exact rfl);omega)|(apply GP_pv;exact rfl;kernel_rfl;(iterate 3 exact rfl))|(apply GP_loadB;exact rfl;kernel_rfl;(iterate 3 exact rfl);exact QM;exact rfl;exact rfl)|(apply GP_ov;exact rfl;kernel_rfl;exact rfl;exact rfl;(first|(apply OV_idxS (j:=k);(iterate 5 exact rfl);exact a1;(with_reducible exact rfl);exact hkn2)|(apply OV_idxS (j:=k - 1);(iterate 5 exact rfl);exact a1;exact hi1;exact hkq)|(apply OV_load;exact rfl;exact Lv_ro rfl c1 rfl)|(apply OV_load;exact rfl;exact Lv_ro rfl c2 rfl));exact QA)|(apply GP_done;kernel_rfl;exact rfl)|(apply GO_cond;exact rfl;all_goals (intro hc;try simp only [hcS,reduceCtorEq] at hc;try (exfalso;omega))))
    all_goals first
      | (exfalso;rw [str_toList,str_toList,hls] at *;simp at *;done)
      | (have h3:=ih (k + 1) ⟨by omega,by omega⟩ (by omega)
         refine GO_fit QS QT (h3))
  · clear ih
    repeat' (first|apply GO_seq|apply GO_skip|apply GO_block|apply GO_region|apply GOl_nil|(apply GO_exit;exact rfl)|(apply GOl_pv;(iterate 3 exact rfl))|(apply GOl_load;exact rfl;exact Ld_blk rfl QM rfl;exact rfl;exact rfl)|(apply GO_cond;exact rfl;all_goals (intro hc;try simp only [hcS,reduceCtorEq] at hc;try (exfalso;omega))))
    all_goals (try (exfalso;dsimp only at *;omega))
    refine GO_loopT (X:=Nat × Int × Ro) (fun x => x.1 ≤ vL.n ∧ 0 ≤ x.2.1 ∧ x.2.1 ≤ d ∧ Le h x.2.2) (fun x => vL.n - x.1) (fun x => [(47,.int .i64 x.1),(46,.int .i64 vL.n),(45,.slice vL.A vL.n vL.c),(2,.int .i64 x.2.1)]) (fun _ => []) (fun x => x.2.2) (0,0,h) ⟨by dsimp only;omega,by dsimp only;omega,by dsimp only;omega,Le.refl _⟩ QS QT rfl ?_
    rintro ⟨j,m0,hh⟩ ⟨hj,hm1,hm2,hle⟩ ih
    dsimp only at hj hm1 hm2 hle ih ⊢
    by_cases hjn : j < vL.n
    · have a1:=hL.addrD hjn
      have cc:=(hL.cellsD va0 hjn).le hle
      have hv2:=(zip_at hz (show j < vs.length by omega)).le hle
      generalize vs.getD j va0 = u at *
      generalize bss.getD j [] = bb at *
      have hcon:=ih0 hh u bb hv2
      repeat' (first|apply GO_seq|apply GO_skip|apply GO_inBlock|apply GO_block|apply GO_region|apply GOl_nil|(apply GOl_add;(iterate 3 exact rfl);omega;exact rfl;exact rfl)|(apply GOl_pv;(iterate 3 exact rfl))|(apply GOl_load;exact rfl;exact Ld_blk rfl QM rfl;exact rfl;exact rfl)|(apply GOl_ov;exact rfl;exact rfl;(first|(apply OV_idxS (j:=j);(iterate 5 exact rfl);exact a1;(with_reducible exact rfl);exact hjn)|(apply OV_load;exact rfl;exact Lv_ro rfl cc rfl));exact QA)|(apply GOl_to;(iterate 3 exact rfl);(first|(apply OpTo_store;(iterate 3 exact rfl);exact QR;(iterate 3 exact rfl);skip)|(apply OpTo_alloc;exact rfl;intro b;skip)|(apply OpTo_res;exact rfl;exact has162;exact hcon;rintro v1 h1 hle1 ⟨m,rfl,q1,q2⟩;skip)))|(apply GO_cond;exact rfl;all_goals (intro hc;try simp only [hcS,reduceCtorEq] at hc;try (exfalso;omega))))
      have hmx : 0 ≤ max m0 m ∧ max m0 m ≤ d:=by rw [Int.max_def];split <;> omega
      have h3:=ih (j + 1,max m0 m,h1) ⟨by dsimp only;omega,hmx.1,hmx.2,hle.trans hle1⟩ (by dsimp only;omega)
      dsimp only at h3
      refine GO_fit QS QT (h3)
    · clear ih
      repeat' (first|apply GO_seq|apply GO_region|apply GOl_nil|(apply GO_exit;exact rfl)|(apply GOl_add;(iterate 3 exact rfl);omega;exact rfl;exact rfl)|(apply GOl_pv;(iterate 3 exact rfl))|(apply GO_cond;exact rfl;all_goals (intro hc;try simp only [hcS,reduceCtorEq] at hc;try (exfalso;omega))))
      exact GO_retR2 rfl rfl rfl rfl ⟨m0 + 1,rfl,by omega,by omega⟩
theorem fm_ok : ∀ d,d ≤ 1000 → FmOk d
  | 0,_ => fun h v bs hv => hv.elim
  | d + 1,hd => fun h v bs hv => by
    have hv0:=hv
    rcases hv with ⟨m,rfl,hm,rfl⟩|⟨s,rfl,rfl⟩|⟨L,vs,bss,rfl,e2,e3,e4,rfl⟩|⟨L,K,vs,bss,ks,rfl,e2,e3,e4,e5,e6,e7,rfl⟩
    · exact (formed_leaf _ h _ _ hv0 (by dsimp only;omega) rfl).mono fun u _ _ e => ⟨0,e,by omega,by omega⟩
    · exact (formed_leaf _ h _ _ hv0 (by dsimp only;omega) rfl).mono fun u _ _ e => ⟨0,e,by omega,by omega⟩
    · exact formed_node d (fm_ok d (by omega)) h _ _ hv0 (by dsimp only;omega) vs bss e2 e3 e4 [] SlOf.nil .nil (by simp [sli0]) (by omega)
    · have h1:=e2.len
      have h2:=e4.len
      exact formed_node d (fm_ok d (by omega)) h _ _ hv0 (by dsimp only;omega) vs bss e2 e3 e7 ks e4 e6 (by dsimp only;omega) (by omega)
theorem checkV_c (h : Ro) (d : Nat) (hd : d ≤ 16) (v : Va) (bs : List UInt8) (hv : VEnc d h v bs) : Res Tryz.prog 132 #[vaV v] h fun u _ => u = .int .i64 0:=by
  refine Res_intro (args:=[_]) ts_ok Go.Proofs.Tryz.func132 rfl rfl fun w0 X0 => ?_
  repeat' (first|apply GO_seq|apply GO_skip|apply GO_inBlock|apply GO_block|apply GO_region|apply GOl_nil|(apply GOl_pv;(iterate 3 exact rfl))|(apply GOl_load;exact rfl;exact Ld_blk rfl QM rfl;exact rfl;exact rfl)|(apply GOl_to;(iterate 3 exact rfl);(first|(apply OpTo_box;exact rfl;intro b;skip)|(apply OpTo_res;exact rfl;exact has162;exact fm_ok d (by omega) h v bs hv;rintro v1 h1 hle1 ⟨m,rfl,q1,q2⟩;skip)))|(apply GO_cond;exact rfl;all_goals (intro hc;try simp only [hcS,reduceCtorEq] at hc;try (exfalso;omega))))
  all_goals first
    | (exfalso;omega)
    | (exact GO_retR1 rfl rfl rfl rfl)
theorem encode_c (h : Ro) (hG : PowG h) (d : Nat) (hd : d ≤ 16) (v : Va) (bs : List UInt8) (hv : VEnc d h v bs) (hb : bs.length ≤ 500000000) : Res Tryz.prog 67 #[vaV v] h fun u h' => ∃ A c,u = .tuple #[.slice A bs.length c,.int .i64 0] ∧ SlOf encB 1 h' A bs.length bs:=by
  refine Res_intro (args:=[_]) ts_ok Go.Proofs.Tryz.func67 rfl rfl fun w0 X0 => ?_
  have hk:=hv.kind
  refine GO_nilS 5 1 ?_
  repeat' (first|apply GO_seq|apply GO_skip|apply GO_region|apply GOl_nil|(apply GOl_pv;(iterate 3 exact rfl))|(apply GOl_load;exact rfl;exact Ld_blk rfl QM rfl;exact rfl;exact rfl)|(apply GOl_to;(iterate 3 exact rfl);(first|(apply OpTo_box;exact rfl;intro b;skip)|(apply OpTo_res;exact rfl;exact has132;exact checkV_c h d hd v bs hv;rintro v1 h1 hle1 rfl;skip)))|(apply GO_drawp (n:=4) [0,1,2,3,4,5,6,7,8,9,10] [(1,0),(2,0),(7,0),(0,1),(3,0),(4,0),(5,0),(6,0),(8,1),(9,0),(10,0)];kernel_rfl)|(apply GP_pv;exact rfl;kernel_rfl;(iterate 3 exact rfl))|(apply GP_loadB;exact rfl;kernel_rfl;(iterate 3 exact rfl);exact QM;exact rfl;exact rfl)|(apply GP_ov;exact rfl;kernel_rfl;exact rfl;exact rfl;(first|(apply OV_idxA (j:=v.k.toNat);(iterate 5 exact rfl);omega;omega)|(apply OV_load;exact rfl;exact Lv_roF rfl (hwa.at_ hk.1 hk.2) rfl));exact QA)|(apply GP_real;exact rfl;kernel_rfl;(iterate 3 exact rfl);(first|(apply OpTo_res;exact rfl;exact has133;exact newWriter_c _;rintro v2 h2 hle2 ⟨pb,wb,rfl,hwa⟩;refine ⟨hle2,QN,?_⟩)|(apply OpTo_callPF (f:=wid v.k) (fs:=[]) (cs:=wcap v.k pb);exact rfl;exact rfl;exact has_wid;exact wr_ok d _ pb wb v bs _ 0 [] (hG.le (by first|exact Le.refl _|assumption|(repeat (first|assumption|(apply Le.trans;assumption))))) hwa (hv.le (by first|exact Le.refl _|assumption|(repeat (first|assumption|(apply Le.trans;assumption))))) (by omega);exact QT;rintro v3 E3 h3 hle3 ⟨A3,c3,rfl,rfl⟩;refine ⟨hle3,QN,?_⟩)))|(apply GP_done;kernel_rfl;exact rfl)|(apply GO_cond;exact rfl;all_goals (intro hc;try simp only [hcS,reduceCtorEq] at hc;try (exfalso;omega))))
  simp only [Nat.zero_add,List.nil_append]
  refine GO_relC (enc:=encB) (e:=5) (xs:=bs) (fun _ => rfl) rfl QK ?_
  intro A2 c2 h4 hle4 e2 hnc hs
  injection e2 with e21 _ e23
  subst e21;subst e23
  exact GO_retR2 rfl rfl rfl rfl ⟨_,_,rfl,hs⟩
end Go.Hw
set_option linter.unusedVariables false
set_option linter.unusedSimpArgs false
set_option maxRecDepth 100000
set_option maxHeartbeats 4000000
namespace Go.Hw
open Go
attribute [local irreducible] GO GOl GDp Val Fn Res CellsAt ValE Blk OwnS MapA OwnPf Has
open Go.Proofs (Tryz.prog)
def vaInt (n : Int) : Va:=⟨1,n,[],sli0,sli0⟩
def vaText (s : List UInt8) : Va:=⟨2,0,s,sli0,sli0⟩
def vaList (A : Option Addr) (n c : Nat) : Va:=⟨3,0,[],⟨A,n,c⟩,sli0⟩
theorem Fn_free {P : Program} {f : FuncId} {args : Array Value} {Es0 : List Asn} {h0 : Ro} {Post Post' : Value → List Asn → Ro → Prop} (hf : Fn P f args Es0 h0 Post)
    (hp : ∀ v Es h,Le h0 h → Post v Es h → ∃ A Fs,Es = A :: Fs ∧ ∀ D h',Le h h' → A.holds D h' → Post' v Fs h') : Fn P f args Es0 h0 Post':=by
  unfold Fn at hf ⊢
  intro w X0 hl ho
  refine (hf w X0 hl ho).mono ?_
  rintro e w' ⟨v,rfl,Es,h,hP,H⟩
  obtain ⟨A,Fs,rfl,hq⟩:=hp v Es h H.le hP
  obtain ⟨D,h',h1,h2,h3⟩:=H.release Take.here
  exact ⟨v,rfl,Fs,h',hq D h' h1 h2,h3⟩
theorem num_c (h : Ro) (n : Int) : Val Tryz.prog 68 #[.int .i64 n] h (vaV (vaInt n)):=by
  refine Val_intro (args:=[_]) ts_ok Go.Proofs.Tryz.func68 rfl rfl fun w0 X0 => ?_
  repeat' (first|apply GO_seq|apply GO_region|apply GOl_nil|(apply GOl_pv;(iterate 3 exact rfl))|(apply GOl_to;(iterate 3 exact rfl);(first|(apply OpTo_store;(iterate 3 exact rfl);exact QR;(iterate 3 exact rfl);skip)|(apply OpTo_alloc;exact rfl;intro b;skip))))
  exact GO_retC1 rfl rfl rfl QM rfl rfl rfl
theorem list_c (h : Ro) (A : Option Addr) (n c : Nat) : Val Tryz.prog 69 #[.slice A n c] h (vaV (vaList A n c)):=by
  refine Val_intro (args:=[_]) ts_ok Go.Proofs.Tryz.func69 rfl rfl fun w0 X0 => ?_
  repeat' (first|apply GO_seq|apply GO_region|apply GOl_nil|(apply GOl_pv;(iterate 3 exact rfl))|(apply GOl_to;(iterate 3 exact rfl);(first|(apply OpTo_store;(iterate 3 exact rfl);exact QR;(iterate 3 exact rfl);skip)|(apply OpTo_alloc;exact rfl;intro b;skip))))
  exact GO_retC1 rfl rfl rfl QM rfl rfl rfl
theorem textV_c (h : Ro) (s : List UInt8) : Val Tryz.prog 128 #[.string (str s)] h (vaV (vaText s)):=by
  refine Val_intro (args:=[_]) ts_ok Go.Proofs.Tryz.func128 rfl rfl fun w0 X0 => ?_
  repeat' (first|apply GO_seq|apply GO_region|apply GOl_nil|(apply GOl_pv;(iterate 3 exact rfl))|(apply GOl_to;(iterate 3 exact rfl);(first|(apply OpTo_store;(iterate 3 exact rfl);exact QR;(iterate 3 exact rfl);skip)|(apply OpTo_alloc;exact rfl;intro b;skip))))
  exact GO_retC1 rfl rfl rfl QM rfl rfl rfl
theorem truth_c (h : Ro) (b : Bool) : Val Tryz.prog 131 #[.bool b] h (.int .i64 (if b then 1 else 0)):=by
  refine Val_intro (args:=[_]) ts_ok Go.Proofs.Tryz.func131 rfl rfl fun w0 X0 => ?_
  repeat' (first|apply GO_seq|apply GO_skip|apply GO_region|apply GOl_nil|(apply GOl_pv;(iterate 3 exact rfl))|(apply GO_cond;exact rfl;all_goals (intro hc;try simp only [hcS,reduceCtorEq] at hc;try (exfalso;omega)))|(apply GO_retV1;(iterate 3 exact rfl)))
  all_goals (subst hc;rfl)
def numsPost (l : List Int) : Value → List Asn → Ro → Prop:=fun v Es _ => ∃ A c,v = vaV (vaList A l.length c) ∧ Es = [OwnS 147 5 (.slice A l.length c) l.length ((l.map vaInt).flatMap vaC)]
theorem nums_c (h : Ro) (A : Option Addr) (n c : Nat) (l : List Int) (hx : SlOf encI 1 h A n l) (hn : n ≤ 1000000) : Fn Tryz.prog 127 #[.slice A n c] [] h (numsPost l):=by
  refine Fn_intro (args:=[_]) ts_ok Go.Proofs.Tryz.func127 rfl rfl fun w0 X0 => ?_
  have hlen:=hx.len
  repeat' (first|apply GO_seq|apply GO_block|apply GO_region|apply GOl_nil|(apply GOl_pv;(iterate 3 exact rfl))|(apply GOl_to;(iterate 3 exact rfl);(first|(apply OpTo_store;(iterate 3 exact rfl);exact QR;(iterate 3 exact rfl);skip)|(apply OpTo_alloc;exact rfl;intro b;skip)|(apply OpTo_val;exact rfl;exact has69;exact list_c _ _ _ _;skip))))
  rename_i b2
  generalize b = b3
  refine GO_nilS 147 5 ?_
  refine GO_loopT (X:=Nat × Option Addr × Nat × Ro) (fun x => x.1 ≤ n ∧ Le h x.2.2.2) (fun x => n - x.1)
    (fun x => [(9,.int .i64 x.1),(8,.int .i64 n),(7,.slice A n c),(3,.pointer (some ⟨b3,0,none⟩)),(2,.pointer (some ⟨b2,0,none⟩))])
    (fun x => [Blk b3 147 (vaC (vaList x.2.1 x.1 x.2.2.1)),OwnS 147 5 (.slice x.2.1 x.1 x.2.2.1) x.1 (((l.take x.1).map vaInt).flatMap vaC),Blk b2 147 (vaC va0)]) (fun x => x.2.2.2) (0,none,0,h) ⟨by dsimp only;omega,Le.refl _⟩ QS QT rfl ?_
  rintro ⟨k,A1,c1,hh⟩ ⟨hk,hle⟩ ih
  dsimp only at hk hle ih ⊢
  by_cases hkn : k < n
  · have a1:=hx.addrD hkn
    have cc:=(hx.cellsD 0 hkn).le hle
    have ht:=take7 0 hlen hkn
    generalize l.getD k 0 = u at *
    repeat' (first|apply GO_seq|apply GO_skip|apply GO_inBlock|apply GO_block|apply GO_region|apply GOl_nil|(apply GOl_add;(iterate 3 exact rfl);omega;exact rfl;exact rfl)|(apply GOl_pv;(iterate 3 exact rfl))|(apply GOl_ov;exact rfl;exact rfl;(first|(apply OV_idxS (j:=k);(iterate 5 exact rfl);exact a1;(with_reducible exact rfl);omega)|(apply OV_load;exact rfl;exact Lv_ro rfl cc rfl));exact QA)|(apply GO_drawp (n:=5) [0,1,2,3,4,5,6,7] [(0,0),(1,0),(2,0),(3,1),(4,1),(5,1),(6,0),(7,1)];kernel_rfl)|(apply GP_pv;exact rfl;kernel_rfl;(iterate 3 exact rfl))|(apply GP_loadB;exact rfl;kernel_rfl;(iterate 3 exact rfl);exact QM;exact rfl;exact rfl)|(apply GP_real;exact rfl;kernel_rfl;(iterate 3 exact rfl);(first|(apply OpTo_store;(iterate 3 exact rfl);exact QR;(iterate 3 exact rfl);refine ⟨Le.refl _,QN,?_⟩)|(apply OpTo_buildSliceS (enc:=vaC) (n:=1) [vaInt u];(iterate 3 exact rfl);exact List.cons_ne_nil _ _;(iterate 4 exact rfl);exact vaC_len;exact rfl;exact rfl;intro b1 h1 hle1 hs1;refine ⟨hle1,QN,?_⟩)|(apply OpTo_appendS (enc:=vaC) (xs:=(l.take k).map vaInt);(iterate 7 exact rfl);exact hs1;exact vaC_len;exact vaC_one;intro v1;exact QR;omega;exact rfl;intro A2 c2;refine ⟨Le.refl _,QN,?_⟩)|(apply OpTo_val;exact rfl;exact has68;exact num_c _ _;refine ⟨Le.refl _,QN,?_⟩)))|(apply GP_done;kernel_rfl;exact rfl)|(apply GO_cond;exact rfl;all_goals (intro hc;try simp only [hcS,reduceCtorEq] at hc;try (exfalso;omega))))
    all_goals
      have h3:=ih (k + 1,A2,c2,h1) ⟨by dsimp only;omega,by dsimp only;exact hle.trans hle1⟩ (by dsimp only;omega)
      dsimp only at h3
      rw [ht,List.map_append] at h3
      refine GO_fit QS QT (h3)
  · rw [List.take_of_length_le (by omega)]
    clear ih
    have hkk : k = l.length:=by omega
    subst hkk
    repeat' (first|apply GO_seq|apply GO_region|apply GOl_nil|(apply GO_exit;exact rfl)|(apply GOl_pv;(iterate 3 exact rfl))|(apply GOl_load;exact rfl;exact Ld_blk rfl QM rfl;exact rfl;exact rfl)|(apply GOl_to;(iterate 3 exact rfl);(first|(apply OpTo_store;(iterate 3 exact rfl);exact QR;(iterate 3 exact rfl);skip)))|(apply GO_cond;exact rfl;all_goals (intro hc;try simp only [hcS,reduceCtorEq] at hc;try (exfalso;omega))))
    exact GO_retS (rs:=[.cell 2 147]) (vs:=[vaV (vaList A1 l.length c1)]) rfl rfl ⟨⟨_,rfl,Ld_blk rfl QM rfl⟩,trivial⟩ (.cons _ (.cons_cons _ (List.nil_sublist _))) ⟨A1,c1,rfl,rfl⟩
theorem numsR_c (h : Ro) (A : Option Addr) (n c : Nat) (l : List Int) (hx : SlOf encI 1 h A n l) (hn : n ≤ 1000000) : Res Tryz.prog 127 #[.slice A n c] h fun u h' => ∃ A' c',u = vaV (vaList A' l.length c') ∧ SlOf vaC 5 h' A' l.length (l.map vaInt):=by
  unfold Res
  exact Fn_free (nums_c h A n c l hx hn) fun v Es h' hle ⟨A',c',e1,e2⟩ => ⟨_,_,e2,fun D h'' hl hD => by
    obtain ⟨A2,c2,e3,hs⟩:=OwnS_free vaC_len (by simp) hD
    injection e3 with e31 _ e33
    subst e31;subst e33
    exact ⟨rfl,A',c',e1,hs⟩⟩
theorem venc_int {d : Nat} {h : Ro} {n : Int} (hn : I64 n) : VEnc (d + 1) h (vaInt n) (bInt n):=.inl ⟨n,rfl,hn,rfl⟩
theorem venc_text {d : Nat} {h : Ro} {s : List UInt8} : VEnc (d + 1) h (vaText s) (bText s):=.inr (.inl ⟨s,rfl,rfl⟩)
theorem venc_list {d : Nat} {h : Ro} {A : Option Addr} {n c : Nat} {vs : List Va} {bss : List (List UInt8)} (hs : SlOf vaC 5 h A n vs) (hz : Zip7 (VEnc d h) vs bss) (hn : n ≤ 1000000) : VEnc (d + 1) h (vaList A n c) (bSeq bss) :=
  .inr (.inr (.inl ⟨⟨A,n,c⟩,vs,bss,rfl,hs,hz,hn,rfl⟩))
theorem zip_ints {d : Nat} {h : Ro} {l : List Int} (hl : ∀ x ∈ l,I64 x) : Zip7 (VEnc (d + 1) h) (l.map vaInt) (l.map bInt):=by
  refine ⟨by simp,fun i a b h1 h2 => ?_⟩
  rw [List.getElem?_map] at h1 h2
  cases hi : l[i]? with
  | none => rw [hi] at h1;cases h1
  | some x =>
    rw [hi] at h1 h2
    injection h1 with h1;injection h2 with h2
    subst h1;subst h2
    exact venc_int (hl x (List.mem_of_getElem? hi))
theorem bSeq_nums (l : List Int) : bSeq (l.map bInt) = bNums l:=by
  unfold bSeq bNums bList;rw [List.flatMap_def]
theorem venc_nums {d : Nat} {h : Ro} {A : Option Addr} {c : Nat} {l : List Int} (hs : SlOf vaC 5 h A l.length (l.map vaInt)) (hl : ∀ x ∈ l,I64 x) (hn : l.length ≤ 1000000) : VEnc (d + 2) h (vaList A l.length c) (bNums l):=by
  rw [← bSeq_nums];exact venc_list hs (zip_ints hl) hn
def VR (d : Nat) (bs : List UInt8) : Value → Ro → Prop:=fun u h => ∃ v,u = vaV v ∧ VEnc d h v bs
theorem numsV_c {d : Nat} (h : Ro) (A : Option Addr) (n c : Nat) (l : List Int) (hx : SlOf encI 1 h A n l) (hn : n ≤ 1000000) (hl : ∀ x ∈ l,I64 x) : Res Tryz.prog 127 #[.slice A n c] h (VR (d + 2) (bNums l)) :=
  (numsR_c h A n c l hx hn).mono fun v h' _ ⟨A',c',e1,e2⟩ => ⟨_,e1,venc_nums e2 hl (by have:=hx.len;omega)⟩
def GameI (g : FGame) : Prop:=I64 g.s ∧ I64 g.c ∧ I64 g.h ∧ I64 g.a
theorem gameI_all {g : FGame} (hg : GameI g) : ∀ x ∈ gameL g,I64 x:=by
  obtain ⟨h1,h2,h3,h4⟩:=hg
  intro x hx
  simp only [gameL,List.mem_cons,List.not_mem_nil,or_false] at hx
  rcases hx with rfl|rfl|rfl|rfl <;> assumption
theorem gameV_c {d : Nat} (h : Ro) (g : FGame) (hg : GameI g) : Res Tryz.prog 129 #[gameV g] h (VR (d + 2) (bNums (gameL g))):=by
  refine Res_intro (args:=[_]) ts_ok Go.Proofs.Tryz.func129 rfl rfl fun w0 X0 => ?_
  repeat' (first|apply GO_seq|apply GO_region|apply GOl_nil|(apply GOl_pv;(iterate 3 exact rfl))|(apply GOl_load;exact rfl;exact Ld_blk rfl QM rfl;exact rfl;exact rfl)|(apply GOl_to;(iterate 3 exact rfl);(first|(apply OpTo_store;(iterate 3 exact rfl);exact QR;(iterate 3 exact rfl);skip)|(apply OpTo_box;exact rfl;intro b;skip)|(apply OpTo_alloc;exact rfl;intro b;skip)|(apply OpTo_buildSliceR (cs:=(gameL g).map fun i => .int .i64 i);(iterate 3 exact rfl);exact List.cons_ne_nil _ _;(iterate 4 exact rfl);intro b1 h1 hle1 hcs1;skip)|(apply OpTo_res;exact rfl;exact has127;exact numsV_c (d:=d) _ _ 4 4 (gameL g) (SlOf_ints hcs1) (by omega) (gameI_all hg);rintro v2 h2 hle2 ⟨v,rfl,hv⟩;skip))))
  exact GO_retRC1 rfl rfl rfl QM rfl rfl ⟨v,rfl,hv⟩
theorem card_all (c : FCard) (hc : I64 c.p) : ∀ x ∈ cardL c,I64 x:=by
  intro x hx
  simp only [cardL,List.mem_cons,List.not_mem_nil,or_false] at hx
  rcases hx with rfl|rfl
  · exact hc
  · unfold I64;split <;> omega
theorem bSeq_cards (l : List FCard) : bSeq (l.map fun c => bNums (cardL c)) = bCards l:=by
  unfold bSeq bCards bList;rw [List.flatMap_def]
theorem Zip7.snoc {α β : Type} {P : α → β → Prop} {l : List α} {m : List β} {a : α} {b : β} (z : Zip7 P l m) (h : P a b) : Zip7 P (l ++ [a]) (m ++ [b]):=by
  refine ⟨by simp [z.1],fun i x y h1 h2 => ?_⟩
  by_cases hi : i < l.length
  · rw [List.getElem?_append_left hi] at h1
    rw [List.getElem?_append_left (z.1 ▸ hi)] at h2
    exact z.2 i x y h1 h2
  · rw [List.getElem?_append_right (by omega)] at h1
    rw [List.getElem?_append_right (by rw [← z.1];omega)] at h2
    have hl:=z.1
    have e : i - l.length = 0:=by
      have:=(List.getElem?_eq_some_iff.1 h1).1
      simp at this;omega
    rw [e] at h1
    rw [show i - m.length = 0 by omega] at h2
    injection h1 with h1;injection h2 with h2
    subst h1;subst h2;exact h
theorem shown_c {d : Nat} (h : Ro) (A : Option Addr) (n c : Nat) (l : List FCard) (hx : SlOf encC 2 h A n l) (hn : n ≤ 1000000) (hl : ∀ c ∈ l,I64 c.p) : Res Tryz.prog 130 #[.slice A n c] h (VR (d + 3) (bCards l)):=by
  refine Res_intro (args:=[_]) ts_ok Go.Proofs.Tryz.func130 rfl rfl fun w0 X0 => ?_
  have hlen:=hx.len
  repeat' (first|apply GO_seq|apply GO_block|apply GO_region|apply GOl_nil|(apply GOl_pv;(iterate 3 exact rfl))|(apply GOl_to;(iterate 3 exact rfl);(first|(apply OpTo_store;(iterate 3 exact rfl);exact QR;(iterate 3 exact rfl);skip)|(apply OpTo_alloc;exact rfl;intro b;skip)|(apply OpTo_val;exact rfl;exact has69;exact list_c _ _ _ _;skip))))
  rename_i b2
  generalize b = b3
  refine GO_nilS 147 5 ?_
  refine GO_loopT (X:=Nat × List Va × Option Addr × Nat × Ro) (fun x => x.1 ≤ n ∧ x.2.1.length = x.1 ∧ Le h x.2.2.2.2 ∧ Zip7 (VEnc (d + 2) x.2.2.2.2) x.2.1 ((l.take x.1).map fun c => bNums (cardL c))) (fun x => n - x.1)
    (fun x => [(9,.int .i64 x.1),(8,.int .i64 n),(7,.slice A n c),(3,.pointer (some ⟨b3,0,none⟩)),(2,.pointer (some ⟨b2,0,none⟩))])
    (fun x => [Blk b3 147 (vaC (vaList x.2.2.1 x.1 x.2.2.2.1)),OwnS 147 5 (.slice x.2.2.1 x.1 x.2.2.2.1) x.1 (x.2.1.flatMap vaC),Blk b2 147 (vaC va0)]) (fun x => x.2.2.2.2) (0,[],none,0,h) ⟨by dsimp only;omega,rfl,Le.refl _,⟨rfl,fun i a b h1 => by simp at h1⟩⟩ QS QT rfl ?_
  rintro ⟨k,vs,A1,c1,hh⟩ ⟨hk,hvl,hle,hz⟩ ih
  dsimp only at hk hvl hle hz ih ⊢
  by_cases hkn : k < n
  · have a1:=hx.addrD hkn
    have cc:=(hx.cellsD card0 hkn).le hle
    have ht:=take7 card0 hlen hkn
    have hc0:=card_all _ (hl _ (mem7 card0 (show k < l.length by omega)))
    generalize l.getD k card0 = u at *
    repeat' (first|apply GO_seq|apply GO_skip|apply GO_inBlock|apply GO_block|apply GO_region|apply GOl_nil|(apply GOl_add;(iterate 3 exact rfl);omega;exact rfl;exact rfl)|(apply GOl_pv;(iterate 3 exact rfl))|(apply GOl_ov;exact rfl;exact rfl;(first|(apply OV_idxS (j:=k);(iterate 5 exact rfl);exact a1;(with_reducible exact rfl);omega)|(apply OV_load;exact rfl;exact Lv_ro rfl cc rfl));exact QA)|(apply GOl_to;(iterate 3 exact rfl);(first|(apply OpTo_store;(iterate 3 exact rfl);exact QR;(iterate 3 exact rfl);skip)|(apply OpTo_alloc;exact rfl;intro b;skip)))|(apply GO_drawp (n:=5) [0,1,2,3,4,5,6,7,8,9,10,11,12] [(0,0),(1,0),(2,0),(3,0),(4,0),(5,0),(6,1),(7,1),(8,1),(9,1),(10,1),(11,0),(12,1)];kernel_rfl)|(apply GP_pv;exact rfl;kernel_rfl;(iterate 3 exact rfl))|(apply GP_loadB;exact rfl;kernel_rfl;(iterate 3 exact rfl);exact QM;exact rfl;exact rfl)|(apply GP_real;exact rfl;kernel_rfl;(iterate 3 exact rfl);(first|(apply OpTo_store;(iterate 3 exact rfl);exact QR;(iterate 3 exact rfl);refine ⟨Le.refl _,QN,?_⟩)|(apply OpTo_buildSliceR (e:=3) (cs:=(cardL u).map fun i => .int .i64 i);(iterate 3 exact rfl);exact List.cons_ne_nil _ _;(iterate 4 exact rfl);intro b1 h1 hle1 hcs1;refine ⟨hle1,QN,?_⟩)|(apply OpTo_res;exact rfl;exact has127;exact numsV_c (d:=d) _ _ 2 2 (cardL u) (SlOf_ints hcs1) (by omega) hc0;rintro v2 h2 hle2 ⟨v,rfl,hv⟩;refine ⟨hle2,QN,?_⟩)|(apply OpTo_buildSliceS (enc:=vaC) (n:=1) [v];(iterate 3 exact rfl);exact List.cons_ne_nil _ _;(iterate 4 exact rfl);exact vaC_len;exact rfl;exact rfl;intro b4 h4 hle4 hs4;refine ⟨hle4,QN,?_⟩)|(apply OpTo_appendS (enc:=vaC) (xs:=vs);(iterate 7 exact rfl);exact hs4;exact vaC_len;exact vaC_one;intro v1;exact QR;omega;exact rfl;intro A2 c2;refine ⟨Le.refl _,QN,?_⟩)|(apply OpTo_val;exact rfl;exact has131;exact truth_c _ _;refine ⟨Le.refl _,QN,?_⟩)))|(apply GP_done;kernel_rfl;exact rfl)|(apply GO_cond;exact rfl;all_goals (intro hc;try simp only [hcS,reduceCtorEq] at hc;try (exfalso;omega))))
    all_goals
      have h3:=ih (k + 1,vs ++ [v],A2,c2,h4) ⟨by dsimp only;omega,by simp [hvl],by dsimp only;exact hle.trans (by first|exact Le.refl _|assumption|(repeat (first|assumption|(apply Le.trans;assumption)))),by
        dsimp only;rw [ht,List.map_append];exact (hz.imp fun a b q => q.le (by first|exact Le.refl _|assumption|(repeat (first|assumption|(apply Le.trans;assumption))))).snoc (hv.le hle4)⟩ (by dsimp only;omega)
      dsimp only at h3
      refine GO_fit QS QT (h3)
  · rw [List.take_of_length_le (by omega)] at hz
    clear ih
    have hkk : k = n:=by omega
    subst hkk
    repeat' (first|apply GO_seq|apply GO_region|apply GOl_nil|(apply GO_exit;exact rfl)|(apply GOl_pv;(iterate 3 exact rfl))|(apply GOl_load;exact rfl;exact Ld_blk rfl QM rfl;exact rfl;exact rfl)|(apply GOl_to;(iterate 3 exact rfl);(first|(apply OpTo_store;(iterate 3 exact rfl);exact QR;(iterate 3 exact rfl);skip)))|(apply GO_cond;exact rfl;all_goals (intro hc;try simp only [hcS,reduceCtorEq] at hc;try (exfalso;omega))))
    refine GO_relS (enc:=vaC) (xs:=vs) vaC_len hvl QK ?_
    intro A2 c2 h4 hle4 e2 hs4
    injection e2 with e21 _ e23
    subst e21;subst e23
    refine GO_retRC1 rfl rfl rfl QM rfl rfl ⟨vaList A1 k c1,rfl,?_⟩
    rw [← bSeq_cards]
    exact venc_list hs4 (hz.imp fun a b q => q.le hle4) hn
end Go.Hw
