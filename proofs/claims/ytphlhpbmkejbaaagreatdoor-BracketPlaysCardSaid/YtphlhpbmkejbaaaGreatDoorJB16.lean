import Derived.Test.YtphlhpbmkejbaaaGreatDoorJB15
import Derived.Test.YtphlhpbmkejbaaaGreatDoorJB10
import Derived.Test.YtphlhpbmkejbaaaGreatDoorHD
set_option linter.unusedVariables false
set_option linter.unusedSimpArgs false
set_option maxRecDepth 100000
set_option maxHeartbeats 8000000
namespace Go.Hw
open Go
attribute [local irreducible] GO GOl GDp Val Fn Res CellsAt ValE Blk OwnS MapA OwnPf Has Yl
open Go.Proofs (Tryz.prog)
def ekP (i : Int) : Value:=.int .i64 i
theorem KP : KeyT Tryz.prog 3 ekP:=by
  obtain ⟨D,h1,h2⟩:=ts_ok.und (show tyOf 3 _ = some _ from rfl)
  exact KeyT.int (by rw [h1,blank_int h2])
section
variable {C : Ctx} {l : Sl} {h : Ro} {ty : TypeId} {pos : String} {aft : Array Edge} {gd : Option (Nat × Bool)} {dst : Option Tmp} {t ty' : TypeId} {x y : Operand}
theorem OV_shlI {k : IntKind} {i p v : Int} {n : Nat} (hx : evl l x = some (.int .i64 p)) (hy : evl l y = some (.int k i)) (hi : i = (n : Int)) (hn : n ≤ 64) (hv : p * 2 ^ n = v) (hb : -9223372036854775808 ≤ v ∧ v ≤ 9223372036854775807) : OV C l [] h ⟨dst,.binOp .shl t x y ty',ty,pos,aft,gd⟩ (.int .i64 v) :=
  ⟨rfl,fun ac w hs _ _ => by
    have e1:=hs.eval hx
    have e2:=hs.eval hy
    subst hi
    have e4 : (do eqGuard .shl t x y (.int .i64 p) (.int k ((n : Nat) : Int));binOp .shl t (.int .i64 p) (.int k ((n : Nat) : Int)) : Sem Value).run C.P w = .ok (.int .i64 v) w:=by
      show (Op.shift .shl .i64 p k ((n : Nat) : Int)).run C.P w = _
      unfold Op.shift
      rw [if_neg (by omega)]
      show Result.ok (Value.int .i64 (IntKind.i64.wrap (p * 2 ^ (min (((n : Nat) : Int).toNat) 64)))) w = _
      rw [Int.toNat_natCast,Nat.min_eq_left hn,hv,i64_in _ hb]
    simp only [execOp,e1,e2,Sem.run_bind,Sem.run_pure,Result.andThen_ok] at e4 ⊢
    rw [e4];rfl⟩
theorem OV_look0 {ek : Int → Value} {ev : Int → Value} {k e : TypeId} {b : Nat} {key : Int} {m : List (Int × Int)} {T E : Ty} {q : Int} (K : KeyT C.P k ek) (hT : tyOf t C.ts = some T) (hTd : T.desc = .map k e) (hE : tyOf e C.ts = some E) (hz : E.zero = ev 0)
    (hx : evl l x = some (.map (some b))) (hy : evl l y = some (ek key)) (hq : (lookA key m).getD 0 = q) : OV C l [MapA ek ev b m] h ⟨dst,.lookup t x y false,ty,pos,aft,gd⟩ (ev q):=by
  have:=OV_lookup (ev:=ev) (h:=h) (ty:=ty) (pos:=pos) (aft:=aft) (gd:=gd) (dst:=dst) (c:=false) (m:=m) (b:=b) K hT hTd hE hx hy rfl
  subst hq
  cases hl : lookA key m with
  | none => rw [hl] at this;rw [show ev ((none : Option Int).getD 0) = E.zero from hz.symm];exact this
  | some a => rw [hl] at this;exact this
end
theorem lost_mem {cs L : List Int} {c : Int} (hp : cs.Perm (c :: L)) (hn : cs.Nodup) {p : Int} (hm : p ∈ cs) : (lookA p (lostM L)).getD 0 = if p = c then 0 else 1:=by
  have h1:=hp.nodup_iff.1 hn
  rw [List.nodup_cons] at h1
  rw [lookA_lost]
  by_cases e : p = c
  · rw [if_pos e,if_neg (by rw [e];exact h1.1)];rfl
  · rw [if_neg e,if_pos ((List.mem_cons.1 (hp.mem_iff.1 hm)).resolve_left e)];rfl
theorem brLen {h : Ro} {s : Sli} {l : List RdS} {b : FBr} (hb : BrAt h s l b) : b.rs.length = s.n:=by
  rw [hb.is,rounds_len,hb.rs.row.len]
theorem brIs {h : Ro} {s : Sli} {l : List RdS} {cs : List Int} {t : FTie} {k : Nat} {zr : List (List FDuel)} (hb : BrAt h s l ⟨t,zr⟩) (hP : PlayI cs t k ⟨t,zr⟩) : BrAt h s l ⟨t,rounds l⟩ ∧ PlayI cs t k ⟨t,rounds l⟩:=by
  have:=hb.is
  dsimp only at this
  subst this
  exact ⟨hb,hP⟩
theorem play_yes {cs : List Int} {t : FTie} {k : Nat} {rs : List (List FDuel)} (hP : PlayI cs t k ⟨t,rs⟩) {d : FDuel} {hg ag hp ap : Int} (hE : (enterB ⟨t,rs⟩ (nextX d hg ag hp ap)).2 = 0) :
    ∃ zr,enterB ⟨t,rs⟩ (nextX d hg ag hp ap) = (⟨t,zr⟩,0) ∧ PlayI cs t (k + 1) ⟨t,zr⟩ ∧ rs.length ≤ zr.length:=by
  obtain ⟨h1,h2⟩:=hP.next hE
  have h3 : enterB ⟨t,rs⟩ (nextX d hg ag hp ap) = ((enterB ⟨t,rs⟩ (nextX d hg ag hp ap)).1,0):=Prod.ext rfl hE
  generalize (enterB ⟨t,rs⟩ (nextX d hg ag hp ap)).1 = Z at *
  obtain ⟨zt,zr⟩:=Z
  have h4:=h1.t
  dsimp only at h4
  subst h4
  exact ⟨zr,h3,h1,h2⟩
theorem play_no {b : FBr} {x : FRes} (hE : (enterB b x).2 ≠ 0) : ∃ y e,enterB b x = (y,e) ∧ e ≠ 0:=⟨_,_,rfl,hE⟩
theorem duels_getD2 {l : List DuS} {i : Nat} (hi : i < l.length) : (duels l).getD i duel0 = (l.getD i du0).2:=by
  unfold duels
  rw [List.getD_eq_getElem?_getD,List.getElem?_map,List.getD_eq_getElem?_getD,List.getElem?_eq_getElem hi];rfl
theorem plays_law (h : Ro) (Ac : Option Addr) (nc cc : Nat) (cs : List Int) (hcs : SlOf encI 1 h Ac nc cs) (hcc : nc ≤ cc) (t : FTie) (Ag : Option Addr) (ng cg : Nat) (gs : List UInt8) (hgs : SlOf encB 1 h Ag ng gs) : Val Tryz.prog 5 #[.slice Ac nc cc,tieV t,.slice Ag ng cg] h (.bool true):=by
  refine Val_intro (args:=[_,_,_]) ts_ok Go.Proofs.Tryz.func5 rfl rfl fun w0 X0 => ?_
  have hsane:=sane21_c h
  have hcl:=hcs.len
  have hgl:=hgs.len
  have k2:=fun h' (hl : Le h h') => new_c h' Ac nc cc cs t (hcs.le hl) hcc
  by_cases hlim : nc ≤ 16 ∧ ng ≤ 100
  case' neg =>
    clear k2
    repeat' (first|apply GO_seq|apply GO_skip|apply GO_region|apply GOl_nil|(apply GOl_to;(iterate 3 exact rfl);apply OpTo_box (e:=26);exact rfl;intro b4)|(apply GOl_unwanted;exact rfl;exact rfl)|(apply GOl_pv;(iterate 3 exact rfl))|(apply GOl_to;(iterate 3 exact rfl);(first|(apply OpTo_val;exact rfl;exact has8;exact hsane;skip)))|(apply GO_cond;exact rfl;all_goals (intro hc;try simp only [hcS,reduceCtorEq] at hc;try (exfalso;omega)))|(apply GOl_split;exact rfl;exact rfl;all_goals (intro hc;try simp only [hcS,reduceCtorEq] at hc;try (exfalso;omega))))
    all_goals first
      | (exact GO_retV1 rfl rfl rfl rfl)
      | (exfalso;omega)
      | (exfalso;simp at hc;done)
  obtain ⟨hn16,hg100⟩:=hlim
  by_cases hE : (newB cs t).2 = 0
  case' neg =>
    have hz:=new_err hE
    have hz2 : ∀ h' s' l',BrAt h' s' l' (newB cs t).1 → s'.n = 0:=fun h' s' l' hy => by
      have h1:=hy.is
      rw [hz] at h1
      have h2:=rounds_len l'
      rw [← h1] at h2
      have h3:=hy.rs.row.len
      rw [← h2] at h3
      exact h3.symm
    generalize newB cs t = E at *
    clear hz
    repeat' (first|apply GO_seq|apply GO_skip|apply GO_region|apply GOl_nil|(apply GOl_to;(iterate 3 exact rfl);apply OpTo_box (e:=26);exact rfl;intro b4)|(apply GOl_to;(iterate 3 exact rfl);apply OpTo_alloc (e:=36);exact rfl;intro b7)|(apply GOl_pv;(iterate 3 exact rfl))|(apply GOl_load;exact rfl;exact Ld_blk rfl QM rfl;exact rfl;exact rfl)|(apply GOl_to;(iterate 3 exact rfl);(first|(apply OpTo_store;(iterate 3 exact rfl);exact QR;(iterate 3 exact rfl);skip)|(apply OpTo_val;exact rfl;exact has8;exact hsane;skip)|(apply OpTo_res;exact rfl;exact has14;exact k2 _ (by first|exact Le.refl _|assumption|(repeat (first|assumption|(apply Le.trans;assumption))));rintro v2 h2 hle2 ⟨s2,l2,rfl,hb2⟩;(have hz4:=hz2 _ _ _ hb2);skip)))|(apply GO_cond;exact rfl;all_goals (intro hc;try simp only [hcS,reduceCtorEq] at hc;try (exfalso;omega)))|(apply GOl_split;exact rfl;exact rfl;all_goals (intro hc;try simp only [hcS,reduceCtorEq] at hc;try (exfalso;omega))))
    all_goals first
      | (exact GO_retV1 rfl rfl rfl rfl)
      | (exact GO_retV1 rfl rfl rfl (congrArg Value.bool ((eqI_t _ _).mpr (by omega))))
      | (exfalso;omega)
      | (exfalso;simp at hc;done)
  have hPI:=new_playI hE
  have hEE : newB cs t = ((newB cs t).1,0):=Prod.ext rfl hE
  generalize hY : (newB cs t).1 = Y at *
  obtain ⟨yt,yr⟩:=Y
  have hYt:=hPI.t
  dsimp only at hYt
  subst hYt
  rw [hEE] at k2
  dsimp only at k2
  clear hEE hE hY
  repeat' (first|apply GO_seq|apply GO_skip|apply GO_block|apply GO_region|apply GOl_nil|(apply GOl_to;(iterate 3 exact rfl);apply OpTo_box (e:=26);exact rfl;intro b4)|(apply GOl_to;(iterate 3 exact rfl);apply OpTo_alloc (e:=36);exact rfl;intro b7)|(apply GOl_pv;(iterate 3 exact rfl))|(apply GOl_load;exact rfl;exact Ld_blk rfl QM rfl;exact rfl;exact rfl)|(apply GOl_to;(iterate 3 exact rfl);(first|(apply OpTo_store;(iterate 3 exact rfl);exact QR;(iterate 3 exact rfl);skip)|(apply OpTo_val;exact rfl;exact has8;exact hsane;skip)|(apply OpTo_res;exact rfl;exact has14;exact k2 _ (by first|exact Le.refl _|assumption|(repeat (first|assumption|(apply Le.trans;assumption))));rintro v2 h2 hle2 ⟨s2,l2,rfl,hb2⟩;skip)))|(apply GO_cond;exact rfl;all_goals (intro hc;try simp only [hcS,reduceCtorEq] at hc;try (exfalso;omega)))|(apply GOl_split;exact rfl;exact rfl;all_goals (intro hc;try simp only [hcS,reduceCtorEq] at hc;try (exfalso;omega))))
  all_goals (try (exfalso;omega))
  all_goals (try (exfalso;simp at hc;done))
  have hIs:=hb2.is
  dsimp only at hIs
  subst hIs
  refine GO_loopT (X:=Nat × Sli × List RdS × Ro) (fun z => Le h z.2.2.2 ∧ BrAt z.2.2.2 z.2.1 z.2.2.1 ⟨yt,rounds z.2.2.1⟩ ∧ PlayI cs yt z.1 ⟨yt,rounds z.2.2.1⟩) (fun z => 2 * nc - z.1)
    (fun z => [(9,.int .i64 z.1),(7,ptrB b7),(4,ptrB b4),(0,.slice Ac nc cc),(2,.slice Ag ng cg)])
    (fun z => [Blk b7 36 (brC z.2.1 yt),Blk b4 26 (tieC yt)]) (fun z => z.2.2.2) (0,s2,l2,h2) ⟨(by first|exact Le.refl _|assumption|(repeat (first|assumption|(apply Le.trans;assumption)))),hb2,hPI⟩ QS QT rfl ?_
  rintro ⟨k,s,l,hh⟩ ⟨hle,hb,hP⟩ ih
  dsimp only at hle hb hP ih ⊢
  have hkle:=hP.le
  have hrs:=hb.rs
  have hBs:=brSm_ok hb hP.ok
  have hrl:=rounds_len l
  have hll:=hrs.row.len
  have hpos : 0 < s.n:=by
    rcases Nat.eq_zero_or_pos s.n with e|e
    · exact absurd (List.eq_nil_of_length_eq_zero (show (rounds l).length = 0 by omega)) hP.ok.some
    · exact e
  have hnx:=fun h' (hl : Le hh h') => next21_c h' s l yt (hrs.le hl) hBs hpos
  have hmul : (2 : Int) * (nc : Int) ≤ 32:=by omega
  cases ho : openD ((rounds l).getLastD []) yt with
  | none =>
    rw [ho] at hnx
    unfold nextV at hnx
    dsimp only at hnx
    obtain ⟨c,hch,hnd,hlen,hwin,hperm⟩:=hP.fin ho
    dsimp only at hlen hwin hperm
    have hone:=lost_once hperm hnd
    have hlm:=fun p => lost_mem (p:=p) hperm hnd
    have hrok:=hP.ok.rounds
    have kC:=fun h' (hl : Le hh h') => champ_c h' s l yt (hrs.le hl) hBs
    rw [hch] at kC
    dsimp only at kC hrok
    have hfr:=fun i k => atP_fresh duel0 (rs:=rounds l) (f:=fun d => loseD d yt) hone.1 (i:=i) (k:=k)
    have hLn:=hone.2.1
    have hs12:=hBs.few
    clear ih hch hperm hnd hP hone ho hb
    repeat' (first|apply GO_seq|apply GO_skip|apply GO_block|apply GO_region|apply GOl_nil|(apply GO_exit;exact rfl)|(apply GOl_to;(iterate 3 exact rfl);apply OpTo_alloc (e:=38);exact rfl;intro b10)|(apply GOl_ov;exact rfl;exact rfl;(first|(apply OV_mulI;(iterate 3 exact rfl);omega));exact QA)|(apply GOl_pv;(iterate 3 exact rfl))|(apply GOl_load;exact rfl;exact Ld_blk rfl QM rfl;exact rfl;exact rfl)|(apply GOl_to;(iterate 3 exact rfl);(first|(apply OpTo_store;(iterate 3 exact rfl);exact QR;(iterate 3 exact rfl);skip)|(apply OpTo_res;exact rfl;exact has21;exact hnx _ (by first|exact Le.refl _|assumption|(repeat (first|assumption|(apply Le.trans;assumption))));rintro v3 h3 hle3 rfl;skip)|(apply OpTo_res;exact rfl;exact has18;exact kC _ (by first|exact Le.refl _|assumption|(repeat (first|assumption|(apply Le.trans;assumption))));rintro v6 h6 hle6 rfl;skip)|(apply OpTo_makeMap ekP ekP;intro bm;skip)))|(apply GO_cond;exact rfl;all_goals (intro hc;try simp only [hcS,reduceCtorEq] at hc;try (exfalso;omega))))
    all_goals (try (exfalso;omega))
    all_goals (try (exfalso;simp at hc;done))
    have hl6 : Le hh h6:=(by first|exact Le.refl _|assumption|(repeat (first|assumption|(apply Le.trans;assumption))))
    clear hnx kC hBs
    refine GO_loopT (X:=Nat × Ro) (fun z => z.1 ≤ s.n ∧ Le hh z.2) (fun z => s.n - z.1)
      (fun z => [(20,.int .i64 z.1),(19,.map (some bm)),(16,.int .i64 c),(7,ptrB b7),(4,ptrB b4),(0,.slice Ac nc cc)])
      (fun z => [MapA ekP ekP bm (lostM ((atP (rounds l) z.1 0).map fun d => loseD d yt)),Blk b7 36 (brC s yt),Blk b4 26 (tieC yt)]) (fun z => z.2) (0,h6) ⟨by dsimp only;omega,hl6⟩ QS (by rw [atP_zero];exact QT) rfl ?_
    rintro ⟨i,hi6⟩ ⟨hin,hli⟩ ihi
    dsimp only at hin hli ihi ⊢
    by_cases hsn : i < s.n
    · have ra:=hrs.row.addrD hsn
      have rc : CellsAt hh ((addrD s.A).add (i * ty53.size)) (encRd (l.getD i rd0)):=hrs.row.cellsD rd0 hsn
      have hRm:=mem7 rd0 (show i < l.length by omega)
      have hRa:=hrs.each _ hRm
      have hlen2:=hlen i (by omega)
      have hnxt:=atP_next (rs:=rounds l) (i:=i) (by omega)
      have hfi:=hfr i
      have hsnp:=fun k => atP_snoc duel0 (rs:=rounds l) (i:=i) (k:=k)
      have hin2 : duels (l.getD i rd0).2 ∈ rounds l:=List.mem_map.2 ⟨_,hRm,rfl⟩
      have hwi:=hwin _ hin2
      have hro:=hrok _ hin2
      rw [rounds_getD] at hlen2 hnxt hfi hsnp
      generalize l.getD i rd0 = R at *
      have hRl:=hRa.1.row.len
      rw [duels_len,hRl] at hlen2 hnxt hfi hsnp
      have hsh : (R.1.n : Int) * 2 ^ (i + 1) = (nc : Int):=by
        have e1 : ((R.1.n * 2 ^ (i + 1) : Nat) : Int) = (nc : Int):=by rw [hlen2,hcl]
        rw [Int.natCast_mul,Int.natCast_pow] at e1
        exact e1
      have hi64 : i + 1 ≤ 64:=by
        have h0 : 0 < R.1.n:=by
          rcases Nat.eq_zero_or_pos R.1.n with e|e
          · rw [e,Nat.zero_mul] at hlen2;omega
          · exact e
        have h1 : 2 ^ (i + 1) ≤ R.1.n * 2 ^ (i + 1):=Nat.le_mul_of_pos_left _ h0
        have h2 : i + 1 < 2 ^ (i + 1):=Nat.lt_two_pow_self
        omega
      have hR16 : R.1.n ≤ 16:=by
        have h3 : R.1.n ≤ R.1.n * 2 ^ (i + 1):=Nat.le_mul_of_pos_right _ (Nat.two_pow_pos _)
        omega
      have rc1:=rc.le hli
      have ih1:=fun h' (hl : Le hi6 h') => ihi (i + 1,h') ⟨by dsimp only;omega,hli.trans hl⟩ (by dsimp only;omega)
      dsimp only at ih1
      rw [← hnxt] at ih1
      clear ihi hfr
      repeat' (first|apply GO_seq|apply GO_skip|apply GO_block|apply GO_region|apply GOl_nil|(apply GOl_ov;exact rfl;exact rfl;(first|(apply OV_shlI (n:=i + 1) (v:=(nc : Int));exact rfl;exact rfl;omega;omega;exact hsh;omega));exact QA)|(apply GOl_add;(iterate 3 exact rfl);omega;exact rfl;exact rfl)|(apply GOl_pv;(iterate 3 exact rfl))|(apply GOl_load;exact rfl;exact Ld_blk rfl QM rfl;exact rfl;exact rfl)|(apply GOl_ov;exact rfl;exact rfl;(first|(apply OV_idxS (j:=i) (n:=s.n);(iterate 5 exact rfl);exact ra;(with_reducible exact rfl);omega)|(apply OV_load;exact rfl;exact Lv_ro rfl rc1 rfl));exact QA)|(apply GO_cond;exact rfl;all_goals (intro hc;try simp only [hcS,reduceCtorEq] at hc;try (exfalso;omega))))
      all_goals (try (exfalso;omega))
      all_goals (try (exfalso;simp at hc;done))
      refine GO_loopT (X:=Nat × Ro) (fun z => z.1 ≤ R.1.n ∧ Le hi6 z.2) (fun z => R.1.n - z.1)
        (fun z => [(21,.int .i64 z.1),(20,.int .i64 i),(19,.map (some bm)),(16,.int .i64 c),(7,ptrB b7),(4,ptrB b4),(0,.slice Ac nc cc)])
        (fun z => [MapA ekP ekP bm (lostM ((atP (rounds l) i z.1).map fun d => loseD d yt)),Blk b7 36 (brC s yt),Blk b4 26 (tieC yt)]) (fun z => z.2) (0,hi6) ⟨by dsimp only;omega,Le.refl _⟩ QS QT rfl ?_
      rintro ⟨k2,hk6⟩ ⟨hkn,hlk⟩ ihk
      dsimp only at hkn hlk ihk ⊢
      have rc2:=rc1.le hlk
      by_cases hkR : k2 < R.1.n
      · have a1:=hRa.1.row.addrD hkR
        have c1 : CellsAt hk6 ((addrD R.1.A).add (k2 * ty24.size)) (encDu (R.2.getD k2 du0)):=((hRa.1.row.cellsD du0 hkR).le hli).le hlk
        have hpm:=mem7 du0 (show k2 < R.2.length by omega)
        have hda:=hRa.1.each _ hpm
        have hdd : (duels R.2).getD k2 duel0 = (R.2.getD k2 du0).2:=duels_getD2 (by omega)
        have hfk:=hfi k2 (by omega) hkR
        have hsk:=hsnp k2 hkR
        rw [hdd] at hfk hsk
        have hdm : (R.2.getD k2 du0).2 ∈ duels R.2:=List.mem_map.2 ⟨_,hpm,rfl⟩
        obtain ⟨w,hw1,hw2,hw3⟩:=hwi _ hdm
        obtain ⟨_,hba,hbb,_⟩:=(hro _ hdm).1.ok0
        generalize R.2.getD k2 du0 = p at *
        obtain ⟨ps,d⟩:=p
        dsimp only at hfk hsk hw1 hw2 hw3 hba hbb
        have c1 : CellsAt hk6 ((addrD R.1.A).add (k2 * ty24.size)) (duelC ps d):=c1
        have kw:=fun h' (hl : Le hk6 h') => winnerDu_c h' ps d yt (((hda.le hli).le hlk).le hl)
        rw [hw1] at kw
        dsimp only at kw
        have ih2:=fun h' (hl : Le hk6 h') => ihk (k2 + 1,h') ⟨by dsimp only;omega,hlk.trans hl⟩ (by dsimp only;omega)
        dsimp only at ih2
        rw [hsk,List.map_append,List.map_cons,List.map_nil,← insA_lost hfk,hw3] at ih2
        rw [hw3] at hfk
        have hlk0 : (lookA (d.a + d.b - w) (lostM ((atP (rounds l) i k2).map fun d => loseD d yt))).getD 0 = 0:=by rw [lookA_lost,if_neg hfk];rfl
        generalize lostM ((atP (rounds l) i k2).map fun d => loseD d yt) = M at *
        unfold Bel at hba hbb
        clear ihk ih1 hfk hsk hfi hsnp hwi hw1
        rcases hw2 with rfl|rfl
        all_goals
          repeat' (first|apply GO_seq|apply GO_skip|apply GO_inBlock|apply GO_block|apply GO_region|apply GOl_nil|(apply GOl_to;(iterate 3 exact rfl);apply OpTo_alloc (e:=24);exact rfl;intro b22)|(apply GOl_unwanted;exact rfl;exact rfl)|(apply GOl_add;(iterate 3 exact rfl);omega;exact rfl;exact rfl)|(apply GOl_sub;(iterate 3 exact rfl);omega;exact rfl;exact rfl)|(apply GOl_pv;(iterate 3 exact rfl))|(apply GOl_load;exact rfl;exact Ld_blk rfl QM rfl;exact rfl;exact rfl)|(apply GOl_ov;exact rfl;exact rfl;(first|(apply OV_idxS (j:=i) (n:=s.n);(iterate 5 exact rfl);exact ra;(with_reducible exact rfl);omega)|(apply OV_idxS (j:=k2) (n:=R.1.n);(iterate 5 exact rfl);exact a1;(with_reducible exact rfl);omega)|(apply OV_load;exact rfl;first|exact Lv_ro rfl rc2 rfl|exact Lv_ro rfl c1 rfl)|(apply OV_look0 (ek:=ekP) (ev:=ekP) (b:=bm) (m:=M) (q:=0) KP;(iterate 6 exact rfl);exact hlk0));exact QA)|(apply GOl_to;(iterate 3 exact rfl);(first|(apply OpTo_store;(iterate 3 exact rfl);exact QR;(iterate 3 exact rfl);skip)|(apply OpTo_res;exact rfl;exact has9;exact kw _ (by first|exact Le.refl _|assumption|(repeat (first|assumption|(apply Le.trans;assumption))));rintro v8 h8 hle8 rfl;skip)|(apply OpTo_mapUpdate (ek:=ekP) (ev:=ekP) (b:=bm) (m:=M) (u:=1) KP;(iterate 6 exact rfl);exact QR;skip)))|(apply GO_cond;exact rfl;all_goals (intro hc;try simp only [hcS,reduceCtorEq] at hc;try (exfalso;omega)))|(apply GOl_split;exact rfl;exact rfl;all_goals (intro hc;try simp only [hcS,reduceCtorEq] at hc;try (exfalso;omega))))
        all_goals first
          | (exfalso;omega)
          | (exfalso;simp at hc;done)
          | (have h9:=ih2 h8 hle8
             refine GO_fit QS QT (h9))
      · obtain rfl : k2 = R.1.n:=by omega
        have h9:=ih1 hk6 hlk
        clear ihk ih1
        repeat' (first|apply GO_seq|apply GO_inBlock|apply GO_region|apply GOl_nil|(apply GO_exit;exact rfl)|(apply GOl_add;(iterate 3 exact rfl);omega;exact rfl;exact rfl)|(apply GOl_pv;(iterate 3 exact rfl))|(apply GOl_load;exact rfl;exact Ld_blk rfl QM rfl;exact rfl;exact rfl)|(apply GOl_ov;exact rfl;exact rfl;(first|(apply OV_idxS (j:=i) (n:=s.n);(iterate 5 exact rfl);exact ra;(with_reducible exact rfl);omega)|(apply OV_load;exact rfl;exact Lv_ro rfl rc2 rfl));exact QA)|(apply GO_cond;exact rfl;all_goals (intro hc;try simp only [hcS,reduceCtorEq] at hc;try (exfalso;omega))))
        all_goals first
          | (exfalso;omega)
          | (refine GO_fit QS QT (h9))
    · obtain rfl : i = s.n:=by omega
      rw [show atP (rounds l) s.n 0 = (rounds l).flatMap id by rw [← hll,← hrl,atP_end]]
      have hMl : ((lostM (((rounds l).flatMap id).map fun d => loseD d yt)).length : Int) = (nc : Int) - 1:=by rw [lostM_len];omega
      generalize lostM (((rounds l).flatMap id).map fun d => loseD d yt) = M at *
      clear ihi hfr hlen hwin hrok
      have hcr:=hcs.le (hle.trans hli)
      repeat' (first|apply GO_seq|apply GO_block|apply GO_region|apply GOl_nil|(apply GO_exit;exact rfl)|(apply GOl_pv;(iterate 3 exact rfl))|(apply GOl_load;exact rfl;exact Ld_blk rfl QM rfl;exact rfl;exact rfl)|(apply GO_cond;exact rfl;all_goals (intro hc;try simp only [hcS,reduceCtorEq] at hc;try (exfalso;omega))))
      all_goals (try (exfalso;omega))
      refine GO_loopT (X:=Nat) (fun i => i ≤ nc) (fun i => nc - i)
        (fun i => [(25,.int .i64 i),(19,.map (some bm)),(16,.int .i64 c),(0,.slice Ac nc cc)])
        (fun _ => [MapA ekP ekP bm M]) (fun _ => hi6) 0 (by omega) QS QT rfl ?_
      rintro j hj ihj
      by_cases hjn : j < nc
      · have a1:=hcr.addrD hjn
        have c1 : CellsAt hi6 ((addrD Ac).add (j * ty3.size)) (encI (cs.getD j 0)):=hcr.cellsD 0 hjn
        have hq:=hlm _ (mem7 0 (show j < cs.length by omega))
        generalize cs.getD j 0 = p at *
        have h9:=ihj (j + 1) (by omega) (by omega)
        clear ihj
        by_cases hpc : p = c
        · rw [if_pos hpc] at hq
          repeat' (first|apply GO_seq|apply GO_skip|apply GO_inBlock|apply GO_block|apply GO_region|apply GOl_nil|(apply GOl_add;(iterate 3 exact rfl);omega;exact rfl;exact rfl)|(apply GOl_pv;(iterate 3 exact rfl))|(apply GOl_ov;exact rfl;exact rfl;(first|(apply OV_idxS (j:=j) (n:=nc);(iterate 5 exact rfl);exact a1;(with_reducible exact rfl);omega)|(apply OV_load;exact rfl;exact Lv_ro rfl c1 rfl)|(apply OV_look0 (ek:=ekP) (ev:=ekP) (key:=p) (b:=bm) (m:=M) (q:=0) KP;(iterate 6 exact rfl);exact hq));exact QA)|(apply GO_cond;exact rfl;all_goals (intro hc;try simp only [hcS,reduceCtorEq] at hc;try (exfalso;omega))))
          all_goals first
            | (exfalso;omega)
            | (exfalso;simp at hc;done)
            | (refine GO_fit QS QT (h9))
        · rw [if_neg hpc] at hq
          repeat' (first|apply GO_seq|apply GO_skip|apply GO_inBlock|apply GO_block|apply GO_region|apply GOl_nil|(apply GOl_add;(iterate 3 exact rfl);omega;exact rfl;exact rfl)|(apply GOl_pv;(iterate 3 exact rfl))|(apply GOl_ov;exact rfl;exact rfl;(first|(apply OV_idxS (j:=j) (n:=nc);(iterate 5 exact rfl);exact a1;(with_reducible exact rfl);omega)|(apply OV_load;exact rfl;exact Lv_ro rfl c1 rfl)|(apply OV_look0 (ek:=ekP) (ev:=ekP) (key:=p) (b:=bm) (m:=M) (q:=1) KP;(iterate 6 exact rfl);exact hq));exact QA)|(apply GO_cond;exact rfl;all_goals (intro hc;try simp only [hcS,reduceCtorEq] at hc;try (exfalso;omega))))
          all_goals first
            | (exfalso;omega)
            | (exfalso;simp at hc;done)
            | (refine GO_fit QS QT (h9))
      · clear ihj
        repeat' (first|apply GO_seq|apply GO_region|apply GOl_nil|(apply GO_exit;exact rfl)|(apply GOl_sub;(iterate 3 exact rfl);omega;exact rfl;exact rfl)|(apply GOl_pv;(iterate 3 exact rfl))|(apply GOl_ov;exact rfl;exact rfl;(first|(apply OV_lenMap (ek:=ekP) (ev:=ekP) (b:=bm) (m:=M);(iterate 3 exact rfl)));exact QA)|(apply GO_cond;exact rfl;all_goals (intro hc;try simp only [hcS,reduceCtorEq] at hc;try (exfalso;omega))))
        all_goals first
          | (exfalso;omega)
          | (exact GO_retV1 rfl rfl rfl (congrArg Value.bool ((eqI_t _ _).mpr hMl)))
  | some d =>
    rw [ho] at hnx
    unfold nextV at hnx
    dsimp only at hnx
    have hen:=fun x h' (hl : Le hh h') => enterBr_c h' s l yt (hrs.le hl) hb.nc hBs x
    by_cases hng : 0 < ng
    · have hjn : k % ng < ng:=Nat.mod_lt _ hng
      have hgr:=hgs.le hle
      have ag0:=hgr.addrD hjn
      have cg0 : CellsAt hh ((addrD Ag).add (k % ng * ty5.size)) (encB (gs.getD (k % ng) 0)):=hgr.cellsD 0 hjn
      generalize gs.getD (k % ng) 0 = gb at *
      have hgb : gb.toNat < 256:=gb.toNat_lt
      have cg0 : CellsAt hh ((addrD Ag).add (k % ng * ty5.size)) [.int .u8 ((gb.toNat : Nat) : Int)]:=cg0
      generalize gb.toNat = w at *
      have hb1 : Bel ((w : Int) % 4) 100:=by unfold Bel;omega
      have hb2' : Bel ((w : Int) / 4 % 4) 100:=by unfold Bel;omega
      by_cases hE1 : (enterB ⟨yt,rounds l⟩ (nextX d ((w : Int) % 4) ((w : Int) / 4 % 4) 0 0)).2 = 0
      · obtain ⟨zr,hz1,hz2,hz3⟩:=play_yes hP hE1
        have k4:=fun h' (hl : Le hh h') => hen (nextX d ((w : Int) % 4) ((w : Int) / 4 % 4) 0 0) h' hl
        rw [hz1] at k4
        dsimp only at k4
        clear hE1 hz1 hen
        repeat' (first|apply GO_seq|apply GO_skip|apply GO_inBlock|apply GO_block|apply GO_region|apply GOl_nil|(apply GOl_to;(iterate 3 exact rfl);apply OpTo_alloc (e:=38);exact rfl;intro b10)|(apply GOl_to;(iterate 3 exact rfl);apply OpTo_alloc (e:=40);exact rfl;intro b12)|(apply GOl_to;(iterate 3 exact rfl);apply OpTo_alloc (e:=36);exact rfl;intro b14)|(apply GOl_ov;exact rfl;exact rfl;(first|(apply OV_mulI;(iterate 3 exact rfl);omega)|(apply OV_remI (p:=(k : Int)) (q:=(ng : Int));(iterate 3 exact rfl);omega;omega)|(apply OV_remI (p:=(w : Int)) (q:=4);(iterate 3 exact rfl);omega;omega)|(apply OV_remI (p:=(w : Int) / 4) (q:=4);(iterate 3 exact rfl);omega;omega)|(apply OV_quoI (p:=(w : Int)) (q:=4);(iterate 3 exact rfl);omega;omega)|(apply OV_convI;(iterate 4 exact rfl);exact i64_in _ (by omega)));exact QA)|(apply GOl_add;(iterate 3 exact rfl);omega;exact rfl;exact rfl)|(apply GOl_pv;(iterate 3 exact rfl))|(apply GOl_load;exact rfl;exact Ld_blk rfl QM rfl;exact rfl;exact rfl)|(apply GOl_ov;exact rfl;exact rfl;(first|(apply OV_idxS (j:=k % ng) (n:=ng);(iterate 5 exact rfl);exact ag0;omega;exact hjn)|(apply OV_load;exact rfl;exact Lv_ro rfl (cg0.le (by first|exact Le.refl _|assumption|(repeat (first|assumption|(apply Le.trans;assumption))))) rfl));exact QA)|(apply GOl_to;(iterate 3 exact rfl);(first|(apply OpTo_store;(iterate 3 exact rfl);exact QR;(iterate 3 exact rfl);skip)|(apply OpTo_res;exact rfl;exact has21;exact hnx _ (by first|exact Le.refl _|assumption|(repeat (first|assumption|(apply Le.trans;assumption))));rintro v3 h3 hle3 rfl;skip)|(apply OpTo_res;exact rfl;exact has16;exact k4 _ (by first|exact Le.refl _|assumption|(repeat (first|assumption|(apply Le.trans;assumption))));rintro v4 h4 hle4 ⟨s4,l4,rfl,hb4⟩;(have hn4 : zr.length = s4.n:=brLen hb4);skip)))|(apply GO_cond;exact rfl;all_goals (intro hc;try simp only [hcS,reduceCtorEq] at hc;try (exfalso;omega)))|(apply GOl_split;exact rfl;exact rfl;all_goals (intro hc;try simp only [hcS,reduceCtorEq] at hc;try (exfalso;omega))))
        all_goals (try (exfalso;omega))
        all_goals (try (exfalso;simp at hc;done))
        all_goals first
          | (obtain ⟨q1,q2⟩:=brIs hb4 hz2
             have h9:=ih (k + 1,s4,l4,h4) ⟨hle.trans (by first|exact Le.refl _|assumption|(repeat (first|assumption|(apply Le.trans;assumption)))),q1,q2⟩ (by dsimp only;omega)
             refine GO_fit QS QT (h9))
      · have hE2:=hP.step ho hb1 hb2' hE1
        obtain ⟨zr,hz1,hz2,hz3⟩:=play_yes hP hE2
        obtain ⟨y5,e5,hz5,he5⟩:=play_no hE1
        have k4:=fun h' (hl : Le hh h') => hen (nextX d ((w : Int) % 4) ((w : Int) / 4 % 4) 0 0) h' hl
        have k5:=fun h' (hl : Le hh h') => hen (nextX d ((w : Int) % 4) ((w : Int) / 4 % 4) 5 4) h' hl
        rw [hz1] at k5
        rw [hz5] at k4
        dsimp only at k4 k5
        clear hE1 hE2 hz1 hz5 hen
        repeat' (first|apply GO_seq|apply GO_skip|apply GO_inBlock|apply GO_block|apply GO_region|apply GOl_nil|(apply GOl_to;(iterate 3 exact rfl);apply OpTo_alloc (e:=38);exact rfl;intro b10)|(apply GOl_to;(iterate 3 exact rfl);apply OpTo_alloc (e:=40);exact rfl;intro b12)|(apply GOl_to;(iterate 3 exact rfl);apply OpTo_alloc (e:=36);exact rfl;intro b14)|(apply GOl_ov;exact rfl;exact rfl;(first|(apply OV_mulI;(iterate 3 exact rfl);omega)|(apply OV_remI (p:=(k : Int)) (q:=(ng : Int));(iterate 3 exact rfl);omega;omega)|(apply OV_remI (p:=(w : Int)) (q:=4);(iterate 3 exact rfl);omega;omega)|(apply OV_remI (p:=(w : Int) / 4) (q:=4);(iterate 3 exact rfl);omega;omega)|(apply OV_quoI (p:=(w : Int)) (q:=4);(iterate 3 exact rfl);omega;omega)|(apply OV_convI;(iterate 4 exact rfl);exact i64_in _ (by omega)));exact QA)|(apply GOl_add;(iterate 3 exact rfl);omega;exact rfl;exact rfl)|(apply GOl_pv;(iterate 3 exact rfl))|(apply GOl_load;exact rfl;exact Ld_blk rfl QM rfl;exact rfl;exact rfl)|(apply GOl_ov;exact rfl;exact rfl;(first|(apply OV_idxS (j:=k % ng) (n:=ng);(iterate 5 exact rfl);exact ag0;omega;exact hjn)|(apply OV_load;exact rfl;exact Lv_ro rfl (cg0.le (by first|exact Le.refl _|assumption|(repeat (first|assumption|(apply Le.trans;assumption))))) rfl));exact QA)|(apply GOl_to;(iterate 3 exact rfl);(first|(apply OpTo_store;(iterate 3 exact rfl);exact QR;(iterate 3 exact rfl);skip)|(apply OpTo_res;exact rfl;exact has21;exact hnx _ (by first|exact Le.refl _|assumption|(repeat (first|assumption|(apply Le.trans;assumption))));rintro v3 h3 hle3 rfl;skip)|(apply OpTo_res;exact rfl;exact has16;exact k4 _ (by first|exact Le.refl _|assumption|(repeat (first|assumption|(apply Le.trans;assumption))));rintro v5 h5 hle5 ⟨s5,l5,rfl,hb5⟩;skip)|(apply OpTo_res;exact rfl;exact has16;exact k5 _ (by first|exact Le.refl _|assumption|(repeat (first|assumption|(apply Le.trans;assumption))));rintro v4 h4 hle4 ⟨s4,l4,rfl,hb4⟩;(have hn4 : zr.length = s4.n:=brLen hb4);skip)))|(apply GO_cond;exact rfl;all_goals (intro hc;try simp only [hcS,reduceCtorEq] at hc;try (exfalso;omega)))|(apply GOl_split;exact rfl;exact rfl;all_goals (intro hc;try simp only [hcS,reduceCtorEq] at hc;try (exfalso;omega))))
        all_goals (try (exfalso;omega))
        all_goals (try (exfalso;simp at hc;done))
        all_goals first
          | (obtain ⟨q1,q2⟩:=brIs hb4 hz2
             have h9:=ih (k + 1,s4,l4,h4) ⟨hle.trans (by first|exact Le.refl _|assumption|(repeat (first|assumption|(apply Le.trans;assumption)))),q1,q2⟩ (by dsimp only;omega)
             refine GO_fit QS QT (h9))
    · have hb1 : Bel 0 100:=by unfold Bel;omega
      have hb2' : Bel 0 100:=hb1
      by_cases hE1 : (enterB ⟨yt,rounds l⟩ (nextX d 0 0 0 0)).2 = 0
      · obtain ⟨zr,hz1,hz2,hz3⟩:=play_yes hP hE1
        have k4:=fun h' (hl : Le hh h') => hen (nextX d 0 0 0 0) h' hl
        rw [hz1] at k4
        dsimp only at k4
        clear hE1 hz1 hen
        repeat' (first|apply GO_seq|apply GO_skip|apply GO_inBlock|apply GO_block|apply GO_region|apply GOl_nil|(apply GOl_to;(iterate 3 exact rfl);apply OpTo_alloc (e:=38);exact rfl;intro b10)|(apply GOl_to;(iterate 3 exact rfl);apply OpTo_alloc (e:=40);exact rfl;intro b12)|(apply GOl_to;(iterate 3 exact rfl);apply OpTo_alloc (e:=36);exact rfl;intro b14)|(apply GOl_ov;exact rfl;exact rfl;(first|(apply OV_mulI;(iterate 3 exact rfl);omega));exact QA)|(apply GOl_add;(iterate 3 exact rfl);omega;exact rfl;exact rfl)|(apply GOl_pv;(iterate 3 exact rfl))|(apply GOl_load;exact rfl;exact Ld_blk rfl QM rfl;exact rfl;exact rfl)|(apply GOl_to;(iterate 3 exact rfl);(first|(apply OpTo_store;(iterate 3 exact rfl);exact QR;(iterate 3 exact rfl);skip)|(apply OpTo_res;exact rfl;exact has21;exact hnx _ (by first|exact Le.refl _|assumption|(repeat (first|assumption|(apply Le.trans;assumption))));rintro v3 h3 hle3 rfl;skip)|(apply OpTo_res;exact rfl;exact has16;exact k4 _ (by first|exact Le.refl _|assumption|(repeat (first|assumption|(apply Le.trans;assumption))));rintro v4 h4 hle4 ⟨s4,l4,rfl,hb4⟩;(have hn4 : zr.length = s4.n:=brLen hb4);skip)))|(apply GO_cond;exact rfl;all_goals (intro hc;try simp only [hcS,reduceCtorEq] at hc;try (exfalso;omega)))|(apply GOl_split;exact rfl;exact rfl;all_goals (intro hc;try simp only [hcS,reduceCtorEq] at hc;try (exfalso;omega))))
        all_goals (try (exfalso;omega))
        all_goals (try (exfalso;simp at hc;done))
        all_goals first
          | (obtain ⟨q1,q2⟩:=brIs hb4 hz2
             have h9:=ih (k + 1,s4,l4,h4) ⟨hle.trans (by first|exact Le.refl _|assumption|(repeat (first|assumption|(apply Le.trans;assumption)))),q1,q2⟩ (by dsimp only;omega)
             refine GO_fit QS QT (h9))
      · have hE2:=hP.step ho hb1 hb2' hE1
        obtain ⟨zr,hz1,hz2,hz3⟩:=play_yes hP hE2
        obtain ⟨y5,e5,hz5,he5⟩:=play_no hE1
        have k4:=fun h' (hl : Le hh h') => hen (nextX d 0 0 0 0) h' hl
        have k5:=fun h' (hl : Le hh h') => hen (nextX d 0 0 5 4) h' hl
        rw [hz1] at k5
        rw [hz5] at k4
        dsimp only at k4 k5
        clear hE1 hE2 hz1 hz5 hen
        repeat' (first|apply GO_seq|apply GO_skip|apply GO_inBlock|apply GO_block|apply GO_region|apply GOl_nil|(apply GOl_to;(iterate 3 exact rfl);apply OpTo_alloc (e:=38);exact rfl;intro b10)|(apply GOl_to;(iterate 3 exact rfl);apply OpTo_alloc (e:=40);exact rfl;intro b12)|(apply GOl_to;(iterate 3 exact rfl);apply OpTo_alloc (e:=36);exact rfl;intro b14)|(apply GOl_ov;exact rfl;exact rfl;(first|(apply OV_mulI;(iterate 3 exact rfl);omega));exact QA)|(apply GOl_add;(iterate 3 exact rfl);omega;exact rfl;exact rfl)|(apply GOl_pv;(iterate 3 exact rfl))|(apply GOl_load;exact rfl;exact Ld_blk rfl QM rfl;exact rfl;exact rfl)|(apply GOl_to;(iterate 3 exact rfl);(first|(apply OpTo_store;(iterate 3 exact rfl);exact QR;(iterate 3 exact rfl);skip)|(apply OpTo_res;exact rfl;exact has21;exact hnx _ (by first|exact Le.refl _|assumption|(repeat (first|assumption|(apply Le.trans;assumption))));rintro v3 h3 hle3 rfl;skip)|(apply OpTo_res;exact rfl;exact has16;exact k4 _ (by first|exact Le.refl _|assumption|(repeat (first|assumption|(apply Le.trans;assumption))));rintro v5 h5 hle5 ⟨s5,l5,rfl,hb5⟩;skip)|(apply OpTo_res;exact rfl;exact has16;exact k5 _ (by first|exact Le.refl _|assumption|(repeat (first|assumption|(apply Le.trans;assumption))));rintro v4 h4 hle4 ⟨s4,l4,rfl,hb4⟩;(have hn4 : zr.length = s4.n:=brLen hb4);skip)))|(apply GO_cond;exact rfl;all_goals (intro hc;try simp only [hcS,reduceCtorEq] at hc;try (exfalso;omega)))|(apply GOl_split;exact rfl;exact rfl;all_goals (intro hc;try simp only [hcS,reduceCtorEq] at hc;try (exfalso;omega))))
        all_goals (try (exfalso;omega))
        all_goals (try (exfalso;simp at hc;done))
        all_goals first
          | (obtain ⟨q1,q2⟩:=brIs hb4 hz2
             have h9:=ih (k + 1,s4,l4,h4) ⟨hle.trans (by first|exact Le.refl _|assumption|(repeat (first|assumption|(apply Le.trans;assumption)))),q1,q2⟩ (by dsimp only;omega)
             refine GO_fit QS QT (h9))
end Go.Hw
