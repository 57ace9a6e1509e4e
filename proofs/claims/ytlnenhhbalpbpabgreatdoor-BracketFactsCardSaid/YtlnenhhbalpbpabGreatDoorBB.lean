import Derived.Test.YtlnenhhbalpbpabGreatDoorBA
import Derived.Test.YtlnenhhbalpbpabGreatDoorFE
import Derived.Test.YtlnenhhbalpbpabGreatDoorHF
import Derived.Test.YtlnenhhbalpbpabGreatDoorHB
import Derived.Test.YtlnenhhbalpbpabGreatDoorHD
import Derived.Test.YtlnenhhbalpbpabGreatDoorLShI
set_option linter.all false
set_option maxRecDepth 100000
set_option maxHeartbeats 8000000
namespace Go.Hw
open Go
attribute [local irreducible] GO GOl GDp Val Fn Res At Fx Blk By Dk Cl Has Yl
open Go.Proofs (Tryz.prog)
theorem sortInts (e:TypeId)(v:Value)(xs:List Int)(n:Nat)(h:Ro)(hn:n≤1000000000)(hx:xs.length=n):Fn Tryz.prog 88 #[v] [By e 1 v n (xs.flatMap Ex)] h fun u Es _=>u=.tuple #[]∧Es=[By e 1 v n ((Jg xs).flatMap Ex)]:=sortFn Go.Proofs.Tryz.slices_Sort_int Go.Proofs.Tryz.slices_Sort_int_none e v xs n h hn hx
theorem H0a (e:TypeId)(v:Value)(xs:List Int)(n:Nat)(h:Ro)(hn:n≤1000000000)(hx:xs.length=n):Fn Tryz.prog 80 #[v] [By e 1 v n (xs.flatMap Ex)] h fun u Es _=>Es=[By e 1 u (Lib.compact xs).length ((Lib.compact xs).flatMap Ex)]:=compactFn Go.Proofs.Tryz.slices_Compact_int Go.Proofs.Tryz.slices_Compact_int_empty Qw e v xs n h hn hx
theorem Gda {l:List Int}{k n:Nat}(hlen:l.length=n)(hk:k<n):l=l.take k++l.getD k 0::l.drop (k+1):=by
 rw [← Zd 0 hlen hk,List.take_append_drop]
def FRi (x:Int) (u:List Value) (h:Ro):Prop:=u=[.int .i64 x]
theorem Wg (h:Ro)(A:Option Addr)(n c:Nat):Res Tryz.prog 50 #[.slice A n c] h (fun u h'=>∃ b1,u=.func (.func 89) #[] #[.pointer (some ⟨b1,0,none⟩)]∧At h' ⟨b1,0,none⟩ [.slice A n c]):=by
 refine Bq (args:=[_]) ts_ok Go.Proofs.Tryz.func50 rfl rfl fun w0 X0 => ?_
 repeat' (first|apply Ac|apply Aa|apply Ab|(apply Ad;(iterate 3 exact J))|(apply Af;(iterate 3 exact J);(first|(apply Ao;exact J;intro b;skip))))
 generalize b=b1
 refine Gf (b:=b1) (e:=34) (cs:=[.slice A n c]) QK ?_
 intro h1 hle1 hc1
 (first|(apply Cb;(iterate 3 exact J)))
 exact ⟨b1,rfl,hc1⟩
theorem valSeqI (h:Ro)(A:Option Addr)(n c:Nat)(l:List Int)(hx:Cc Ex 1 h A n l)(hn:n≤1000000)(b1:Nat)(hb1:At h ⟨b1,0,none⟩ [.slice A n c]):Zg Tryz.prog 89 [.pointer (some ⟨b1,0,none⟩)] FRi l h:=by
 intro lid I Ix mI mIx hround Es h1 hle h0
 refine Bo (args:=[_,_]) ts_ok Go.Proofs.Tryz.func89 rfl rfl fun w0 X0 => ?_
 have hlen:=hx.len
 have hd1:=hb1.le hle
 repeat' (first|apply Ac|apply Ak|apply Aa|apply Ab|(apply Ad;(iterate 3 exact J))|(apply Bd;exact J;exact J;(first|(apply Ar;exact J;exact Bh rfl hd1 rfl));exact QA))
 refine Lh (X:=Nat×List Asn×Ro) (fun x=>x.1≤n∧Le h x.2.2∧I (l.take x.1) x.2.1 x.2.2) (fun x=>n-x.1) (fun x=>[(7,.int .i64 x.1),(6,.int .i64 n),(5,.slice A n c),(0,.func (.yield lid) #[] #[])])
  (fun x=>x.2.1) (fun x=>x.2.2) (0,Es,h1) ⟨by omega,hle,h0⟩ QS rfl rfl ?_
 rintro ⟨k,Es1,hk⟩ ⟨hkn,hlk,hI⟩ ih
 dsimp only at hkn hlk hI ih ⊢
 by_cases hkn2:k<n
 · have a1:=hx.addrD hkn2
   have c1:=(hx.cellsD 0 hkn2).le hlk
   have et:=Fq 0 hlen hkn2
   have hsplit:=Gda (l:=l) hlen hkn2
   generalize l.getD k 0=p at *
   have hyl:Yl Tryz.prog lid [.int .i64 p] Es1 hk fun v Es' h'=>(v=.bool true∧I (l.take (k+1)) Es' h')∨(v=.bool false∧Ix (l.take (k+1)) Es' h'):=by
    rw [et]
    exact hround _ _ _ _ _ _ hsplit hlk rfl hI
   repeat' (first|apply Ac|apply Au|apply Ap|apply Ak|apply Aa|apply Ab|(apply Bg;(iterate 3 exact J);omega;exact J;exact J)|(apply Ad;(iterate 3 exact J))|(apply Bd;exact J;exact J;(first|(apply Be (j:=k);(iterate 5 exact J);exact a1;(with_reducible exact J);omega)|(apply Ar;exact J;exact Bh rfl c1 rfl));exact QA)|(apply Af;(iterate 3 exact J);(first|(refine Ho (Fs:=Es1++[]) (by rw [List.append_nil]) ?_;apply Iv (Es0:=Es1) (Fs:=[]);(iterate 3 exact J);exact hyl;rintro v E2 h2 hle2 (⟨rfl,hP⟩|⟨rfl,hP⟩);all_goals skip)))|(apply Aj;exact J;all_goals (intro hc;try simp only [hcS,reduceCtorEq] at hc;try (exfalso;omega))))
   all_goals first
    | (exfalso;omega)
    | (have h3:=ih (k+1,E2,h2) ⟨by show k+1≤n;omega,hlk.trans hle2,hP⟩ (by show n-(k+1)<n-k;omega)
       refine Iy (Fs:=E2) (by rw [List.append_nil]) ?_
       exact Hg QS h3)
    | (refine Iy (Fs:=E2) (by rw [List.append_nil]) ?_
       exact Lu (rs:=[]) (vs:=[]) (Fs:=E2) rfl rfl trivial (List.Sublist.refl _) (.inr ⟨l.take (k+1),l.drop (k+1),(List.take_append_drop _ _).symm,hP⟩))
 · rw [List.take_of_length_le (by omega)] at hI
   repeat' (first|apply Ac|apply Aa|apply Ab|(apply Bn;exact J)|(apply Ad;(iterate 3 exact J))|(apply Aj;exact J;all_goals (intro hc;try simp only [hcS,reduceCtorEq] at hc;try (exfalso;omega))))
   exact Fe (rs:=[]) (vs:=[]) rfl rfl trivial (.inl hI)
theorem Fpa (h:Ro)(g:FuncId)(hg:Has Tryz.prog g)(b1:Nat)(xs:List Int)(hn:xs.length≤1000000)(hs:Zg Tryz.prog g [.pointer (some ⟨b1,0,none⟩)] FRi xs h) :
  Fn Tryz.prog 148 #[.slice none 0 0,.func (.func g) #[] #[.pointer (some ⟨b1,0,none⟩)]] [] h fun u Es _=>Es=[By 3 1 u xs.length (xs.flatMap Ex)]:=by
 refine Bo (args:=[_,_]) ts_ok Go.Proofs.Tryz.func148 rfl rfl fun w0 X0 => ?_
 repeat' (first|apply Ac|apply Ak|apply Aa|apply Ab|(apply Ad;(iterate 3 exact J))|(apply Af;(iterate 3 exact J);(first|(apply Ao;exact J;intro b;skip))))
 generalize b=bT
 refine Eh 3 1 ?_
 refine Cs (Es':=[Blk bT 34 [.slice none 0 0],By 3 1 (.slice none 0 0) 0 []]) QT ?_
 refine Gg (R:=FRi) (xs:=xs) (gf:=g) (lb:=[.pointer (some ⟨b1,0,none⟩)]) rfl rfl hg hs (by rintro x u h2 rfl;rfl) rfl
  (fun pre Es h2=>∃ (A:Option Addr) (c:Nat),Es=[Blk bT 34 [.slice A pre.length c],By 3 1 (.slice A pre.length c) pre.length (pre.flatMap Ex)]) (fun _ _ _ _=>False)
  (fun pre Es h2 h3 hl e=>e) (fun _ _ _ _ _ _ h=>h.elim) ⟨none,0,rfl⟩ ?_ ?_ (fun _ _ _ _ _ _ _ _ h=>h.elim)
 · rintro lid r0 w1 X1 pre x post u Es1 h1 hxe rfl ⟨A,c,rfl⟩ hle hst
   have hpl:pre.length+1≤xs.length:=by rw [hxe];simp
   repeat' (first|apply Ap|apply Ak|apply Aa|apply Ab|(apply Jf;exact J;exact QK;exact hst)|(apply Ad;(iterate 3 exact J))|(apply Ai;exact J;exact Av rfl QM rfl;exact J;exact J)|(apply Af;(iterate 3 exact J);(first|(apply Ah;(iterate 3 exact J);exact QR;(iterate 3 exact J);skip)|(apply Bc (enc:=Ex) (n:=1) [x];(iterate 3 exact J);exact List.cons_ne_nil _ _;(iterate 4 exact J);exact fun _=>rfl;exact J;exact J;intro b5 h5 hle5 hs5;skip)|(apply Bk (enc:=Ex) (xs:=pre);(iterate 7 exact J);exact hs5;exact fun _=>rfl;exact fun x=>Ci rfl;intro v1;exact QR;omega;exact J;intro A3 c3;skip))))
   all_goals
    refine Cs (Es':=[Ic lid { r0 with state:=.busy },Blk bT 34 [.slice A3 (pre.length+1) c3],By 3 1 (.slice A3 (pre.length+1) c3) (pre.length+1) ((pre++[x]).flatMap Ex)]) QT (Nj (r0:=r0) rfl .here ⟨A3,c3,?_⟩)
    rw [List.length_append];rfl
 · rintro D h1 Es1 hle ⟨A,c,rfl⟩
   repeat' (first|apply Ac|apply Ap|apply Aa|apply Ab|(apply Ad;(iterate 3 exact J))|(apply Ai;exact J;exact Av rfl QM rfl;exact J;exact J))
   all_goals
    refine Cxa (Nf rfl QK (Rt_S (rs:=[.tmp 4]) (vs:=[.slice A xs.length c]) (Fs:=[By 3 1 (.slice A xs.length c) xs.length (xs.flatMap Ex)]) rfl rfl ⟨rfl,trivial⟩ (by (repeat (first|exact List.Sublist.refl _|exact List.nil_sublist _|apply List.Sublist.cons_cons|apply List.Sublist.cons));done) rfl))
theorem Mva (h:Ro)(g:FuncId)(hg:Has Tryz.prog g)(b1:Nat)(xs:List Int)(hn:xs.length≤1000000)(hs:Zg Tryz.prog g [.pointer (some ⟨b1,0,none⟩)] FRi xs h) :
  Fn Tryz.prog 87 #[.func (.func g) #[] #[.pointer (some ⟨b1,0,none⟩)]] [] h fun u Es _=>Es=[By 3 1 u xs.length (xs.flatMap Ex)]:=by
 refine Bo (args:=[_]) ts_ok Go.Proofs.Tryz.func87 rfl rfl fun w0 X0 => ?_
 repeat' (first|apply Ac|apply Aa|apply Ab|(apply Ad;(iterate 3 exact J))|(apply Af;(iterate 3 exact J);(first|(apply Bi;exact J;exact has148;exact Fpa _ g hg b1 xs hn (hs.le QL);exact QT;rintro vc Ec hc1 hlc rfl;skip))))
 all_goals exact Ca rfl rfl rfl (.cons_cons _ (List.nil_sublist _)) rfl
theorem Dia (h:Ro)(b1:Nat)(xs:List Int)(hn:xs.length≤1000000)(hs:Zg Tryz.prog 89 [.pointer (some ⟨b1,0,none⟩)] FRi xs h) :
  Fn Tryz.prog 49 #[.func (.func 89) #[] #[.pointer (some ⟨b1,0,none⟩)]] [] h fun u Es _=>Es=[By 3 1 u xs.length ((Jg xs).flatMap Ex)]:=by
 refine Bo (args:=[_]) ts_ok Go.Proofs.Tryz.func49 rfl rfl fun w0 X0 => ?_
 repeat' (first|apply Ac|apply Aa|apply Ab|(apply Ad;(iterate 3 exact J))|(apply Af;(iterate 3 exact J);(first|(apply Bi;exact J;exact has87;exact Mva _ _ has89 b1 xs hn (hs.le QL);exact QT;rintro vc Ec hc1 hlc rfl;skip)|(apply Bi;exact J;exact has88;exact sortInts 3 _ xs xs.length _ (by omega) rfl;exact QT;rintro vs Es9 hs9 hls ⟨rfl,rfl⟩;skip))))
 all_goals first
  | (exact Ca rfl rfl rfl (.cons_cons _ (List.nil_sublist _)) rfl)
theorem E7a (h:Ro)(n:Int):Val Tryz.prog 79 #[.int .i64 n] h (.bool (!decide (Bel n 192))):=by
 refine Az (args:=[_]) ts_ok Go.Proofs.Tryz.func79 rfl rfl fun w0 X0 => ?_
 repeat' (first|apply Ac|apply Aa|apply Ab|(apply Ad;(iterate 3 exact J))|(apply Af;(iterate 3 exact J);(first|(apply Aq;exact J;exact has75;exact Bta _ _;skip)))|(apply Bb;(iterate 3 exact J)))
 all_goals rfl
theorem E8a {ys:List Int}(hs:ys.Pairwise (· ≤ ·)):(Lib.compact ys).length=ys.length↔ys.Nodup:=by
 constructor
 · intro h
   unfold Lib.compact Lib.compactUpTo at h
   rw [List.length_map] at h
   have h1:((List.range ys.length).filter (Lib.keeps ys.toArray)).length=(List.range ys.length).length:=by rw [h,List.length_range]
   have h2:=List.length_filter_eq_length_iff.1 h1
   have hst:ys.Pairwise (· < ·):=by
    rw [List.pairwise_iff_getElem] at hs ⊢
    intro i j hi hj hij
    have k1:=((Xg ys j hj).1 (h2 j (List.mem_range.2 hj))).resolve_left (by omega)
    rw [List.getD_eq_getElem?_getD,List.getElem?_eq_getElem hj,List.getD_eq_getElem?_getD,List.getElem?_eq_getElem (show j-1<ys.length by omega),Option.getD_some,Option.getD_some] at k1
    have a2:=hs (j-1) j (by omega) hj (by omega)
    by_cases e:i=j-1
    · subst e;omega
    · have a1:=hs i (j-1) hi (by omega) (by omega)
      omega
   exact hst.imp fun h=>by omega
 · intro h
   exact Nat.le_antisymm (Qw ys) (h.length_le_of_subset fun x hx=>(Hya x).2 hx)
theorem Fca (cs:List Int):Fw cs↔(Jg cs).any (fun n => !decide (Bel n 192))=false∧(Lib.compact (Jg cs)).length=cs.length:=by
 have hp:(Jg cs).Perm cs:=by unfold Jg;exact List.mergeSort_perm _ _
 unfold Fw
 refine and_congr ?_ ?_
 · rw [List.any_eq_false]
   constructor
   · intro h x hx
     have:=h x (hp.mem_iff.1 hx)
     simpa using this
   · intro h x hx
     have:=h x (hp.mem_iff.2 hx)
     simpa using this
 · rw [← hp.nodup_iff,← hp.length_eq,E8a (Un cs)]
theorem Hva (h:Ro)(A:Option Addr)(n c:Nat)(cs:List Int)(hx:Cc Ex 1 h A n cs)(hn:n≤1000):Res Tryz.prog 43 #[.slice A n c] h (fun u _=>u=.bool (decide (Fw cs))):=by
 refine Bq (args:=[_]) ts_ok Go.Proofs.Tryz.func43 rfl rfl fun w0 X0 => ?_
 have hlen:=hx.len
 have hsl:=Wm cs
 have hcl:=Qw (Jg cs)
 have hco:=Fca cs
 have hcon:=fun h' v (hl:Le h h')=>ValE_row (enc:=Ex) (e:=3) (sz:=1) (v:=v) (xs:=Jg cs) (n:=n) (P:=Tryz.prog) (f:=78) (args:=#[v,.func (.func 79) #[] #[]]) (out:=.bool ((Jg cs).any fun n => !decide (Bel n 192))) (h:=h') (fun _=>rfl) (by rw [hsl,hlen]) (fun A' c' h1 hl e hnc hs=>by
  subst e
  exact Cca h1 A' n c' (Jg cs) hs (by omega) 79 [] [] (fun n => !decide (Bel n 192)) has79 (fun x _=>E7a h1 x))
 have hcom:=fun h' v=>Fn.form (H0a 3 v (Jg cs) n h' (by omega) (by rw [hsl,hlen]))
 have hsor:=fun h' b1 hb1=>Fn.form (Dia h' b1 cs (by omega) hb1)
 have hvs:=fun h' (hl:Le h h') b1 hb1=>valSeqI h' A n c cs (hx.le hl) (by omega) b1 hb1
 rw [hlen] at hsor
 generalize Jg cs=ys at *
 generalize Lib.compact ys=zs at *
 generalize (ys.any fun n => !decide (Bel n 192))=qa at *
 repeat' (first|apply Ac|apply Aa|apply Ab|(apply Aw;exact J;exact J)|(apply Ad;(iterate 3 exact J))|(apply Af;(iterate 3 exact J);(first|(apply Ay;exact J;exact has50;exact Wg _ A n c;rintro v1 h1 hle1 ⟨b1,rfl,hb1⟩;skip)|(apply Bi;exact J;exact has49;exact hsor _ b1 (hvs _ QL b1 hb1);exact QT;rintro v2 E2 h2 hle2 ⟨A2,c2,rfl,rfl⟩;skip)|(apply Fva (Es0:=[_]) (Fs:=[]);exact J;exact J;exact has78;exact hcon _ _ QL;skip)|(apply Bi;exact J;exact has80;exact hcom _ _;exact QT;rintro v3 E3 h3 hle3 ⟨A3,c3,rfl,rfl⟩;skip)))|(apply Ba;exact J;exact J;all_goals (intro hc;try simp only [hcS,reduceCtorEq] at hc;try (exfalso;omega))))
 all_goals first
  | (refine Cb rfl rfl rfl ?_;refine Dg ?_;rw [hco,hlen];simp [*,Hm];done)
  | (refine Cb rfl rfl rfl ?_;refine Dg ?_;rw [hco,hlen];simp [*,Hm];omega)
def FRch (x:List Int) (u:List Value) (h:Ro):Prop:=∃ A,u=[.slice A x.length x.length]∧Cc Ex 1 h A x.length x
theorem chunk_c (h:Ro)(A:Option Addr)(n c:Nat):Res Tryz.prog 81 #[.slice A n c,.int .i64 2] h (fun u h'=>∃ bs bn,u=.func (.func 120) #[] #[.pointer (some ⟨bs,0,none⟩),.pointer (some ⟨bn,0,none⟩)]∧At h' ⟨bs,0,none⟩ [.slice A n c]∧At h' ⟨bn,0,none⟩ [.int .i64 2]):=by
 refine Bq (args:=[_,_]) ts_ok Go.Proofs.Tryz.func81 rfl rfl fun w0 X0 => ?_
 repeat' (first|apply Ac|apply Au|apply Aa|apply Ab|(apply Af;(iterate 3 exact J);apply Ao (e:=34);exact J;intro bs)|(apply Af;(iterate 3 exact J);apply Ao (e:=3);exact J;intro bn)|(apply Ad;(iterate 3 exact J))|(apply Ai;exact J;exact Av rfl QM rfl;exact J;exact J)|(apply Aj;exact J;all_goals (intro hc;try simp only [hcS,reduceCtorEq] at hc;try (exfalso;omega))))
 all_goals (try (exfalso;omega))
 refine Gf (b:=bs) (e:=34) (cs:=[.slice A n c]) QK ?_
 intro h1 hle1 hc1
 refine Gf (b:=bn) (e:=3) (cs:=[.int .i64 2]) QK ?_
 intro h2 hle2 hc2
 (first|(apply Cb;(iterate 3 exact J)))
 exact ⟨bs,bn,rfl,hc1.le hle2,hc2⟩
theorem chunkSeq (h:Ro)(A:Option Addr)(n c:Nat)(l:List Int)(hx:Cc Ex 1 h A n l)(hnc:n≤c)(hn:n≤1000000)(bs bn:Nat)(hbs:At h ⟨bs,0,none⟩ [.slice A n c])(hbn:At h ⟨bn,0,none⟩ [.int .i64 2]):Zg Tryz.prog 120 [.pointer (some ⟨bs,0,none⟩),.pointer (some ⟨bn,0,none⟩)] FRch (Eb l) h:=by
 intro lid I Ix mI mIx hround Es h1 hle h0
 refine Bo (args:=[_,_,_]) ts_ok Go.Proofs.Tryz.func120 rfl rfl fun w0 X0 => ?_
 have hlen:=hx.len
 repeat' (first|apply Ac|apply Ak|apply Aa|apply Ab|(apply Ad;(iterate 3 exact J)))
 refine Lh (X:=Nat×List Asn×Ro) (fun x=>2 * x.1≤n+1∧Le h x.2.2∧I (Eb (l.take (2 * x.1))) x.2.1 x.2.2) (fun x=>n+2-2 * x.1) (fun x=>[(4,.int .i64 ((2 * x.1:Nat):Int)),(0,.func (.yield lid) #[] #[]),(1,.pointer (some ⟨bs,0,none⟩)),(2,.pointer (some ⟨bn,0,none⟩))])
  (fun x=>x.2.1) (fun x=>x.2.2) (0,Es,h1) ⟨by dsimp only;omega,hle,by rw [Nat.mul_zero,List.take_zero];exact h0⟩ QS rfl rfl ?_
 rintro ⟨k,Es1,hk⟩ ⟨hkn,hlk,hI⟩ ih
 dsimp only at hkn hlk hI ih ⊢
 have hd1:=hbs.le hlk
 have hd2:=hbn.le hlk
 by_cases hkn2:2 * k<n
 · have hat:=chunk2_at (l:=l) (j:=k) (by omega)
   have htk:=H3a (l:=l) (j:=k) (by omega)
   obtain ⟨e,he,hen,hel⟩:∃ e:Nat,(e=1∨e=2)∧2 * k+e≤n∧(e:Int)=min 2 ((n-2 * k:Nat):Int):=by
    by_cases q:2 * k+2<n
    · exact ⟨2,.inr rfl,by omega,by omega⟩
    · exact ⟨n-2 * k,by omega,by omega,by omega⟩
   have hmid:=(hx.mid (lo:=2 * k) (hi:=2 * k+e) (mx:=2 * k+e) (by omega) hen (Nat.le_refl _)).le hlk
   rw [show 2 * k+e-2 * k=e by omega] at hmid
   have hte:(l.drop (2 * k)).take e=(l.drop (2 * k)).take 2:=by
    rcases he with e1|e1
    · have:n=2 * k+1:=by omega
      rw [List.take_of_length_le (by rw [List.length_drop];omega),List.take_of_length_le (by rw [List.length_drop];omega)]
    · rw [e1]
   rw [hte] at hmid
   have hml:=hmid.len
   have hyl:∀ A',Cc Ex 1 hk A' e ((l.drop (2 * k)).take 2)→Yl Tryz.prog lid [.slice A' e e] Es1 hk fun v Es' h'=>(v=.bool true∧I (Eb (l.take (2 * k+2))) Es' h')∨(v=.bool false∧Ix (Eb (l.take (2 * k+2))) Es' h'):=fun A' hs=>by
    rw [htk]
    exact hround _ _ _ _ _ _ hat hlk ⟨A',by rw [hml],by rw [hml];exact hs⟩ hI
   have hyl:=hyl _ hmid
   have hyl:Yl Tryz.prog lid [.slice (Nn A (2 * k+e) (2 * k) 1) (2 * k+e-2 * k) (2 * k+e-2 * k)] Es1 hk fun v Es' h'=>(v=.bool true∧I (Eb (l.take (2 * k+2))) Es' h')∨(v=.bool false∧Ix (Eb (l.take (2 * k+2))) Es' h'):=by
    rw [show 2 * k+e-2 * k=e by omega];exact hyl
   have hchunk:Eb l=Eb (l.take (2 * k+2))++Eb (l.drop (2 * k+2)):=by rw [hat,htk,List.append_assoc];rfl
   clear hround hmid hat htk hte hml
   repeat' (first|apply Ac|apply Au|apply Ap|apply Ak|apply Aa|apply Ab|(apply Bg;(iterate 3 exact J);omega;exact J;exact J)|(apply Ad;(iterate 3 exact J))|(apply Bd;exact J;exact J;(first|(apply Ar;exact J;exact Bh rfl hd1 rfl)|(apply OV_slice3 (lo:=2 * k) (hi:=2 * k+e) (mx:=2 * k+e) (n:=n) (c:=c);(iterate 8 exact J);omega;omega;omega;omega;omega)|(apply Ar;exact J;exact Bh rfl (hd2.le QL) rfl));exact QA)|(apply Af;(iterate 3 exact J);(first|(refine Ho (Fs:=Es1++[]) (by rw [List.append_nil]) ?_;apply Iv (Es0:=Es1) (Fs:=[]);(iterate 3 exact J);exact hyl;rintro v E2 h2 hle2 (⟨rfl,hP⟩|⟨rfl,hP⟩);all_goals skip)))|(apply Bf (n:=3) [0,1,2,3,4,5,6] [(0,0),(1,0),(2,0),(3,0),(4,0),(5,0),(6,0)];kernel_rfl)|(apply Ce;exact J;kernel_rfl;(iterate 3 exact J))|(apply De;exact J;kernel_rfl;exact J;exact J;(first|(apply Ar;exact J;exact Bh rfl hd1 rfl)|(apply Ar;exact J;exact Bh rfl hd2 rfl)|(apply Iw (lo:=2 * k) (n:=n) (c:=c);(iterate 6 exact J);omega));exact QA)|(apply Bm;kernel_rfl;exact J)|(apply Aj;exact J;all_goals (intro hc;try simp only [hcS,reduceCtorEq] at hc;try (exfalso;omega))))
   all_goals first
    | (exfalso;omega)
    | (have h3:=ih (k+1,E2,h2) ⟨by show 2 * (k+1)≤n+1;omega,hlk.trans hle2,hP⟩ (by show n+2-2 * (k+1)<n+2-2 * k;omega)
       dsimp only at h3
       rw [show ((2 * (k+1):Nat):Int)=((2 * k:Nat):Int)+2 by omega] at h3
       refine Iy (Fs:=E2) (by rw [List.append_nil]) ?_
       exact Hg QS h3)
    | (refine Iy (Fs:=E2) (by rw [List.append_nil]) ?_
       exact Lu (rs:=[]) (vs:=[]) (Fs:=E2) rfl rfl trivial (List.Sublist.refl _) (.inr ⟨Eb (l.take (2 * k+2)),Eb (l.drop (2 * k+2)),hchunk,hP⟩))
 · rw [List.take_of_length_le (by omega)] at hI
   clear ih hround
   repeat' (first|apply Ac|apply Aa|apply Ab|(apply Bn;exact J)|(apply Ad;(iterate 3 exact J))|(apply Bd;exact J;exact J;(first|(apply Ar;exact J;exact Bh rfl hd1 rfl));exact QA)|(apply Aj;exact J;all_goals (intro hc;try simp only [hcS,reduceCtorEq] at hc;try (exfalso;omega))))
   all_goals first
    | (exfalso;omega)
    | (exact Fe (rs:=[]) (vs:=[]) rfl rfl trivial (.inl hI))
theorem meet_c (h:Ro)(a b:Int):Val Tryz.prog 45 #[.int .i64 a,.int .i64 b] h (Yc Ja ⟨a,b,[]⟩):=by
 refine Az (args:=[_,_]) ts_ok Go.Proofs.Tryz.func45 rfl rfl fun w0 X0 => ?_
 repeat' (first|apply Ac|apply Aa|apply Ab|(apply Ad;(iterate 3 exact J))|(apply Af;(iterate 3 exact J);(first|(apply Ah;(iterate 3 exact J);exact QR;(iterate 3 exact J);skip)|(apply Ag;exact J;intro b;skip)))|(apply Ih;(iterate 3 exact J);exact QM;exact J;exact J))
 all_goals rfl
def RdOut (h:Ro) (u:Value) (l:List Bp):Prop:=∃ r:RdS,u=.slice r.1.A r.1.n r.1.c∧Iha h r∧Ch r.2=l
def Hua (l:List Bp):List DuS:=l.map fun d=>(Ja,d)
theorem Mpa (l:List Bp):Ch (Hua l)=l:=by unfold Ch Hua;rw [List.map_map];simp [Function.comp_def]
theorem J9a (l:List Bp):(Hua l).length=l.length:=by unfold Hua;exact List.length_map _
theorem dus0_app (l r:List Bp):Hua (l++r)=Hua l++Hua r:=by unfold Hua;exact List.map_append
theorem dus0_at {h:Ro}{A:Option Addr}{n:Nat}{l:List Bp}(hl:∀ d∈l,d.ls=[])(hs:Cc Hb 3 h A n (Hua l)):Nfa h A n (Hua l):=⟨hs,fun p hp=>by
 obtain ⟨d,hd,rfl⟩:=List.mem_map.1 hp
 refine ⟨?_,Nat.le_refl _⟩
 rw [show (Ja,d).2.ls=[] from hl d hd]
 exact Cc.nil⟩
theorem pair_c (h:Ro)(A:Option Addr)(n c:Nat)(l:List Int)(hx:Cc Ex 1 h A n l)(hnc:n≤c)(hn:n≤1000000):Res Tryz.prog 44 #[.slice A n c,.func (.func 45) #[] #[]] h (fun u h'=>RdOut h' u (Hj l)):=by
 refine Bq (args:=[_,_]) ts_ok Go.Proofs.Tryz.func44 rfl rfl fun w0 X0 => ?_
 have hlen:=hx.len
 have hck:=chunk_c h A n c
 have hsq:=fun h' (hl:Le h h') bs bn hbs hbn=>chunkSeq h' A n c l (hx.le hl) hnc hn bs bn hbs hbn
 refine Eh 62 3 ?_
 repeat' (first|apply Ac|apply Ak|apply Aa|apply Ab|(apply Af;(iterate 3 exact J);apply Ao (e:=115);exact J;intro bJ)|(apply Af;(iterate 3 exact J);apply Ag (e:=59);exact J;intro bO)|(apply Ad;(iterate 3 exact J))|(apply Af;(iterate 3 exact J);(first|(apply Ay;exact J;exact has81;exact hck;rintro v2 h2 hle2 ⟨bs,bn,rfl,hbs,hbn⟩;skip))))
 have hsq2:=hsq h2 QL bs bn hbs hbn
 have hcm:∀ x∈Eb l,x.length=1∨x.length=2:=fun x hx=>Ata hx
 have hcn:=Uu l
 have hjc:=Xi l
 generalize Eb l=xs at *
 clear hsq hck
 refine Cs (Es':=[Blk bO 59 [.slice none 0 0],Blk bJ 115 [.func (.func 45) #[] #[]],By 62 3 (.slice none 0 0) 0 []]) QT ?_
 refine Gg (R:=FRch) (xs:=xs) (gf:=120) (lb:=[.pointer (some ⟨bs,0,none⟩),.pointer (some ⟨bn,0,none⟩)]) rfl rfl has120 hsq2 (by rintro x u h2 ⟨A7,rfl,_⟩;rfl) rfl
  (fun pre Es h2=>∃ (A:Option Addr) (c:Nat),Es=[Blk bO 59 [.slice A (Of pre).length c],Blk bJ 115 [.func (.func 45) #[] #[]],By 62 3 (.slice A (Of pre).length c) (Of pre).length ((Hua (Of pre)).flatMap Hb)]) (fun _ _ _ _=>False)
  (fun pre Es h2 h3 hl e=>e) (fun _ _ _ _ _ _ h=>h.elim) ⟨none,0,rfl⟩ ?_ ?_ (fun _ _ _ _ _ _ _ _ h=>h.elim)
 · rintro lid r0 w1 X1 pre x post u Es1 h1 hxe ⟨A7,rfl,hs7⟩ ⟨A,c,rfl⟩ hle hst
   have hpl:pre.length+1≤xs.length:=by rw [hxe];simp
   have hjl:=Eqa pre
   have hxm:=hcm x (by rw [hxe];simp)
   have hjs:=L9a pre x
   have hdl:=J9a (Of pre)
   match x,hxm with
   | [a],_ =>
     rw [show Xj [a]=[] from rfl,List.append_nil] at hjs
     repeat' (first|apply Ac|apply Au|apply Ap|apply Ak|apply Aa|apply Ab|(apply Jf;exact J;exact QK;exact hst)|(apply Ad;(iterate 3 exact J))|(apply Bf (n:=4) [0,1,2,3,4,5,6,7,8,9,10,11] [(0,0),(1,0),(2,0),(3,0),(4,0),(5,0),(6,0),(7,0),(8,1),(9,1),(10,1),(11,1)];kernel_rfl)|(apply Ce;exact J;kernel_rfl;(iterate 3 exact J))|(apply Bj;exact J;kernel_rfl;(iterate 3 exact J);exact QM;exact J;exact J)|(apply Aj;exact J;all_goals (intro hc;try simp only [hcS,reduceCtorEq] at hc;try (exfalso;omega))))
     all_goals (try (exfalso;simp at hc;done))
     all_goals
      refine Nj (r0:=r0) rfl .here ⟨A,c,?_⟩
      rw [hjs]
   | [a,b],_ =>
     rw [show Xj [a,b]=[⟨a,b,[]⟩] from rfl] at hjs
     have a1:=hs7.addrD (show 0<[a,b].length by simp)
     have c1:=hs7.cellsD 0 (show 0<[a,b].length by simp)
     have c2:=hs7.cellsD 0 (show 1<[a,b].length by simp)
     have hme:=meet_c h1 a b
     rw [show ([a,b]:List Int).getD 0 0=a from rfl] at c1
     rw [show ([a,b]:List Int).getD 1 0=b from rfl] at c2
     repeat' (first|apply Ac|apply Au|apply Ap|apply Ak|apply Aa|apply Ab|(apply Jf;exact J;exact QK;exact hst)|(apply Ad;(iterate 3 exact J))|(apply Bf (n:=4) [0,1,2,3,4,5,6,7,8,9,10,11] [(0,0),(1,0),(2,0),(3,0),(4,0),(5,0),(6,0),(7,0),(8,1),(9,1),(10,1),(11,1)];kernel_rfl)|(apply Ce;exact J;kernel_rfl;(iterate 3 exact J))|(apply Bj;exact J;kernel_rfl;(iterate 3 exact J);exact QM;exact J;exact J)|(apply De;exact J;kernel_rfl;exact J;exact J;(first|(apply Be (j:=0) (n:=2);(iterate 5 exact J);exact a1;omega;omega)|(apply Be (j:=1) (n:=2);(iterate 5 exact J);exact a1;omega;omega)|(apply Ar;exact J;exact Bh rfl (c1.le QL) rfl)|(apply Ar;exact J;exact Bh rfl (c2.le QL) rfl));exact QA)|(apply Br;exact J;kernel_rfl;(iterate 3 exact J);(first|(apply Ah;(iterate 3 exact J);exact QR;(iterate 3 exact J);refine ⟨Le.refl _,QN,?_⟩)|(apply Cd (f:=45) (fs:=[]) (cs:=[]);exact J;exact J;exact has45;exact meet_c _ a b;refine ⟨Le.refl _,QN,?_⟩)|(apply Bc (enc:=Hb) (n:=1) [(Ja,⟨a,b,[]⟩)];(iterate 3 exact J);exact List.cons_ne_nil _ _;(iterate 4 exact J);exact fun _=>rfl;exact J;exact J;intro b5 h5 hle5 hs5;refine ⟨hle5,QN,?_⟩)|(apply Bk (enc:=Hb) (xs:=Hua (Of pre));(iterate 7 exact J);exact hs5;exact Jk;exact E6a;intro v1;exact QR;omega;exact J;intro A3 c3;refine ⟨Le.refl _,QN,?_⟩)))|(apply Bm;kernel_rfl;exact J)|(apply Aj;exact J;all_goals (intro hc;try simp only [hcS,reduceCtorEq] at hc;try (exfalso;omega))))
     all_goals (try (exfalso;simp at hc;done))
     all_goals
      refine Cs (Es':=[Ic lid { r0 with state:=.busy },Blk bO 59 [.slice A3 ((Of pre).length+1) c3],Blk bJ 115 [.func (.func 45) #[] #[]],By 62 3 (.slice A3 ((Of pre).length+1) c3) ((Of pre).length+1) ((Hua (Of pre)++[((Ja,(⟨a,b,[]⟩:Bp)):DuS)]).flatMap Hb)]) QT (Nj (r0:=r0) rfl .here ⟨A3,c3,?_⟩)
      rw [hjs,List.length_append,dus0_app];rfl
 · rintro D h1 Es1 hle ⟨A,c,rfl⟩
   rw [hjc]
   repeat' (first|apply Ac|apply Ap|apply Aa|apply Ab|(apply Ai;exact J;exact Av rfl QM rfl;exact J;exact J)|(apply Af;(iterate 3 exact J);(first|(apply Ah;(iterate 3 exact J);exact QR;(iterate 3 exact J);skip))))
   all_goals
    refine Ge (enc:=Hb) (e:=62) (sz:=3) (n:=(Hj l).length) (xs:=Hua (Hj l)) Jk (J9a _) QK ?_
    intro A9 c9 h9 hle9 e9 hnc9 hs9
    cases e9
    refine Cxa (Nf rfl QK (Rt_S (rs:=[.cell 4 59]) (vs:=[.slice A (Hj l).length c]) rfl rfl ⟨⟨_,rfl,Av rfl QM rfl⟩,trivial⟩ (List.nil_sublist _) ⟨rfl,⟨⟨A,(Hj l).length,c⟩,Hua (Hj l)⟩,rfl,⟨dus0_at (Pc l) hs9,hnc9⟩,Mpa _⟩))
def bits7 (n:Nat):Int:=(((List.range 8).filter fun i=>n.testBit i).length:Nat)
theorem bits7_pow:∀ n:Nat,n<129→2≤n→(bits7 n=1↔Ls n):=by decide +kernel
theorem Rg (q:Int):0≤IntKind.u64.wrap q∧IntKind.u64.wrap q<18446744073709551616:=by
 rw [wrap_mod];omega
theorem Uh {C:Ctx}{l:Sl}{h:Ro}{ty:TypeId}{pos:String}{aft:Array Edge}{gd:Option (Nat×Bool)}{dst:Option Tmp}{t ty':TypeId}{x y:Operand}{k:IntKind}{i p:Int}{n:Nat}(hx:evl l x=some (.int .u64 p))(hy:evl l y=some (.int k i))(hi:i=(n:Int))(hp:0≤p∧p<18446744073709551616) :
  OV C l [] h ⟨dst,.binOp .shr t x y ty',ty,pos,aft,gd⟩ (.int .u64 ((p.toNat >>> n:Nat):Int)):=by
 have e:(((BitVec.ofNat 64 p.toNat).toNat:Nat):Int)=p:=by rw [BitVec.toNat_ofNat,Nat.mod_eq_of_lt (by omega)];omega
 have h1:=OV_shr64 (C:=C) (l:=l) (h:=h) (ty:=ty) (pos:=pos) (aft:=aft) (gd:=gd) (dst:=dst) (t:=t) (ty':=ty') (x:=x) (y:=y) (a:=BitVec.ofNat 64 p.toNat) (by rw [hx];show some (Value.int .u64 p)=some (.int .u64 (((BitVec.ofNat 64 p.toNat).toNat:Nat):Int));rw [e]) hy hi
 have e2:(BitVec.ofNat 64 p.toNat >>> n).toNat=p.toNat >>> n:=by rw [BitVec.toNat_ushiftRight,BitVec.toNat_ofNat,Nat.mod_eq_of_lt (by omega)]
 have h3:OV C l [] h ⟨dst,.binOp .shr t x y ty',ty,pos,aft,gd⟩ (.int .u64 (((BitVec.ofNat 64 p.toNat >>> n).toNat:Nat):Int)):=h1
 rw [e2] at h3
 exact h3
theorem ones64_c (h:Ro)(n:Nat)(hn:n<129):Val Tryz.prog 77 #[.int .u64 (n:Int)] h (.int .i64 (bits7 n)):=by
 refine Az (args:=[_]) ts_ok Go.Proofs.Tryz.func77 rfl rfl fun w0 X0 => ?_
 repeat' (first|apply Ac|apply Aa|apply Ab|(apply Bd;exact J;exact J;(first|(apply Uh (n:=1);(iterate 3 exact J);(constructor <;> omega))|(apply Uh (n:=2);(iterate 3 exact J);exact Rg _)|(apply Uh (n:=4);(iterate 3 exact J);exact Rg _)|(apply Uh (n:=8);(iterate 3 exact J);exact Rg _)|(apply Uh (n:=16);(iterate 3 exact J);exact Rg _)|(apply Uh (n:=32);(iterate 3 exact J);exact Rg _));exact QA)|(apply Ad;(iterate 3 exact J)))
 all_goals first
  | (refine Bb rfl rfl rfl ?_;congr 1;clear h w0 X0;revert hn;revert n;decide +kernel)
theorem ones_c (h:Ro)(n:Nat)(hn:n<129):Val Tryz.prog 42 #[.int .u64 (n:Int)] h (.int .i64 (bits7 n)):=by
 refine Az (args:=[_]) ts_ok Go.Proofs.Tryz.func42 rfl rfl fun w0 X0 => ?_
 have hv:=ones64_c h n hn
 repeat' (first|apply Ac|apply Au|apply Aa|apply Ab|(apply Ad;(iterate 3 exact J))|(apply Af;(iterate 3 exact J);(first|(apply Aq;exact J;exact has77;exact hv;skip)))|(apply Aj;exact J;all_goals (intro hc;try simp only [hcS,reduceCtorEq] at hc;try (exfalso;omega)))|(apply Bb;(iterate 3 exact J)))
 all_goals rfl
end Go.Hw
namespace Go.Hw
open Go
attribute [local irreducible] GO GOl GDp Val Fn Res At Fx Blk By Dk Cl Has Yl
open Go.Proofs (Tryz.prog)
theorem newB_tie {cs:List Int}{t:Dh}(h:¬ Ik t):Ob cs t=(br0,210):=by unfold Ob;rw [if_neg h]
theorem Boa {cs:List Int}{t:Dh}(h:Ik t)(k:¬ (Ls cs.length∧Fw cs)):Ob cs t=(br0,190):=by unfold Ob;rw [if_pos h,if_neg k]
theorem newB_good {cs:List Int}{t:Dh}(h:Ik t)(k:Ls cs.length∧Fw cs):Ob cs t=(⟨t,[Hj cs]⟩,0):=by unfold Ob;rw [if_pos h,if_pos k]
theorem Ev (h:Ro)(e:Int):Yv h (.tuple #[brV Ja tie0,.int .i64 e]) br0 e:=⟨Ja,[],rfl,C2a.zero h⟩
theorem brOut_one {h:Ro}{b:Nat}{r:RdS}{t:Dh}{l:List Bp}(hs:Cc Jz 1 h (some ⟨b,0,none⟩) 1 [r])(hr:Iha h r)(hd:Ch r.2=l):Yv h (.tuple #[brV ⟨some ⟨b,0,none⟩,1,1⟩ t,.int .i64 0]) ⟨t,[l]⟩ 0 :=
 ⟨⟨some ⟨b,0,none⟩,1,1⟩,[r],rfl,⟨⟨hs,fun q hq=>by rw [List.mem_singleton] at hq;rw [hq];exact hr⟩,by unfold rounds;rw [List.map_cons,List.map_nil,hd],Nat.le_refl _⟩⟩
theorem new_c (h:Ro)(A:Option Addr)(n c:Nat)(cs:List Int)(t:Dh)(hx:Cc Ex 1 h A n cs)(hnc:n≤c):Res Tryz.prog 13 #[.slice A n c,Gca t] h (fun u h'=>Yv h' u (Ob cs t).1 (Ob cs t).2):=by
 refine Bq (args:=[_,_]) ts_ok Go.Proofs.Tryz.func13 rfl rfl fun w0 X0 => ?_
 have hlen:=hx.len
 have hr:=Og h t
 by_cases hT:Ik t
 · rw [decide_eq_true hT] at hr
   by_cases hsz:2≤n∧n≤128
   · obtain ⟨hz1,hz2⟩:=hsz
     have hon:=fun h'=>ones_c h' n (by omega)
     have hbp:=bits7_pow n (by omega) hz1
     have hdi:=fun h' (hl:Le h h')=>Hva h' A n c cs (hx.le hl) (by omega)
     have hpa:=fun h' (hl:Le h h')=>pair_c h' A n c cs (hx.le hl) hnc (by omega)
     generalize bits7 n=q at *
     by_cases hp:Ls n
     · have hq1:=hbp.2 hp
       by_cases hcl:Fw cs
       · rw [newB_good hT ⟨by rw [hlen];exact hp,hcl⟩]
         simp only [decide_eq_true hcl] at hdi
         dsimp only
         clear hbp hp hcl hx
         repeat' (first|apply Ac|apply Au|apply Ap|apply Ak|apply Aa|apply Ab|(apply Af;(iterate 3 exact J);apply Ao (e:=24);exact J;intro b3)|(apply Af;(iterate 3 exact J);apply Ag (e:=30);exact J;intro b4)|(apply Bd;exact J;exact J;(first|(apply Csa;(iterate 4 exact J);exact Tb (by omega)));exact QA)|(apply Ad;(iterate 3 exact J))|(apply Ai;exact J;exact Av rfl QM rfl;exact J;exact J)|(apply Af;(iterate 3 exact J);(first|(apply Aq;exact J;exact Pw;exact hr;skip)|(apply Aq;exact J;exact has42;exact hon _;skip)|(apply Ay;exact J;exact has43;exact hdi _ QL;rintro v2 h2 hle2 rfl;skip)))|(apply Bf (n:=6) [0,1,2,3,4,5,6] [(0,0),(1,0),(2,1),(3,1),(4,0),(5,1),(6,0)];kernel_rfl)|(apply Ce;exact J;kernel_rfl;(iterate 3 exact J))|(apply Bj;exact J;kernel_rfl;(iterate 3 exact J);exact QM;exact J;exact J)|(apply Br;exact J;kernel_rfl;(iterate 3 exact J);(first|(apply Ah;(iterate 3 exact J);exact QR;(iterate 3 exact J);refine ⟨Le.refl _,QN,?_⟩)|(apply Ay;exact J;exact has44;exact hpa _ QL;rintro v3 h3 hle3 ⟨r,rfl,hr3,hd3⟩;refine ⟨hle3,QN,?_⟩)|(apply Bc (enc:=Jz) (n:=1) [r];(iterate 3 exact J);exact List.cons_ne_nil _ _;(iterate 4 exact J);exact fun _=>rfl;exact J;exact J;intro b5 h5 hle5 hs5;refine ⟨hle5,QN,?_⟩)))|(apply Bm;kernel_rfl;exact J)|(apply Aj;exact J;all_goals (intro hc;try simp only [hcS,reduceCtorEq] at hc;try (exfalso;omega)))|(apply Ba;exact J;exact J;all_goals (intro hc;try simp only [hcS,reduceCtorEq] at hc;try (exfalso;omega))))
         all_goals first
          | (exfalso;simp at hc;done)
          | (exfalso;omega)
          | (exact Ck rfl rfl rfl QM rfl rfl rfl (brOut_one hs5 (hr3.le hle5) hd3))
       · rw [Boa hT (fun k=>hcl k.2)]
         simp only [decide_eq_false hcl] at hdi
         dsimp only
         clear hbp hp hcl hx hpa
         repeat' (first|apply Ac|apply Ak|apply Aa|apply Ab|(apply Af;(iterate 3 exact J);apply Ao (e:=24);exact J;intro b3)|(apply Af;(iterate 3 exact J);apply Ag (e:=30);exact J;intro b4)|(apply Bd;exact J;exact J;(first|(apply Csa;(iterate 4 exact J);exact Tb (by omega)));exact QA)|(apply Ad;(iterate 3 exact J))|(apply Ai;exact J;exact Av rfl QM rfl;exact J;exact J)|(apply Af;(iterate 3 exact J);(first|(apply Ah;(iterate 3 exact J);exact QR;(iterate 3 exact J);skip)|(apply Aq;exact J;exact Pw;exact hr;skip)|(apply Aq;exact J;exact has42;exact hon _;skip)|(apply Ay;exact J;exact has43;exact hdi _ QL;rintro v2 h2 hle2 rfl;skip)))|(apply Aj;exact J;all_goals (intro hc;try simp only [hcS,reduceCtorEq] at hc;try (exfalso;omega)))|(apply Ba;exact J;exact J;all_goals (intro hc;try simp only [hcS,reduceCtorEq] at hc;try (exfalso;omega))))
         all_goals first
          | (exfalso;simp at hc;done)
          | (exfalso;omega)
          | (exact Ck rfl rfl rfl QM rfl rfl rfl (Ev _ _))
     · have hq1:=fun k=>hp (hbp.1 k)
       rw [Boa hT (fun k=>hp (hlen ▸ k.1))]
       dsimp only
       clear hbp hp hx hpa hdi
       repeat' (first|apply Ac|apply Ak|apply Aa|apply Ab|(apply Af;(iterate 3 exact J);apply Ao (e:=24);exact J;intro b3)|(apply Af;(iterate 3 exact J);apply Ag (e:=30);exact J;intro b4)|(apply Bd;exact J;exact J;(first|(apply Csa;(iterate 4 exact J);exact Tb (by omega)));exact QA)|(apply Aw;exact J;exact J)|(apply Ad;(iterate 3 exact J))|(apply Ai;exact J;exact Av rfl QM rfl;exact J;exact J)|(apply Af;(iterate 3 exact J);(first|(apply Ah;(iterate 3 exact J);exact QR;(iterate 3 exact J);skip)|(apply Aq;exact J;exact Pw;exact hr;skip)|(apply Aq;exact J;exact has42;exact hon _;skip)|(exfalso;exact hq1 (by assumption))))|(apply Aj;exact J;all_goals (intro hc;try simp only [hcS,reduceCtorEq] at hc;try (exfalso;omega)))|(apply Ba;exact J;exact J;all_goals (intro hc;try simp only [hcS,reduceCtorEq] at hc;try (exfalso;omega))))
       all_goals first
        | (exfalso;simp at hc;done)
        | (exfalso;omega)
        | (exfalso;exact hq1 (by assumption))
        | (exact Ck rfl rfl rfl QM rfl rfl rfl (Ev _ _))
   · rw [Boa hT (fun k=>by have:=k.1;unfold Ls at this;omega)]
     dsimp only
     repeat' (first|apply Ac|apply Ak|apply Aa|apply Ab|(apply Af;(iterate 3 exact J);apply Ao (e:=24);exact J;intro b3)|(apply Af;(iterate 3 exact J);apply Ag (e:=30);exact J;intro b4)|(apply Aw;exact J;exact J)|(apply Ad;(iterate 3 exact J))|(apply Ai;exact J;exact Av rfl QM rfl;exact J;exact J)|(apply Af;(iterate 3 exact J);(first|(apply Ah;(iterate 3 exact J);exact QR;(iterate 3 exact J);skip)|(apply Aq;exact J;exact Pw;exact hr;skip)))|(apply Aj;exact J;all_goals (intro hc;try simp only [hcS,reduceCtorEq] at hc;try (exfalso;omega)))|(apply Ba;exact J;exact J;all_goals (intro hc;try simp only [hcS,reduceCtorEq] at hc;try (exfalso;omega))))
     all_goals first
      | (exfalso;simp at hc;done)
      | (exfalso;omega)
      | (exact Ck rfl rfl rfl QM rfl rfl rfl (Ev _ _))
 · rw [decide_eq_false hT] at hr
   rw [newB_tie hT]
   dsimp only
   repeat' (first|apply Ac|apply Ak|apply Aa|apply Ab|(apply Af;(iterate 3 exact J);apply Ao (e:=24);exact J;intro b3)|(apply Af;(iterate 3 exact J);apply Ag (e:=30);exact J;intro b4)|(apply Ad;(iterate 3 exact J))|(apply Ai;exact J;exact Av rfl QM rfl;exact J;exact J)|(apply Af;(iterate 3 exact J);(first|(apply Ah;(iterate 3 exact J);exact QR;(iterate 3 exact J);skip)|(apply Aq;exact J;exact Pw;exact hr;skip)))|(apply Aj;exact J;all_goals (intro hc;try simp only [hcS,reduceCtorEq] at hc;try (exfalso;omega))))
   all_goals first
    | (exfalso;simp at hc;done)
    | (exfalso;omega)
    | (exact Ck rfl rfl rfl QM rfl rfl rfl (Ev _ _))
end Go.Hw
namespace Go.Hw
open Go
attribute [local irreducible] GO GOl GDp Val Fn Res At Fx Blk By Dk Cl Has Yl
open Go.Proofs (Tryz.prog)
theorem nextR_eq {l:List Bp}{t:Dh}{cs:List Int}(h:Im l t=some cs):Gb l t=if 2≤cs.length then some (Hj cs) else none:=by unfold Gb;rw [h]
theorem nextR_no {l:List Bp}{t:Dh}(h:Im l t=none):Gb l t=none:=by unfold Gb;rw [h]
theorem J2a (h:Ro)(A:Option Addr)(n c:Nat)(l:List DuS)(t:Dh)(hx:Nfa h A n l)(hn:n≤128)(hg:∀ p∈l,DuG h p.1 p.2) :
  Res Tryz.prog 40 #[.slice A n c,Gca t] h (fun u h'=>∃ r:RdS,u=.tuple #[.slice r.1.A r.1.n r.1.c,.bool (Gb (Ch l) t).isSome]∧Iha h' r∧∀ m,Gb (Ch l) t=some m→Ch r.2=m):=by
 refine Bq (args:=[_,_]) ts_ok Go.Proofs.Tryz.func40 rfl rfl fun w0 X0 => ?_
 have hlen:=hx.row.len
 have hrow:=hx.row
 refine Eh 3 1 ?_
 repeat' (first|apply Ac|apply Ak|apply Aa|apply Ab|(apply Af;(iterate 3 exact J);apply Ao (e:=24);exact J;intro b3)|(apply Ad;(iterate 3 exact J)))
 refine Bt (X:=Nat×List Int×Option Addr×Nat×Ro) (fun x=>x.1≤n∧Le h x.2.2.2.2∧Im (Ch (l.take x.1)) t=some x.2.1) (fun x=>n-x.1)
  (fun x=>[(13,.int .i64 x.1),(12,.int .i64 n),(11,.slice A n c),(6,.slice x.2.2.1 x.1 x.2.2.2.1),(3,Rf b3)])
  (fun x=>[Blk b3 24 (tieC t),By 3 1 (.slice x.2.2.1 x.1 x.2.2.2.1) x.1 (x.2.1.flatMap Ex)]) (fun x=>x.2.2.2.2) (0,[],none,0,h) ⟨by dsimp only;omega,Le.refl _,rfl⟩ QS QT rfl ?_
 rintro ⟨k,cs,A1,c1,h1⟩ ⟨hk,hle,hw⟩ ih
 dsimp only at hk hle hw ih ⊢
 have hwl:=Rh hw
 rw [Em,List.length_take] at hwl
 by_cases hkn:k<n
 · have a1:=hrow.addrD hkn
   have c7:At h1 ((addrD A).add (k * Lea.size)) (Hb (l.getD k du0)):=(hrow.cellsD du0 hkn).le hle
   have et:=Fq du0 (xs:=l) hlen hkn
   have hm:=mem7 du0 (show k<l.length by omega)
   generalize l.getD k du0=p at *
   have hgp:=(hg p hm).le hle
   have hwi:=Ri h1 p.1 p.2 t hgp
   obtain ⟨ps,pd⟩:=p
   dsimp only at hgp hwi
   have hsn:Ch (l.take (k+1))=Ch (l.take k)++[pd]:=by rw [et,Pj]
   have hws:=Zi (t:=t) pd (Ch (l.take k))
   rw [hw,← hsn] at hws
   have hmd:pd∈Ch l:=List.mem_map.2 ⟨(ps,pd),hm,rfl⟩
   cases hwd:Ke pd t with
   | none =>
     have hno:Gb (Ch l) t=none:=nextR_no (K8a hmd hwd)
     obtain ⟨q,hq⟩:=Ly hwd
     rw [hq] at hwi
     clear ih hws hq
     repeat' (first|apply Ac|apply Au|apply Ak|apply Aa|apply Ab|(apply Af;(iterate 3 exact J);apply Ag (e:=62);exact J;intro bX)|(apply Ad;(iterate 3 exact J))|(apply Ai;exact J;exact Av rfl QM rfl;exact J;exact J)|(apply Bd;exact J;exact J;(first|(apply Be (j:=k);(iterate 5 exact J);exact a1;(with_reducible exact J);omega)|(apply Ar;exact J;exact Bh rfl c7 rfl));exact QA)|(apply Af;(iterate 3 exact J);(first|(apply Ah;(iterate 3 exact J);exact QR;(iterate 3 exact J);skip)|(apply Ay;exact J;exact Xn;exact hwi;rintro v2 h2 hle2 rfl;skip)))|(apply Aj;exact J;all_goals (intro hc;try simp only [hcS,reduceCtorEq] at hc;try (exfalso;omega))))
     all_goals first
      | (exfalso;simp at hc;done)
      | (refine Df rfl rfl rfl rfl ⟨(Ja,[]),by rw [hno];rfl,⟨⟨Cc.nil,fun p hp=>absurd hp (by simp)⟩,Nat.le_refl _⟩,fun m e=>by rw [hno] at e;cases e⟩)
   | some w =>
     rw [Nw hwd] at hwi
     rw [hwd] at hws
     dsimp only at hws
     repeat' (first|apply Ac|apply Au|apply Ap|apply Ak|apply Aa|apply Ab|(apply Af;(iterate 3 exact J);apply Ag (e:=62);exact J;intro bX)|(apply Bg;(iterate 3 exact J);omega;exact J;exact J)|(apply Ad;(iterate 3 exact J))|(apply Ai;exact J;exact Av rfl QM rfl;exact J;exact J)|(apply Bd;exact J;exact J;(first|(apply Be (j:=k);(iterate 5 exact J);exact a1;(with_reducible exact J);omega)|(apply Ar;exact J;exact Bh rfl c7 rfl));exact QA)|(apply Af;(iterate 3 exact J);(first|(apply Ah;(iterate 3 exact J);exact QR;(iterate 3 exact J);skip)|(apply Ay;exact J;exact Xn;exact hwi;rintro v2 h2 hle2 rfl;skip)|(apply Bc (enc:=Ex) (n:=1) [w];(iterate 3 exact J);exact List.cons_ne_nil _ _;(iterate 4 exact J);exact fun _=>rfl;exact J;exact J;intro b5 h5 hle5 hs5;skip)|(apply Bk (enc:=Ex) (xs:=cs);(iterate 7 exact J);exact hs5;exact fun _=>rfl;exact fun x=>Ci rfl;intro v1;exact QR;omega;exact J;intro A5 c5;skip)))|(apply Aj;exact J;all_goals (intro hc;try simp only [hcS,reduceCtorEq] at hc;try (exfalso;omega))))
     all_goals first
      | (exfalso;simp at hc;done)
      | (have h3:=ih (k+1,cs++[w],A5,c5,h5) ⟨by dsimp only;omega,hle.trans (hle2.trans hle5),hws⟩ (by dsimp only;omega)
         refine Bw QS QT (h3))
 · rw [List.take_of_length_le (by omega)] at hw
   have ek:k=n:=by omega
   subst ek
   clear ih
   have hcl:cs.length=k:=by omega
   have hne:=nextR_eq hw
   refine Ge (enc:=Ex) (e:=3) (sz:=1) (n:=k) (xs:=cs) (fun _=>rfl) hcl QK ?_
   intro A7 c7 h7 hle7 e7 hnc7 hs7
   cases e7
   have hpa:=fun h' (hl:Le h7 h')=>pair_c h' A1 k c1 cs (hs7.le hl) hnc7 (by omega)
   by_cases hk2:2≤cs.length
   · rw [if_pos hk2] at hne
     rw [hne]
     repeat' (first|apply Ac|apply Aa|apply Ab|(apply Bn;exact J)|(apply Ad;(iterate 3 exact J))|(apply Af;(iterate 3 exact J);(first|(apply Ay;exact J;exact has44;exact hpa _ QL;rintro v2 h2 hle2 ⟨r,rfl,hr,hrd⟩;skip)))|(apply Aj;exact J;all_goals (intro hc;try simp only [hcS,reduceCtorEq] at hc;try (exfalso;omega))))
     all_goals first
      | (exfalso;omega)
      | (refine Df rfl rfl rfl rfl ⟨r,?_,hr,fun m e=>by cases e;exact hrd⟩;rw [(Bra _ _).mpr (by omega)];rfl)
   · rw [if_neg hk2] at hne
     rw [hne]
     repeat' (first|apply Ac|apply Aa|apply Ab|(apply Bn;exact J)|(apply Ad;(iterate 3 exact J))|(apply Af;(iterate 3 exact J);(first|(apply Ay;exact J;exact has44;exact hpa _ QL;rintro v2 h2 hle2 ⟨r,rfl,hr,hrd⟩;skip)))|(apply Aj;exact J;all_goals (intro hc;try simp only [hcS,reduceCtorEq] at hc;try (exfalso;omega))))
     all_goals first
      | (exfalso;omega)
      | (refine Df rfl rfl rfl rfl ⟨r,?_,hr,fun m e=>by cases e⟩;rw [(leI_f _ _).mpr (by omega)];rfl)
end Go.Hw
