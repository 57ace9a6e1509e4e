import Derived.Test.YtphlhpbmkejbaaaGreatDoorHB
import Derived.Lib.FrozenHead
import Derived.Lib.ConvBytes
import Derived.Lib.UnsafeStr
import Derived.Lib.BufferRead
import Derived.Lib.ItoaNum
import Derived.Lib.ItoaMem
import Derived.Lib.LaidTab
import Derived.Laws.Externs
import Derived.Lib.Bytealg
set_option linter.unusedVariables false
set_option linter.unusedSimpArgs false
set_option linter.unusedVariables false
namespace Go.Hw
open Go
def SeqR {α : Type} (P : Program) (g : FuncId) (lb : List Value) (R : α → List Value → Ro → Prop) (xs : List α) (h : Ro) : Prop :=
  ∀ (lid : Nat) (I Ix : List α → List Asn → Ro → Prop),(∀ pre Es h1 h2,Le h1 h2 → I pre Es h1 → I pre Es h2) → (∀ pre Es h1 h2,Le h1 h2 → Ix pre Es h1 → Ix pre Es h2) →
    (∀ pre x post u Es h1,xs = pre ++ x :: post → Le h h1 → R x u h1 → I pre Es h1 → Yl P lid u Es h1 fun v Es' h' => (v = .bool true ∧ I (pre ++ [x]) Es' h') ∨ (v = .bool false ∧ Ix (pre ++ [x]) Es' h')) →
    ∀ Es h1,Le h h1 → I [] Es h1 → Fn P g (.func (.yield lid) #[] #[] :: lb).toArray Es h1 fun v Es' h' => I xs Es' h' ∨ ∃ pre post,xs = pre ++ post ∧ Ix pre Es' h'
theorem SeqR.le {α : Type} {P : Program} {g : FuncId} {lb : List Value} {R : α → List Value → Ro → Prop} {xs : List α} {h h' : Ro} (s : SeqR P g lb R xs h) (hl : Le h h') : SeqR P g lb R xs h':=by
  intro lid I Ix m1 m2 hr Es h1 hl1 hI
  refine (s lid (fun pre Es h2 => Le h' h2 ∧ I pre Es h2) (fun pre Es h2 => Ix pre Es h2) (fun pre Es a b hab ⟨q1,q2⟩ => ⟨q1.trans hab,m1 _ _ _ _ hab q2⟩) m2
    (fun pre x post u Es h2 e _ hu ⟨q1,q2⟩ => (hr pre x post u Es h2 e q1 hu q2).mono fun v Es h3 hle hP => hP.imp (fun ⟨p1,p2⟩ => ⟨p1,q1.trans hle,p2⟩) id) Es h1 (hl.trans hl1) ⟨hl1,hI⟩).mono ?_
  rintro v Es' h2 _ (⟨_,h3⟩|h3)
  · exact .inl h3
  · exact .inr h3
theorem GO_rangeFuncR {C : Ctx} {ds : List Deferred} {l : Sl} {Es : List Asn} {h : Ro} {K : List Item} {g : Operand} {ps : Array Tmp} {assign body : Code} {α : Type} {gf : Nat} {lb : List Value} {R : α → List Value → Ro → Prop} {xs : List α}
    (hro : C.ro = none) (hg : evl l g = some (.func (.func gf) #[] lb.toArray)) (hh : Has C.P gf) (hseq : SeqR C.P gf lb R xs h) (hps : ∀ x u h,R x u h → u.length = ps.size) (hpN : ps.toList.all (fun p => Nat.blt p C.N) = true)
    (I : List α → List Asn → Ro → Prop) (Ix : Code → List α → List Asn → Ro → Prop) (mI : ∀ pre Es h1 h2,Le h1 h2 → I pre Es h1 → I pre Es h2) (mIx : ∀ c pre Es h1 h2,Le h1 h2 → Ix c pre Es h1 → Ix c pre Es h2) (h0 : I [] Es h)
    (round : ∀ (lid : Nat) (r : Loop) (w0 : World) (X0 : List Nat) pre x post u Es1 h1,xs = pre ++ x :: post → R x u h1 → I pre Es1 h1 → Le h h1 → r.state = .ready →
      GO (mkR C.P C.ts C.ok C.N lid w0 X0 h1 (roundP lid r (I (pre ++ [x])) (fun c => Ix c (pre ++ [x])))) [] (zipS ps.toList u l) (LoopA lid r :: Es1) h1 [.code assign,.beginRound,.code body])
    (done : ∀ D h1 Es1,Le h h1 → I xs Es1 h1 → GO C (mark D :: ds) l (DefA D :: Es1) h1 K)
    (stop : ∀ D h1 Es1 c pre post,xs = pre ++ post → Le h h1 → Ix c pre Es1 h1 → GO C (mark D :: ds) l (DefA D :: Es1) h1 (.code c :: K)) :
    GO C ds l Es h (.code (.rangeFunc g ps assign body) :: K):=by
  intro a w s
  refine todo_rangeFunc fun fn => ?_
  obtain ⟨rec,hrec⟩ : ∃ rec : Loop,rec = { state:=.ready,pending:=none,fn,tmps:=a.tmps,params:=ps,assign,body,defers:=w.heap.size }:=⟨_,rfl⟩
  obtain ⟨lid,hlid⟩ : ∃ lid,lid = w.heap.size + 1:=⟨_,rfl⟩
  obtain ⟨W1,hW1⟩ : ∃ W1,(w.alloc (.deferred (some []))).alloc (.loop rec) = W1:=⟨_,rfl⟩
  have H0 : Hp C.w0 C.X0 C.h0 (DefA w.heap.size :: Es) h (w.alloc (.deferred (some []))):=s.hp.alloc _ _ fun m hm => ⟨rfl,_,hm,rfl⟩
  have H1 : Hp C.w0 C.X0 C.h0 (LoopA lid rec :: DefA w.heap.size :: Es) h W1:=by
    have hz : (w.alloc (.deferred (some []))).heap.size = lid:=by rw [hlid];simp
    have:=H0.alloc (.loop rec) (LoopA lid rec) (by rw [hz];exact fun m hm => ⟨rfl,_,hm,rfl⟩)
    rw [← hW1];exact this
  have H2 : Hp C.w0 C.X0 C.h0 ((LoopA lid rec :: Es) ++ [DefA w.heap.size]) h W1:=H1.perm (by
    simp only [List.cons_append];exact (List.perm_append_comm (l₁:=[DefA w.heap.size]) (l₂:=Es)).cons _)
  refine ⟨lid,[mark w.heap.size],W1,{ target:=.fn (.func gf) lb.toArray,args:=#[.func (.yield lid) #[] #[]] },W1,gf,(.func (.yield lid) #[] #[] :: lb).toArray,W1,?_,?_,?_,?_⟩
  · rw [hro,← hW1,hrec,hlid];exact run_enterLoop_outer _ _ _ _ _
  · have e1 : a.eval g = .func (.func gf) #[] lb.toArray:=s.slots.eval hg
    simp only [resolve,e1]
    simp [go_sem]
  · obtain ⟨fn',q1,q2,q3⟩:=hh
    simp only [invoke]
    simp [go_sem,run_callFunc q1 q2 q3]
  obtain ⟨Ds,ho,hn,hb⟩:=H2.own
  obtain ⟨D1,D2,rfl,ho1,ho2⟩:=ho.split
  have hb1 : ∀ b ∈ D1.flatten,b ∈ (D1 ++ D2).flatten:=fun b h1 => by rw [List.flatten_append,List.mem_append];exact .inl h1
  have hcall:=hseq lid (fun pre Es h' => ∃ Fs,Es = LoopA lid rec :: Fs ∧ I pre Fs h' ∧ Le h h') (fun pre Es h' => ∃ c Fs,Es = LoopA lid { rec with state:=.done,pending:=some c } :: Fs ∧ Ix c pre Fs h' ∧ Le h h')
    (fun pre Es h1 h2 hl ⟨Fs,q1,q2,q3⟩ => ⟨Fs,q1,mI _ _ _ _ hl q2,q3.trans hl⟩) (fun pre Es h1 h2 hl ⟨c,Fs,q1,q2,q3⟩ => ⟨c,Fs,q1,mIx _ _ _ _ _ hl q2,q3.trans hl⟩)
    (fun pre x post u Es1 h1 hx hl1 hu ⟨Fs,q1,q2,q3⟩ => by
      subst q1
      intro w' X' hl' ⟨Ds',ho',hn',hb'⟩
      have hl0 : w'.heap[lid]? = some (.loop rec):=by
        obtain ⟨D,hA,_⟩:=ho'.get (List.Mem.head _)
        obtain ⟨_,o,hm,rfl⟩:=hA
        exact hm
      have hy:=run_yield (P:=C.P) (args:=u.toArray) hl0 (by rw [hrec];simpa using hps x u h1 hu)
      refine ⟨_,_,_,_,0,hy,round_of_todo ?_⟩
      have hz:=zipS_ok (ps:=ps.toList) (vs:=u) (l:=l) (tmps:=a.tmps) (N:=C.N) s.slots s.size hpN
      have e : ((rec.params.zip u.toArray).foldl (fun tmps (t,a) => tmps.setIfInBounds t a) rec.tmps) = ((ps.toList.zip u).foldl (fun t p => t.setIfInBounds p.1 p.2) a.tmps):=by
        rw [hrec,← Array.foldl_toList,Array.toList_zip]
      rw [e]
      have hst : rec.state = .ready:=by rw [hrec]
      have hrr : { rec with state:=.ready,pending:=none } = rec:=by rw [hrec]
      have R:=round lid rec w' X' pre x post u Fs h1 hx hu q2 q3 hst { tmps:=(ps.toList.zip u).foldl (fun t p => t.setIfInBounds p.1 p.2) a.tmps,defers:=[] } w'
        ⟨hz.2,rfl,hz.1,⟨rfl,rfl,rfl,Nat.le_refl _,Nat.le_refl _,fun _ _ _ => rfl,hl',Le.refl _,fun i o e => .inl e,Ds',ho',hn',fun b hb1 => ⟨(hb' b hb1).1,.inr (hb' b hb1).2.1,(hb' b hb1).2.2⟩⟩⟩
      have ha : rec.assign = assign:=by rw [hrec]
      have hbd : rec.body = body:=by rw [hrec]
      rw [← ha,← hbd] at R
      have mono : ∀ e a' w2,rQ C.P lid w' X' h1 (roundP lid rec (I (pre ++ [x])) (fun c => Ix c (pre ++ [x]))) e a' w2 → roundPost C.P lid (fun e w2 => ∃ v,e = .returned v ∧ ∃ Es h2,((v = .bool true ∧ ∃ Fs,Es = LoopA lid rec :: Fs ∧ I (pre ++ [x]) Fs h2 ∧ Le h h2) ∨ (v = .bool false ∧ ∃ c Fs,Es = LoopA lid { rec with state:=.done,pending:=some c } :: Fs ∧ Ix c (pre ++ [x]) Fs h2 ∧ Le h h2)) ∧ Hp w' X' h1 Es h2 w2) e a' w2:=by
        have aux : ∀ e w2,(∃ v,e = Ending.returned v ∧ ∃ Es h2,roundP lid rec (I (pre ++ [x])) (fun c => Ix c (pre ++ [x])) v Es h2 ∧ Hp w' X' h1 Es h2 w2) → (∃ v,e = Ending.returned v ∧ ∃ Es h2,((v = .bool true ∧ ∃ Fs,Es = LoopA lid rec :: Fs ∧ I (pre ++ [x]) Fs h2 ∧ Le h h2) ∨ (v = .bool false ∧ ∃ c Fs,Es = LoopA lid { rec with state:=.done,pending:=some c } :: Fs ∧ Ix c (pre ++ [x]) Fs h2 ∧ Le h h2)) ∧ Hp w' X' h1 Es h2 w2):=by
          rintro e w2 ⟨v,he,Es,h2,hP,H⟩
          refine ⟨v,he,Es,h2,?_,H⟩
          rcases hP with ⟨p1,Fs,p2,p3⟩|⟨p1,c,Fs,p2,p3⟩
          · rw [hrr] at p2;exact .inl ⟨p1,Fs,p2,p3,q3.trans H.le⟩
          · exact .inr ⟨p1,c,Fs,p2,p3,q3.trans H.le⟩
        intro e a' w2 hq
        cases e with
        | normal => obtain ⟨v,w4,q1,q2⟩:=hq;exact ⟨v,w4,q1,aux _ _ q2⟩
        | ret => obtain ⟨v,w4,q1,q2⟩:=hq;exact ⟨v,w4,q1,aux _ _ q2⟩
        | exit id => obtain ⟨v,w4,q1,q2⟩:=hq;exact ⟨v,w4,q1,aux _ _ q2⟩
        | goto t => obtain ⟨v,w4,q1,q2⟩:=hq;exact ⟨v,w4,q1,aux _ _ q2⟩
        | panic ch => exact hq.elim
        | outgrown => exact hq.elim
      intro b cs hb0
      obtain ⟨e,a',w2,hq,harr⟩:=R b cs hb0
      exact ⟨e,a',w2,mono _ _ _ hq,harr⟩)
    (LoopA lid rec :: Es) h (Le.refl h) ⟨Es,rfl,h0,Le.refl h⟩
  refine (hcall W1 D1.flatten H2.ro ⟨D1,ho1,by rw [List.flatten_append,List.nodup_append] at hn;exact hn.1,fun b h1 => ⟨(hb b (hb1 b h1)).1,h1,(hb b (hb1 b h1)).2.2⟩⟩).mono ?_
  rintro e w3 ⟨v,rfl,Es',h',hP,H'⟩
  have H3:=H2.call ho1 ho2 hn hb H'
  refine ⟨v,rfl,?_⟩
  have hnb : rec.state ≠ .busy:=by rw [hrec];simp
  have fin : ∀ (r' : Loop) (Fs : List Asn),r'.state ≠ .busy → Hp C.w0 C.X0 C.h0 (LoopA lid r' :: Fs ++ [DefA w.heap.size]) h' w3 → (Instr.endLoop lid).run C.P w3 = .ok r'.pending (w3.putObj lid (.loop { r' with state:=.exhausted })) ∧
      Hp C.w0 C.X0 C.h0 (DefA w.heap.size :: Fs) h' (w3.putObj lid (.loop { r' with state:=.exhausted })):=by
    intro r' Fs hst H
    obtain ⟨o,ho,rfl⟩:=H.obj
    refine ⟨run_endLoop ho hst,?_⟩
    have:=(H.putObj (p':=fun o => o = .loop { r' with state:=.exhausted }) rfl).drop .here
    exact this.perm (List.perm_append_comm (l₁:=Fs) (l₂:=[DefA w.heap.size]))
  rcases hP with ⟨Fs,rfl,p1,p2⟩|⟨pre,post,hx,c,Fs,rfl,p1,p2⟩
  · obtain ⟨q1,q2⟩:=fin rec Fs hnb H3
    have hpend : rec.pending = none:=by rw [hrec]
    rw [hpend] at q1 q2
    refine ⟨none,_,q1,?_⟩
    exact done w.heap.size h' Fs p2 p1 { a with defers:=[mark w.heap.size] ++ a.defers } _ ⟨s.size,by rw [← s.defers];rfl,s.slots,q2⟩
  · obtain ⟨q1,q2⟩:=fin { rec with state:=.done,pending:=some c } Fs (by simp) H3
    refine ⟨some c,_,q1,?_⟩
    exact stop w.heap.size h' Fs c pre post hx p2 p1 { a with defers:=[mark w.heap.size] ++ a.defers } _ ⟨s.size,by rw [← s.defers];rfl,s.slots,q2⟩
end Go.Hw
set_option linter.unusedVariables false
namespace Go.Hw
open Go
def str (l : List UInt8) : ByteArray:=⟨l.toArray⟩
def OwnPf (f : Bool) (e : TypeId) (v : Value) (n : Nat) (xs : List Value) : Asn :=
  ⟨fun D m => xs.length = n ∧ ((v = .slice none 0 0 ∧ n = 0 ∧ D = []) ∨
      ∃ g cap cur fz,v = .slice (some ⟨g,0,none⟩) n cap ∧ D = [g] ∧ m g = some (.cells cur e fz) ∧ (fz = (0,0) ∨ (f = true ∧ (cap ≤ fz.1 ∨ fz.2 = 0))) ∧ n ≤ cap ∧ cap ≤ maxLen ∧ cur.size = cap ∧ cur.toList.take n = xs),
   fun D m m' h ⟨hl,hr⟩ => ⟨hl,hr.imp id fun ⟨g,cap,cur,fz,h1,h2,h3,h4⟩ => ⟨g,cap,cur,fz,h1,h2,by rw [← h g (by simp [h2])];exact h3,h4⟩⟩⟩
section
variable {C : Ctx} {ds : List Deferred} {l : Sl} {Es : List Asn} {h : Ro} {K : List Item} {G : Value → List Asn → Ro → Prop} {ty : TypeId} {pos : String} {aft : Array Edge} {gd : Option (Nat × Bool)} {d : Tmp} {dst : Option Tmp}
end
section
variable {C : Ctx} {ds : List Deferred} {l0 l' : Sl} {Vs : List Dn} {Es : List Asn} {h : Ro} {os : List Oper} {K : List Item} {pl : List (Nat × Nat)} {d : Tmp} {ty : TypeId} {pos : String} {aft : Array Edge} {gd : Option (Nat × Bool)} {i : Nat}
theorem GP_un1 {op : Op} (ho : lnth i os = some ⟨some d,op,ty,pos,aft,gd⟩) (hc : canB Vs i ⟨some d,op,ty,pos,aft,gd⟩ = true) (hl : pickF (opSlots os.toArray ⟨some d,op,ty,pos,aft,gd⟩) (sl Vs l0) = some l')
    (hg : wantedB os.toArray l' gd = some false) (g : GDp pl C ds l0 (⟨i,some d,undef,[],true⟩ :: Vs) Es h os.toArray K) : GDp ((i,1) :: pl) C ds l0 Vs Es h os.toArray K :=
  GP_un (pl:=pl) ho hc hl hg g
end
end Go.Hw
set_option linter.unusedVariables false
namespace Go.Hw
open Go
def VarG (P : Program) (h : Ro) (name : String) (cs : List Value) : Prop:=∃ g t fz,P.globalNamed name = some g ∧ h g = some (.cells cs.toArray t fz)
theorem VarG.le {P : Program} {h h' : Ro} {name : String} {cs : List Value} (v : VarG P h name cs) (hl : Le h h') : VarG P h' name cs:=by
  obtain ⟨g,t,fz,h1,h2⟩:=v
  exact ⟨g,t,fz,h1,hl _ _ h2⟩
theorem VarG.tab {P : Program} {h : Ro} {name : String} {k : IntKind} {zs : List Int} (v : VarG P h name (zs.map fun z => .int k z)) {w : World} (hl : Le h (mem w)) : Lib.TabIs P w name k zs:=by
  obtain ⟨g,t,fz,h1,h2⟩:=v
  have h3 : w.heap[g]? = _:=hl _ _ h2
  unfold Lib.TabIs World.var?
  rw [h1,Option.bind_some,h3]
section
variable {C : Ctx} {l : Sl} {Es : List Asn} {h : Ro} {G : Value → List Asn → Ro → Prop} {ty : TypeId} {pos : String} {aft : Array Edge} {gd : Option (Nat × Bool)} {dst : Option Tmp}
end
end Go.Hw
set_option linter.unusedVariables false
namespace Go.Hw
open Go
section
variable {C : Ctx} {l : Sl} {Es : List Asn} {h : Ro} {G : Value → List Asn → Ro → Prop} {ty : TypeId} {pos : String} {aft : Array Edge} {gd : Option (Nat × Bool)} {dst : Option Tmp} {d : Tmp}
theorem OpTo_storeS {t e sz : Nat} {x y : Operand} {b off n c : Nat} {v : Value} {xs ys : List Value} {Es' : List Asn} {T : Ty}
    (hT : tyOf t C.ts = some T) (hx : evl l x = some (.pointer (some ⟨b,off,none⟩))) (hy : evl l y = some v) (hR : Repl Es (OwnS e sz (.slice (some ⟨b,0,none⟩) n c) n xs) (OwnS e sz (.slice (some ⟨b,0,none⟩) n c) n ys) Es')
    (hys : ys = xs.take off ++ partL v ++ xs.drop (off + (partL v).length)) (hoff : off + (partL v).length ≤ xs.length)
    (hl : Nat.beq (partL v).length T.size = true) (h1 : allOne (partL v) = true) (g : G undef Es' h) : OpTo C l Es h ⟨none,.store t x y,ty,pos,aft,gd⟩ G:=by
  intro a w hs hp
  have hlen:=Nat.eq_of_beq_eq_true hl
  obtain ⟨Ds,hown,hnod,hbd⟩:=hp.own
  obtain ⟨D,hA,hDn,hsub,_⟩:=hR.own hown hnod
  obtain ⟨hxl,hr⟩:=hA
  rcases hr with ⟨h0,_⟩|⟨g',cap,cur,h2,h3,h4,h5,h6,h7,h8⟩
  · cases h0
  · injection h2 with h2 _ h23
    injection h2 with h2;injection h2 with h2
    subst h2;subst h23
    have hb' : w.heap[b]? = some (.cells cur e (0,0)):=h4
    have hcl : n * sz ≤ cur.size:=by rw [h7];exact Nat.mul_le_mul_right _ h5
    have hfit : off + 0 + (partL v).length ≤ cur.size:=by omega
    have hrun : (storeVar t ⟨b,off,none⟩ v).run C.P w = .ok () (w.setRow b (cur.toList.take off ++ partL v ++ cur.toList.drop (off + (partL v).length)).toArray):=by
      have hst:=run_storeCells_at (P:=C.P) b off e (partL v) 0 cur w hb' hfit (allOne_ok h1)
      rw [Nat.add_zero] at hst
      simp only [storeVar,Sem.run_bind,C.ok.run_size hT,Result.andThen_ok,partL_ok,List.size_toArray]
      rw [if_neg (by simp [hlen])]
      simpa using hst
    refine .inr (.inl ⟨w.setRow b (cur.toList.take off ++ partL v ++ cur.toList.drop (off + (partL v).length)).toArray,Es',h,by simp only [execOp,hs.eval hx,hs.eval hy,Instr.storeAt,Instr.sureAddr,Sem.run_bind,Sem.run_pure,Result.andThen_ok,hrun],?_,g⟩)
    refine hp.repl hR rfl rfl rfl (by simp [World.setRow]) fun D2 hA2 hDn2 hDl2 => ?_
    have hD2 : D2 = [b]:=by
      rcases hA2.2 with ⟨q,_⟩|⟨g2,_,_,q1,q2,_⟩
      · cases q
      · injection q1 with q1 _ _;injection q1 with q1;injection q1 with q1;rw [q2,q1]
    subst hD2
    refine ⟨[b],⟨?_,.inr ⟨b,c,_,rfl,rfl,setRow_heap w b cur _ e (0,0) hb',h5,h6,?_,?_⟩⟩,by simp,fun q hq => ⟨.inl hq,by have:=hDl2 q hq;simpa [World.setRow] using this⟩,fun i hi hni => ?_⟩
    · rw [hys,← hxl];simp only [List.length_append,List.length_take,List.length_drop];omega
    · simp only [List.size_toArray,List.length_append,List.length_take,List.length_drop,Array.length_toList]
      rw [← h7];omega
    · rw [hys,← h8]
      apply List.ext_getElem?
      intro j
      rw [List.getElem?_take]
      have hL1 : (cur.toList.take off).length = off:=by rw [List.length_take,Array.length_toList];omega
      have hL2 : ((cur.toList.take (n * sz)).take off).length = off:=by rw [List.length_take,List.length_take,Array.length_toList];omega
      by_cases hj : j < n * sz
      · rw [if_pos hj]
        by_cases hj1 : j < off
        · rw [List.append_assoc,List.append_assoc,List.getElem?_append_left (by omega),List.getElem?_append_left (by omega),List.getElem?_take,List.getElem?_take,List.getElem?_take,if_pos hj1,if_pos hj1,if_pos hj]
        · have ap : ∀ (p r : List Value),p.length = off → (p ++ r)[j]? = r[j - off]?:=fun p r hp => by rw [List.getElem?_append_right (by omega),hp]
          rw [List.append_assoc,List.append_assoc,ap _ _ hL1,ap _ _ hL2]
          by_cases hj2 : j - off < (partL v).length
          · rw [List.getElem?_append_left hj2,List.getElem?_append_left hj2]
          · have ap2 : ∀ (r : List Value),(partL v ++ r)[j - off]? = r[j - off - (partL v).length]?:=fun r => List.getElem?_append_right (by omega)
            rw [ap2,ap2,List.getElem?_drop,List.getElem?_drop,List.getElem?_take,if_pos (by omega)]
      · rw [if_neg hj,List.getElem?_eq_none]
        simp only [List.length_append,List.length_take,List.length_drop,Array.length_toList]
        omega
    · have : i ≠ b:=fun e => hni (by simp [e])
      exact setRow_other w b i _ this
end
end Go.Hw
set_option linter.unusedVariables false
namespace Go.Hw
open Go
end Go.Hw
