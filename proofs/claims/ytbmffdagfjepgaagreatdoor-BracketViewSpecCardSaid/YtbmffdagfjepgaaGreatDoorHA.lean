import Derived.RangeFuncLeaves
import Derived.Maps.AppendAt
import Derived.Below
import Derived.Laws.Small
import Derived.Maps.RangeRun
set_option linter.unusedVariables false
set_option linter.unusedSimpArgs false
set_option linter.all false
namespace Go.Hw
open Go
def AO:=@List.mem_append
def Bk:=@List.mem_singleton
def Bt:=@List.length_append
def Bw:=@List.getElem?_eq_getElem
def Bx:=@List.mem_cons
def By:=@List.take_of_length_le
def BK:=@Go.Sem.run_bind
def BU:=@Nat.le_refl
def B':=@Go.Result.andThen_ok
def Cf:=@List.cons_ne_nil
def Ck:=@List.append_assoc
def CF:=@List.length_take
def CV:=@Go.Sem.run_pure
def CW:=@List.map_cons
def CZ:=@List.mem_map
def Dc:=@List.length_map
def Do:=@List.length_cons
def Dr:=@List.getD_eq_getElem?_getD
def Dy:=@Nat.zero_add
def DI:=@List.map_append
def DQ:=@List.mem_filter
def DR:=@List.append_nil
def DX:=@List.mem_cons_self
def Eb:=@List.flatMap_cons
def Eh:=@Option.some.injEq
def Ep:=@List.flatMap_append
def Ey:=@List.mem_cons_of_mem
def Fm:=@List.nodup_append
def Fu:=@List.eq_nil_of_length_eq_zero
def FD:=@List.pairwise_cons
def FE:=@List.nil_append
def FF:=@List.getElem?_take
def FG:=@List.getElem?_map
def FH:=@List.Sublist.refl
def FV:=@List.forall_mem_cons
def FW:=@List.cons_append
def Gj:=@Nat.le_trans
def Gk:=@List.flatten_cons
def Gl:=@List.filter_append
def Gy:=@Nat.mul_one
def GJ:=@List.mem_flatMap
def GK:=@List.getElem?_append_left
def GL:=@List.foldl_append
def GT:=@Nat.zero_le
def GW:=@List.take_append_drop
def Hg:=@Option.map_some
def Hi:=@List.nil_sublist
def Hq:=@Bool.and_eq_true
def Ia:=@List.take_zero
def Ib:=@List.flatten_append
def Ir:=@Bool.false_eq_true
def Is:=@Array.getElem?_modify
def IE:=@Bool.not_eq_true'
def IQ:=@Option.getD_some
def IR:=@List.length_singleton
def Jv:=@List.map_nil
def Jw:=@List.length_nil
def JD:=@Classical.byContradiction
def JE:=@Array.getElem?_eq_some_iff
def JM:=@Nat.sub_zero
def JW:=@List.perm_append_comm
def JX:=@List.not_mem_nil
def JY:=@List.mem_range
def JZ:=@List.getElem?_append_right
def J':=@List.drop_zero
def Ka:=@List.drop_eq_nil_of_le
def Kb:=@List.cons.injEq
def Kv:=@List.nodup_cons
def Kw:=@List.length_drop
def Kx:=@List.getElem?_eq_some_iff
def Ky:=@List.filter_cons
def Kz:=@List.all_eq_true
def KX:=@Ne.symm
def KY:=@Nat.lt_or_ge
def KZ:=@Nat.add_mul
def K':=@List.ext_getElem?
def La:=@List.Mem.head
def Lj:=@Bool.eq_iff_iff
def Lk:=@Array.getElem?_toList
def LF:=@List.take_add_one
def LG:=@List.drop_eq_getElem_cons
def LH:=@List.cons.inj
def Mb:=@Prod.mk.injEq
def Mc:=@Nat.eq_of_beq_eq_true
def Md:=@Nat.add_assoc
def Mh:=@List.mem_of_mem_take
def Mi:=@List.length_set
def Mj:=@List.getElem?_eq_none
def Na:=@Nat.succ_mul
def Nb:=@List.size_toArray
def Nc:=@List.map_map
def Nd:=@List.getElem?_drop
def Nf:=@List.foldl_cons
def Od:=@Option.some.inj
def Oe:=@Nat.le_of_ble_eq_true
def Of:=@Nat.eq_zero_or_pos
def Og:=@List.pairwise_map
def Oh:=@List.pairwise_append
def Oi:=@List.mem_of_getElem?
def Oj:=@List.flatMap_nil
def Ok:=@List.drop_length
def OC:=@Array.getElem?_eq_getElem
def Pe:=@Nat.mul_le_mul_right
def Pf:=@Nat.blt_eq
def Pm:=@List.sublist_append_left
def Pn:=@List.length_filter_le
def Po:=@List.getElem_mem
def PI:=@Array.length_toList
def Qn:=@Option.map_none
def QA:=@Nat.min_eq_left
def QM:=@List.map_toArray
def QN:=@List.getElem?_cons_zero
def Q':=@Bool.or_eq_true
def Rb:=@Array.getElem?_append_left
def Rc:=@Array.ext'
def Ry:=@Go.StepsIn.trans
def RA:=@Go.Sem.run_ite
def Sg:=@Nat.add_zero
def Sp:=@List.getElem?_cons_succ
def Sq:=@List.filter_map
def Sr:=@List.any_eq_false
def SJ:=@Array.toArray_toList
def Ud:=@Option.isSome_none
def Uo:=@Nat.zero_mul
def Up:=@Nat.lt_of_lt_of_le
def Uq:=@Nat.beq_refl
def Ut:=@List.take_succ_cons
def Uu:=@List.sum_cons
def Uv:=@List.pairwise_iff_getElem
def Uw:=@List.mem_map_of_mem
def Ux:=@List.find?_cons
def Uy:=@List.any_eq_true
def Uz:=@List.Perm.cons
def UJ:=@Int.toNat_natCast
def Vb:=@Array.size_replicate
def Vc:=@Array.getElem?_mapIdx
def Wt:=@UInt8.toNat_ofNat'
def XR:=@Option.map_eq_some_iff
def XS:=@Option.bind_some
def X':=@Nat.mod_eq_of_lt
def Yd:=@Go.MapKept.run_getObj_map
def Ye:=@List.take_length
def Yf:=@List.take_left
def Yg:=@List.nodup_nil
def Yh:=@List.mergeSort_perm
def Yi:=@List.map_take
def Yj:=@List.getElem_toArray
def Yk:=@List.getElem_of_mem
def Yl:=@List.getD_cons_succ
def Ym:=@List.drop_of_length_le
def Yn:=@List.append_inj
def Yo:=@List.Pairwise.filter
def Yu:=@Iff.rfl
def YR:=@Bool.not_eq_true
def YT:=@Array.size_append
def YU:=@Array.mem_of_getElem?
def YV:=@Array.append_empty
def aQ:=@Go.Value.bool.injEq
def dM:=@Nat.mul_le_mul
def eB:=@List.take_take
def eD:=@List.take_left'
def eE:=@List.singleton_append
def eF:=@List.set_cons_succ
def eG:=@List.pairwise_mergeSort
def eH:=@List.pairwise_and_iff
def eI:=@List.map_drop
def eJ:=@List.length_eq_zero_iff
def eK:=@List.getElem?_toArray
def eL:=@List.getElem?_set_self
def eM:=@List.flatten_singleton
def eN:=@List.flatMap_def
def eO:=@List.filter_filter
def eP:=@List.filter_congr
def eQ:=@List.append_of_mem
def eR:=@List.Perm.append_left
def eT:=@List.Mem.tail
def eY:=@Int.lt_trichotomy
def eZ:=@Int.le_of_lt
def gB:=@Function.comp_def
def gE:=@Go.Frame.finish_atR
def gV:=@Classical.em
def hE:=@Bool.not_false
def hF:=@Bool.not_eq_false'
def hW:=@Array.toList_append
def hX:=@Array.mem_toList_iff
def hY:=@Array.extract_size
def hZ:=@Array.ext_getElem?
def nN:=@UInt8.toNat_inj
def nO:=@UInt8.lt_iff_toNat_lt
def wQ:=@Nat.div_eq_of_lt
def wR:=@Nat.add_comm
def wT:=@Go.MapKept.run_checkKey
def wU:=@Go.MapKept.heap_set
def wX:=@List.take_append_of_le_length
def wY:=@List.take_append_getElem
def wZ:=@List.reverse_cons
def xA:=@List.perm_middle
def xB:=@List.mem_take_iff_getElem
def xC:=@List.mem_iff_getElem
def xD:=@List.mem_filterMap
def xE:=@List.mem_append_left
def xF:=@List.map_congr_left
def xG:=@List.mapM_cons
def xH:=@List.length_pos_iff
def xI:=@List.getLastD_eq_getLast?
def xJ:=@List.getElem?_set_ne
def xK:=@List.forIn_cons
def xL:=@List.flatMap_eq_nil_iff
def xM:=@List.filter_sublist
def xN:=@List.filter_eq_self
def xO:=@List.filter_eq_nil_iff
def xP:=@List.drop_take
def xQ:=@List.drop_succ_cons
def xR:=@List.dropLast_concat_getLast
def xS:=@List.Sublist.map
def Ac7:=@Go.ComesIn.of_steps
def Adn:=@Bool.true_and
def Ad3:=@Array.getElem?_eq_none
def Ax9:=@Go.MapKept.run_setObj_map
def Ayt:=@List.mem_singleton_self
def Ayu:=@List.mem_or_eq_of_mem_set
def Ayv:=@List.mem_of_find?_eq_some
def Ayw:=@List.map_eq_append_iff
def Ayx:=@List.length_pos_of_mem
def Ayy:=@List.length_mergeSort
def Ayz:=@List.length_filterMap_le
def Ay0:=@List.length_attachWith
def Ay1:=@List.getLast?_eq_getElem?
def Ay2:=@List.getElem?_zipWith
def Ay3:=@List.filterMap_append
def Ay4:=@List.eq_nil_or_concat
def Ay5:=@List.drop_append_of_le_length
def Ay6:=@List.contains_iff_mem
def Ay7:=@List.concat_eq_append
def Az0:=@Int.tdiv_eq_ediv_of_nonneg
def A05:=@Classical.axiomOfChoice
def A07:=@Go.ChangeMaps.heap_setBlock_same
def A08:=@Go.ChangeMaps.heap_setBlock_other
def A09:=@BitVec.toNat_ushiftRight
def A1b:=@Array.getElem?_setIfInBounds_ne
def A1c:=@Array.all_eq_true_iff_forall_mem
abbrev Bj:=List UInt8
abbrev AC:=List Int
abbrev HR:=Option Nat
abbrev CB:=List Item
abbrev Dm:=Array Oper
abbrev BD:=List Nat
abbrev Dx:=Array Value
abbrev Vh:=Option Value
abbrev Ao:=List Value
abbrev Hd:=List (List Nat)
abbrev Vi:=Option (List Value)
abbrev Kf:=Array TypeId
abbrev PK:=List (Nat×Value)
abbrev IG:=List (Nat×Nat)
abbrev CL:=List Deferred
abbrev Hc:=List Oper
abbrev Cq:=Option (Nat×Bool)
abbrev CK:=Option Tmp
abbrev Cw:=Array Edge
abbrev YZ:=Array (Nat×Operand)
abbrev KI:=Array Operand
abbrev At:=Option Addr
abbrev PJ:=Option Bool
abbrev He:=List (Int×Int)
abbrev YY:=List (List Int)
abbrev PL:=List (Int×Bool)
abbrev Hr:=List (List UInt8)
abbrev AD (b:Nat):Value:=.pointer (some ⟨b,0,none⟩)
abbrev Av (b:Nat):Addr:=⟨b,0,none⟩
abbrev O (i:Int):Value:=.int .i64 i
abbrev bG (P:Program):=StepsIn (λ_=>True) P
def Dp (P:Program) (ro:HR) (f:CB) (Q:Exit→Act→World→Prop) (a:Act) (w:World):Prop:=
 ∀(b:Frame) (cs:List Frame),b.roundOf=ro→
  ∃e c d,Q e c d∧ArrivesIn (λ_=>True) P (lone (b.atR a f) cs w) b [] cs e c d
section rules
variable {P:Program} {ro:HR} {Q:Exit→Act→World→Prop} {a:Act} {w:World} {k:CB}
def Dp.step {f g:CB}{c:Act}{i:World}(hs:∀(b:Frame) (cs:List Frame),b.roundOf=ro→bG P (lone (b.atR a f) cs w) (lone (b.atR c g) cs i))
  (h:Dp P ro g Q c i):Dp P ro f Q a w:=λb cs d=>
 let⟨e,j,k,q,r⟩:=h b cs d;⟨e,j,k,q,.of_steps (hs b cs d) r⟩
def Ahz (h:Dp P ro k Q a w):Dp P ro (.code .skip::k) Q a w:=.step (λ_ _ _=>.one trivial stepR_skip) h
def Avx {l:Nat}(h:Dp P ro k Q a w):Dp P ro (.code (.label l)::k) Q a w:=.step (λ_ _ _=>.one trivial stepR_label) h
def Az6 {b:Nat}(h:Dp P ro k Q a w):Dp P ro (.inBlock b::k) Q a w:=.step (λ_ _ _=>.one trivial stepR_inBlock) h
def Ah0 {x y:Code}(h:Dp P ro (.code x::.code y::k) Q a w):Dp P ro (.code (.seq x y)::k) Q a w:=.step (λ_ _ _=>.one trivial stepR_seq) h
def Avw {b:Nat}{c:Code}(h:Dp P ro (.code c::.inBlock b::k) Q a w):Dp P ro (.code (.block b c)::k) Q a w:=.step (λ_ _ _=>.one trivial stepR_block) h
def Ah1 {c:Code}(h:Dp P ro (.code c::.inLoop c::k) Q a w):Dp P ro (.code (.loop c)::k) Q a w:=.step (λ_ _ _=>.one trivial stepR_loop) h
def Ayj {c:Code}(h:Dp P ro (.code c::.inLoop c::k) Q a w):Dp P ro (.inLoop c::k) Q a w:=.step (λ_ _ _=>.one trivial stepR_inLoop) h
def Ah2 {b:Nat}{c:CB}(hx:exitTo b k=some c)(h:Dp P ro c Q a w):Dp P ro (.code (.exit b)::k) Q a w:=.step (λ_ _ _=>.one trivial (stepR_exit hx)) h
def Ah4 {c:Operand}{x y:Code}{t:Bool}(hc:a.eval c=.bool t)(h:Dp P ro (.code (if t then x else y)::k) Q a w):Dp P ro (.code (.cond c x y)::k) Q a w:=
 .step (λ_ _ _=>.one trivial (stepR_cond hc)) h
def We (h:Q .ret a w):Dp P ro (.code .ret::k) Q a w:=λb cs c=>
 ⟨.ret,a,w,h,λhn=>⟨_,.one trivial (stepR_ret hn)⟩,λ_=>⟨k,.refl _⟩⟩
def vY (h:Q .normal a w):Dp P ro [] Q a w:=λb cs c=>⟨.normal,a,w,h,.refl _⟩
def Ayk {b:Nat}{ops:Dm}(h:Dp P ro (.inRegion ops (List.range ops.size)::k) Q a w):Dp P ro (.code (.region b ops false)::k) Q a w:=
 .step (λ_ _ _=>.one trivial stepR_region) h
def uN {ops:Dm}(h:Dp P ro k Q a w):Dp P ro (.inRegion ops []::k) Q a w:=.step (λ_ _ _=>.one trivial stepR_region_end) h
def Ah3 {c:Nat}{ops:Dm}(h:∀t,Dp P ro (.inRegion ops (Region.schedule (P.follows .mixedOrders) ops t)::k) Q a {w with drawn:=w.drawn+1}) :
  Dp P ro (.code (.region c ops true)::k) Q a w:=λb cs f=>
 let⟨e,d,g,q,r⟩:=h (w.tape w.drawn (.order b.fn c)) b cs f;⟨e,d,g,q,.of_steps (.one trivial stepR_region_draw) r⟩
section op
variable {ops:Dm} {i:Nat} {rest:BD} {o:Oper}
def XT (b:∀c,o.op≠.defer c)(a:Operand→Value):o.semAt ro a=execOp a o:=Oper.semAt_eq ro a o b
def nP (c:ops[i]?=some o)(hw:Region.wanted o (yielded ops a.tmps)=false)(h:Dp P ro (.inRegion ops rest::k) Q (a.put o.dst undef) w) :
  Dp P ro (.inRegion ops (i::rest)::k) Q a w:=by
 refine .step (λb cs d=>.one trivial ?_) h
 have hs:=stepR_op_skip (P:=P) (b:=b) (a:=a) (k:=k) (cs:=cs) (w:=w) (ops:=ops) (i:=i) (rest:=rest) (by simp[c,hw])
 simpa only[c,XS]using hs
def aJ {v:Value}{e:World}(d:ops[i]?=some o)(hw:Region.wanted o (yielded ops a.tmps)=true)(g:∀c,o.op≠.defer c)
  (hr:(execOp a.eval o).run P w=.ok (.value v) e) (h:Dp P ro (.inRegion ops rest::k) Q (a.put o.dst v) e) :
  Dp P ro (.inRegion ops (i::rest)::k) Q a w:=by
 refine .step (λb cs f=>.one trivial (step_lone_go ?_)) h
 have hg:=stepGR_op (P:=P) (b:=b) (k:=k) (cs:=cs) (w:=w) (rest:=rest) d hw
 have j:(b.atR a (.inRegion ops (i::rest)::k)).finish v=b.atR (a.put o.dst v) (.inRegion ops rest::k):=by
  rw[gE,d];rfl
 rw[hg,f,XT g,←j];simp[stepG.apply,hr]
def Aat {e:World}(d:ops[i]?=some o)(hw:Region.wanted o (yielded ops a.tmps)=true)(g:∀c,o.op≠.defer c)
  (hr:(execOp a.eval o).run P w=.ok .skip e) (h:Dp P ro (.inRegion ops rest::k) Q (a.put o.dst undef) e) :
  Dp P ro (.inRegion ops (i::rest)::k) Q a w:=by
 refine .step (λb cs f=>.one trivial (step_lone_go ?_)) h
 have hg:=stepGR_op (P:=P) (b:=b) (k:=k) (cs:=cs) (w:=w) (rest:=rest) d hw
 have j:(b.atR a (.inRegion ops (i::rest)::k)).finish undef=b.atR (a.put o.dst undef) (.inRegion ops rest::k):=by
  rw[gE,d];rfl
 rw[hg,f,XT g,←j];simp[stepG.apply,hr]
def Ade {f:FuncId}{args:Dx}{g:World}{R:Value→World→Prop}(l:ops[i]?=some o)(hw:Region.wanted o (yielded ops a.tmps)=true)(q:∀c,o.op≠.defer c)
  (hr:(execOp a.eval o).run P w=.ok (.enter f args) g) (hc:Calls P f args g λe d=>∃v,e=.returned v∧R v d)
  (h:∀v d,R v d→Dp P ro (.inRegion ops rest::k) Q (a.put o.dst v) d) :
  Dp P ro (.inRegion ops (i::rest)::k) Q a w:=by
 intro b cs j
 have hg:=stepGR_op (P:=P) (b:=b) (k:=k) (cs:=cs) (w:=w) (rest:=rest) l hw
 obtain⟨e,d,aa,⟨v,rfl,p⟩,u,ab,t⟩:=hc (b.atR a (.inRegion ops (i::rest)::k)::cs)
 obtain⟨n,m,z,x,y⟩:=h v d p b cs j
 refine⟨n,m,z,x,.of_steps ?_ y⟩
 have r:step P (lone (b.atR a (.inRegion ops (i::rest)::k)) cs w) =
  .next (lone (Frame.enter P f args .normal) (b.atR a (.inRegion ops (i::rest)::k)::cs) g):=
  step_lone_go (by rw[hg,j,XT q];simp[stepG.apply,hr,Frame.atR])
 have s:(b.atR a (.inRegion ops (i::rest)::k)).finish v=b.atR (a.put o.dst v) (.inRegion ops rest::k):=by
  rw[gE,l];rfl
 refine .head trivial r (Ry (StepsIn.of_steps u) (.one trivial ?_))
 rw[←s];exact step_leave_returned t
def Adf {l:Nat}{f:FuncId}{tmps:Dx}{assign body:Code}{n:Nat}{g:World}{R:Value→World→Prop}(m:ops[i]?=some o)(hw:Region.wanted o (yielded ops a.tmps)=true)(s:∀c,o.op≠.defer c)
  (hr:(execOp a.eval o).run P w=.ok (.round l f tmps assign body) g) (hc:RoundIn Fence.wide n P l f tmps assign body g λe d=>∃v,e=.returned v∧R v d)
  (h:∀v d,R v d→Dp P ro (.inRegion ops rest::k) Q (a.put o.dst v) d) :
  Dp P ro (.inRegion ops (i::rest)::k) Q a w:=by
 intro b cs j
 have hg:=stepGR_op (P:=P) (b:=b) (k:=k) (cs:=cs) (w:=w) (rest:=rest) m hw
 obtain⟨e,d,⟨v,rfl,r⟩,x⟩:=hc.2 (b.atR a (.inRegion ops (i::rest)::k)) cs (room_wide _)
 obtain⟨q,p,aa,y,z⟩:=h v d r b cs j
 refine⟨q,p,aa,y,.of_steps ?_ z⟩
 have t:step P (lone (b.atR a (.inRegion ops (i::rest)::k)) cs w) =
  .next (lone (Frame.round l f tmps assign body .normal) (b.atR a (.inRegion ops (i::rest)::k)::cs) g):=
  step_lone_go (by rw[hg,j,XT s];simp[stepG.apply,hr,Frame.atR])
 have u:(b.atR a (.inRegion ops (i::rest)::k)).finish v=b.atR (a.put o.dst v) (.inRegion ops rest::k):=by
  rw[gE,m];rfl
 rw[←u]
 exact .head trivial t (x.mono λ_ _=>trivial)
end op
end rules
theorem A0e {P:Program}{f:FuncId}{fn:Func}{c:Code}{args:Dx}{w:World}{R:Ending→World→Prop}
  (hf:P.funcs[f]?=some fn) (x:fn.body=some c)
  (h:Dp P none [.code c] (bodyPostM Fence.wide 0 P fn R) {tmps:=args++Array.replicate (fn.ntmps-args.size) undef,defers:=[]} w) :
  Calls P f args w R:=by
 refine callsIn_wide (n:=0).1 ⟨trivial,λcs hr=>?_⟩
 let b:Frame:={(default:Frame)with fn:=f,kind:=.normal,roundOf:=none}
 have y:Frame.enter P f args .normal =
  b.atR {tmps:=args++Array.replicate (fn.ntmps-args.size) undef,defers:=[]} [.code c]:=by
  simp[Frame.enter,Frame.atR,hf,x,b]
 obtain⟨e,a,q,hq,j⟩:=h b cs rfl
 have t:∀{m v:Machine},bG P m v→StepsIn (Machine.fenced P Fence.wide) P m v:=λh=>h.mono λm _=>fenced_wide P m
 rw[←y]at j
 cases e with
 |normal=>
   obtain⟨d,p,g,i,hs,k,o⟩:=leaves_stepsInM a.defers .returning q {b.atR a []with mode:=.returning} cs rfl rfl rfl hf rfl trivial hr hq
   exact⟨d,p,g,i,Ac7 (Ry (t j) (.one (fenced_wide _ _) (stepR_end rfl))) hs,k,o⟩
 |ret=>
   obtain⟨s,r⟩:=j.1 rfl
   obtain⟨d,p,g,i,hs,k,o⟩:=leaves_stepsInM a.defers .returning q {b.atR a s with mode:=.returning} cs rfl rfl rfl hf rfl trivial hr hq
   exact⟨d,p,g,i,Ac7 (t r) hs,k,o⟩
 |panic u=>
   obtain⟨s,r⟩:=j
   obtain⟨d,p,g,i,hs,k,o⟩:=leaves_stepsInM a.defers (.panicking u) q {b.atR a s with mode:=.panicking u} cs rfl rfl rfl hf rfl trivial hr hq
   exact⟨d,p,g,i,Ac7 (t r) hs,k,o⟩
 |exit z=>exact hq.elim
 |goto l=>exact hq.elim
 |outgrown=>exact⟨.outgrown,q,b,hq,j.resolve_left (by simp[b]),rfl,trivial⟩
theorem hB {α:Type}:∀(k:Ask α) (w:World),w.drawn≤(w.ask k).2.drawn
 | .done a,w=>BU _
 | .ask c b k,w=>by unfold World.ask;dsimp only;split;{exact hB (k 0) w};{exact Gj (Nat.le_succ _) (hB (k _) {w with drawn:=w.drawn+1})}
def Ah9 (w:World)(c:Sys):w.drawn≤(w.sys c).2.drawn:=by have h:=hB (Kernel.perform c w.os) w;unfold World.sys;generalize w.ask (Kernel.perform c w.os)=p at *;split;{exact BU _};{exact h}
def Aun {p:Program}{w a:World}{at_:Addr}{u:TypeId}{k:Addr}{v:Value}{b:Bool}{l:List Addr}(h:w.viewStore p at_ u k v b=.ok (a,l)):a.drawn=w.drawn:=by
 unfold World.viewStore at h;simp only[bind,Except.bind,pure,Except.pure,throw,throwThe,MonadExceptOf.throw]at h;(repeat'(split at h))
 all_goals first
  |(cases h;done)
  |(injection h with h;injection h with h _;rw[←h];done)
  |skip
def A03 {p:Program}{w c:World}{a:Addr}{v:Value}{b:Bool}{l:List Addr}(h:w.farStore p a v b=.ok (c,l)):c.drawn=w.drawn:=by unfold World.farStore at h;split at h;{split at h;{rename_i r hr;injection h with h;subst h;exact Aun hr};{cases h}};{cases h}
def Azv (w:World)(a:Addr)(n:Nat):(w.freeze a n).drawn=w.drawn:=by unfold World.freeze;split<;>rfl
theorem Io {α:Type}{p:Program}:∀(s:Sem α) {w b:World} {a:α},s.run p w=.ok a b→w.drawn≤b.drawn
 | .pure a,w,b,_,h=>by unfold Sem.run at h;injection h with _ h;rw[h];exact BU _
 | .load m a k,w,b,_,h=>by unfold Sem.run at h;split at h;{exact Io (k _) h};{split at h;{exact Io (k _) h};{cases h}}
 | .store m a v k,w,b,a9,h=>by
  (have fin:∀{w2:World},w.drawn=w2.drawn→k.run p w2=.ok a9 b→w.drawn≤b.drawn:=λe h=>by rw[e];exact Io k h);cases v;(all_goals simp only[Sem.run]at h)
  all_goals first
   |(cases h;done)
   |(
      split at h
      · split at h
        · cases h
        · exact fin (w2:=w.setCell _ _) rfl h
      · split at h
        · rename_i hf;exact fin (A03 hf).symm h
        · cases h)
 | .new o k,w,b,_,h=>by unfold Sem.run at h;exact Io (k _) (w:={w with heap:=w.heap.push o}) h
 | .shape r k,w,b,_,h=>by unfold Sem.run at h;exact Io (k _) h
 | .freeze a n k,w,b,_,h=>by unfold Sem.run at h;have:=Io k h;rwa [Azv]at this
 | .frozen a k,w,b,_,h=>by unfold Sem.run at h;exact Io (k _) h
 | .getObj r k,w,b,_,h=>by unfold Sem.run at h;split at h;{cases h};{exact Io (k _) h};{cases h}
 | .setObj r o k,w,b,_,h=>by unfold Sem.run at h;split at h;{cases h};{exact Io k (w:={w with heap:=w.heap.setIfInBounds r o}) h};{cases h}
 | .choose q k,w,b,_,h=>by unfold Sem.run at h;split at h;{exact Io (k _) h};{exact Gj (Nat.le_succ _) (Io (k _) (w:={w with drawn:=w.drawn+1}) h)}
 | .sys c k,w,b,_,h=>by unfold Sem.run at h;exact Gj (Ah9 w c) (Io (k _) h)
 | .program k,w,b,_,h=>by unfold Sem.run at h;exact Io (k _) h
 | .mark m k,w,b,_,h=>by unfold Sem.run at h;exact Io k h
 | .halt hh,w,b,_,h=>by unfold Sem.run at h;cases h
abbrev AW:=List (Nat×Value)
def CN (i:Nat):AW→Vh
 |[]=>none
 |(j,v)::r=>bif Nat.beq i j then some v else CN i r
def AJ (l:AW):Operand→Vh
 | .tmp t=>CN t l
 | .const v=>some v
 | .global g=>some (AD g)
 | .func f=>some (.func (.func f) #[] #[])
def UN {i:Nat}{v:Value}{l:AW}:CN i ((i,v)::l)=some v:=by simp[CN,Uq]
def UF {i j:Nat}{v:Value}{l:AW}(h:i≠j):CN i ((j,v)::l)=CN i l:=by(have:Nat.beq i j=false:=by{cases a:Nat.beq i j with|false=>rfl|true=>exact absurd (Mc a) h});simp[CN,this]
def Hl (l:AW) (a:Act):Prop:=∀i v,CN i l=some v→a.tmps[i]?=some v
def Hl.eval {l:AW}{a:Act}(h:Hl l a){x:Operand}{v:Value}(hx:AJ l x=some v):a.eval x=v:=by cases x with|tmp t=>simp only[Act.eval,AJ]at *;simp[Array.getD_eq_getD_getElem?,h t v hx]|const u=>simpa[Act.eval,AJ]using hx|global g=>simpa[Act.eval,AJ]using hx|func f=>simpa[Act.eval,AJ]using hx
def Hl.put {l:AW}{a:Act}(h:Hl l a){d:Nat}(c:d<a.tmps.size)(v:Value):Hl ((d,v)::l) (a.put (some d) v):=by intro i u b;simp only[Act.put];by_cases hi:i=d;{subst hi;rw[UN]at b;injection b with b;subst b;simp[c]};{rw[UF hi]at b;rw[A1b (KX hi)];exact h i u b}
def Hl.sub {l l':AW}{a:Act}(h:Hl l a)(hs:∀i v,CN i l'=some v→CN i l=some v):Hl l' a:=λi v hv=>h i v (hs i v hv)
abbrev U:=Nat→Option Obj
def mem (w:World):U:=λi=>w.heap[i]?
def V (h h':U):Prop:=∀i o,h i=some o→h' i=some o
def V.refl (h:U):V h h:=λ_ _ e=>e
def V.trans {a b c:U}(h:V a b)(k:V b c):V a c:=λi o e=>k i o (h i o e)
structure EQ where
 holds:BD→U→Prop
 loc:∀D m m',(∀b∈D,m b=m' b)→holds D m→holds D m'
abbrev Am:=List EQ
def Ap (b:Nat) (T:TypeId) (cs:Ao):EQ:=
 ⟨λD m=>D=[b]∧m b=some (.cells cs.toArray T (0,0)),λD m c h ⟨a,hm⟩=>⟨a,by rw[←h b (by simp[a])];exact hm⟩⟩
def Uf (b:Nat) (p:Obj→Prop):EQ:=
 ⟨λD m=>D=[b]∧∃o,m b=some o∧p o,λD m c h ⟨a,o,hm,hp⟩=>⟨a,o,by rw[←h b (by simp[a])];exact hm,hp⟩⟩
def Ar (e:TypeId) (sz:Nat) (v:Value) (n:Nat) (xs:Ao):EQ:=
 ⟨λD m=>xs.length=n*sz∧((v=.slice none 0 0∧n=0∧D=[])∨
  ∃g a b,v=.slice (some (Av g)) n a∧D=[g]∧m g=some (.cells b e (0,0))∧n≤a∧a≤maxLen∧b.size=a*sz∧b.toList.take (n*sz)=xs),
  λD m f h ⟨d,hr⟩=>⟨d,hr.imp id λ⟨g,a,b,h1,h2,h3,c⟩=>⟨g,a,b,h1,h2,by rw[←h g (by simp[h2])];exact h3,c⟩⟩⟩
def Cy:Am→Hd→U→Prop
 |[],[],_=>True
 |A::Es,D::a,m=>A.holds D m∧Cy Es a m
 |_,_,_=>False
theorem Cy.loc:∀{Es:Am} {a:Hd} {m c:U},(∀b∈a.flatten,m b=c b)→Cy Es a m→Cy Es a c
 |[],[],_,_,_,_=>trivial
 |A::Es,D::a,m,c,h,⟨h1,h2⟩=>⟨A.loc D m c (λb d=>h b (by simp[d])) h1,Cy.loc (λb d=>h b (by simp only[Gk,AO];exact .inr d)) h2⟩
 |[],_::_,_,_,_,h=>h.elim
 |_::_,[],_,_,_,h=>h.elim
structure Bq (w0:World) (X0:BD) (h0:U) (Es:Am) (h:U) (w:World):Prop where
 os:w.os=w0.os
 tape:w.tape=w0.tape
 output:w.output=w0.output
 size:w0.heap.size≤w.heap.size
 dr:w0.drawn≤w.drawn
 old:∀i,i<w0.heap.size→i∉X0→w.heap[i]?=w0.heap[i]?
 ro:V h (mem w)
 le:V h0 h
 new:∀i o,h i=some o→h0 i=some o∨w0.heap.size≤i∨i∈X0
 own:∃Ds:Hd,Cy Es Ds (mem w)∧Ds.flatten.Nodup∧∀b∈Ds.flatten,h b=none∧(w0.heap.size≤b∨b∈X0)∧b<w.heap.size
def V.lt {h:U}{w:World}(hr:V h (mem w)){i:Nat}{o:Obj}(e:h i=some o):i<w.heap.size:=by have:=hr i o e;rcases KY i w.heap.size with a|hg;{exact a};{simp[mem,Ad3 hg]at this}
section hp
variable {w0:World} {X0:BD} {h0 h:U} {Es:Am} {w:World}
def Bq.drew (H:Bq w0 X0 h0 Es h w):Bq w0 X0 h0 Es h {w with drawn:=w.drawn+1}:=⟨H.os,H.tape,H.output,H.size,Nat.le_succ_of_le H.dr,H.old,H.ro,H.le,H.new,H.own⟩
def Bq.turn {a:World}{Es':Am}(H:Bq w0 X0 h0 Es h w)(q:a.os=w.os)(v:a.tape=w.tape)(r:a.output=w.output)(u:w.heap.size≤a.heap.size)
  (s:∀c,Cy Es c (mem w)→c.flatten.Nodup→(∀b∈c.flatten,b<w.heap.size)→∃d,Cy Es' d (mem a)∧d.flatten.Nodup∧(∀b∈d.flatten,(b∈c.flatten∨w.heap.size≤b)∧b<a.heap.size)∧
    ∀i,i<w.heap.size→i∉c.flatten→a.heap[i]?=w.heap[i]?) (hdr:w.drawn≤a.drawn:=by first|exact BU _|exact Nat.le_add_right _ _|exact Nat.le_of_eq rfl):Bq w0 X0 h0 Es' h a:=by
 obtain⟨c,n,hn,f⟩:=H.own
 obtain⟨d,p,m,k,j⟩:=s c n hn (λb h=>(f b h).2.2)
 have t:V h (mem a):=λi o e=>by
  have l:=H.ro.lt e
  have g:i∉c.flatten:=λhi=>by have:=(f i hi).1;rw[this]at e;cases e
  show a.heap[i]?=some o
  rw[j i l g];exact H.ro i o e
 refine⟨q.trans H.os,v.trans H.tape,r.trans H.output,Gj H.size u,Gj H.dr hdr,λi hi hx=>?_,t,H.le,H.new,d,p,m,λb hb1=>?_⟩
 · have g:i∉c.flatten:=λh'=>by rcases(f i h').2.1 with h1|h1;omega;exact hx h1
   rw[j i (Up hi H.size) g];exact H.old i hi hx
 · obtain⟨h1,h2⟩:=k b hb1
   rcases h1 with h1|h1
   · exact⟨(f b h1).1,(f b h1).2.1,h2⟩
   · refine⟨?_,.inl (Gj H.size h1),h2⟩
     cases e:h b with
     |none=>rfl
     |some o=>have:=H.ro.lt e;omega
def Yc {w:World}{o:Obj}{i:Nat}(h:i<w.heap.size):(w.heap.push o)[i]?=w.heap[i]?:=by rw[Array.getElem?_push,if_neg (by omega)]
def Bq.alloc (H:Bq w0 X0 h0 Es h w)(o:Obj)(A:EQ)(e:∀m:U,m w.heap.size=some o→A.holds [w.heap.size] m) :
  Bq w0 X0 h0 (A::Es) h {w with heap:=w.heap.push o}:=by
 refine H.turn rfl rfl rfl (by simp) λd f hn c=>⟨[w.heap.size]::d,⟨e _ (by simp[mem]),Cy.loc (λb a=>?_) f⟩,?_,?_,λi hi _=>Yc hi⟩
 · show w.heap[b]?=(w.heap.push o)[b]?
   rw[Yc (c b a)]
 · simp only[Gk,eE,Kv]
   exact⟨λhm=>absurd (c _ hm) (by omega),hn⟩
 · intro b a
   simp only[Gk,eE,Bx]at a
   rcases a with rfl|a
   · exact⟨.inr (BU _),by simp⟩
   · exact⟨.inl a,by have:=c b a;simp;omega⟩
def U.with (h:U) (b:Nat) (o:Obj):U:=λi=>if i=b then some o else h i
end hp
def Ei (Es:Am) (A A':EQ) (Es':Am):Prop:=∃p q,Es=p++A::q∧Es'=p++A'::q
def Ei.here {A A':EQ}{r:Am}:Ei (A::r) A A' (A'::r):=⟨[],r,rfl,rfl⟩
def Ei.there {A A' a:EQ}{r b:Am}(h:Ei r A A' b):Ei (a::r) A A' (a::b):=by obtain⟨p,q,rfl,rfl⟩:=h;exact⟨a::p,q,rfl,rfl⟩
def Ei.rec_ {motive:Am→EQ→EQ→Am→Prop}(here:∀{A A' r},motive (A::r) A A' (A'::r))(there:∀{A A' a r b},motive r A A' b→motive (a::r) A A' (a::b)){Es A A' Es'}(h:Ei Es A A' Es'):motive Es A A' Es':=by obtain⟨p,q,rfl,rfl⟩:=h;induction p with|nil=>exact here|cons a p c=>exact there c
def C' (Es:Am) (A:EQ) (Es':Am):Prop:=∃p q,Es=p++A::q∧Es'=p++q
def C'.here {A:EQ}{r:Am}:C' (A::r) A r:=⟨[],r,rfl,rfl⟩
def C'.there {A a:EQ}{r b:Am}(h:C' r A b):C' (a::r) A (a::b):=by obtain⟨p,q,rfl,rfl⟩:=h;exact⟨a::p,q,rfl,rfl⟩
def C'.rec_ {motive:Am→EQ→Am→Prop}(here:∀{A r},motive (A::r) A r)(there:∀{A a r b},motive r A b→motive (a::r) A (a::b)){Es A Es'}(h:C' Es A Es'):motive Es A Es':=by obtain⟨p,q,rfl,rfl⟩:=h;induction p with|nil=>exact here|cons a p c=>exact there c
def Ei.own {Es Es':Am}{A A':EQ}(y:Ei Es A A' Es'):∀{d:Hd} {m:U},Cy Es d m→d.flatten.Nodup→
  ∃D,A.holds D m∧D.Nodup∧(∀b∈D,b∈d.flatten)∧∀(g:U) (f:BD),A'.holds f g→f.Nodup→(∀b∈f,b∈D∨b∉d.flatten)→(∀b,b∈d.flatten→b∉D→m b=g b)→
   ∃h,Cy Es' h g∧h.flatten.Nodup∧∀b∈h.flatten,b∈d.flatten∨b∈f:=by
 refine Ei.rec_ (motive:=λEs A A' Es'=>∀{d:Hd} {m:U},Cy Es d m→d.flatten.Nodup→
  ∃D,A.holds D m∧D.Nodup∧(∀b∈D,b∈d.flatten)∧∀(g:U) (f:BD),A'.holds f g→f.Nodup→(∀b∈f,b∈D∨b∉d.flatten)→(∀b,b∈d.flatten→b∉D→m b=g b)→
   ∃h,Cy Es' h g∧h.flatten.Nodup∧∀b∈h.flatten,b∈d.flatten∨b∈f) ?_ ?_ y
 · intro A A' r d m i hn
   cases d with
   |nil=>exact i.elim
   |cons D d=>
     rw[Gk,Fm]at hn
     refine⟨D,i.1,hn.1,λb c=>by simp[c],λg f n o l k=>⟨f::d,⟨n,Cy.loc (λb c=>k b (by simp only[Gk,AO];exact .inr c) (λw=>hn.2.2 b w b c rfl)) i.2⟩,?_,?_⟩⟩
     · rw[Gk,Fm]
       refine⟨o,hn.2.1,λa j b c e=>?_⟩
       subst e
       rcases l a j with h1|h1
       · exact hn.2.2 a h1 a c rfl
       · exact h1 (by simp only[Gk,AO];exact .inr c)
     · intro b c
       simp only[Gk,AO]at c ⊢
       rcases c with h1|h1
       · exact .inr h1
       · exact .inl (.inr h1)
 · intro A A' u r ad ac d m i hn
   cases d with
   |nil=>exact i.elim
   |cons s d=>
     rw[Gk,Fm]at hn
     obtain⟨D,v,x,q,z⟩:=ac i.2 hn.2.1
     refine⟨D,v,x,λb c=>by simp only[Gk,AO];exact .inr (q b c),λg f n o l k=>?_⟩
     obtain⟨h,ab,aa,t⟩:=z g f n o (λb c=>(l b c).imp id λh1 h2=>h1 (by simp only[Gk,AO];exact .inr h2)) (λb c p=>k b (by simp only[Gk,AO];exact .inr c) p)
     refine⟨s::h,⟨u.loc s m g (λb c=>k b (by simp[c]) (λp=>hn.2.2 b c b (q b p) rfl)) i.1,ab⟩,?_,?_⟩
     · rw[Gk,Fm]
       refine⟨hn.1,aa,λa j b c e=>?_⟩
       subst e
       rcases t a c with h1|h1
       · exact hn.2.2 a j a h1 rfl
       · rcases l a h1 with h2|h2
         · exact hn.2.2 a j a (q a h2) rfl
         · exact h2 (by simp[j])
     · intro b c
       simp only[Gk,AO]at c ⊢
       rcases c with h1|h1
       · exact .inl (.inl h1)
       · rcases t b h1 with h2|h2
         · exact .inl (.inr h2)
         · exact .inr h2
def C'.own {Es Es':Am}{A:EQ}(hT:C' Es A Es'):∀{c:Hd} {m:U},Cy Es c m→c.flatten.Nodup→
  ∃D d,A.holds D m∧Cy Es' d m∧(D++d.flatten).Nodup∧∀b,b∈c.flatten↔b∈D∨b∈d.flatten:=by
 refine C'.rec_ (motive:=λEs A Es'=>∀{c:Hd} {m:U},Cy Es c m→c.flatten.Nodup→
  ∃D d,A.holds D m∧Cy Es' d m∧(D++d.flatten).Nodup∧∀b,b∈c.flatten↔b∈D∨b∈d.flatten) ?_ ?_ hT
 · intro A r c m f hn
   cases c with
   |nil=>exact f.elim
   |cons D c=>exact⟨D,c,f.1,f.2,by simpa using hn,λb=>by simp⟩
 · intro A q r s p c m f hn
   cases c with
   |nil=>exact f.elim
   |cons l c=>
     rw[Gk,Fm]at hn
     obtain⟨D,d,n,o,i,k⟩:=p f.2 hn.2.1
     rw[Fm]at i
     refine⟨D,l::d,n,⟨f.1,o⟩,?_,λb=>?_⟩
     · rw[Gk,Fm,Fm]
       refine⟨i.1,⟨hn.1,i.2.1,λa g b j e=>?_⟩,λa g b j e=>?_⟩
       · subst e;exact hn.2.2 a g a ((k a).2 (.inr j)) rfl
       · subst e
         rcases AO.1 j with h1|h1
         · exact hn.2.2 a h1 a ((k a).2 (.inl g)) rfl
         · exact i.2.2 a g a h1 rfl
     · simp only[Gk,AO,k b]
       constructor
       · rintro(h|h|h)
         · exact .inr (.inl h)
         · exact .inl h
         · exact .inr (.inr h)
       · rintro(h|h|h)
         · exact .inr (.inl h)
         · exact .inl h
         · exact .inr (.inr h)
def Cy.get {Es:Am}{A:EQ}(e:A∈Es):∀{a:Hd} {m:U},Cy Es a m→∃D,A.holds D m∧∀b∈D,b∈a.flatten:=by induction Es with|nil=>(cases e)|cons i Es g=>intro a m d;cases a with|nil=>exact d.elim|cons D a=>rcases Bx.1 e with rfl|h;{exact⟨D,d.1,λb c=>by simp[c]⟩};{obtain⟨f,h1,h2⟩:=g h d.2;exact⟨f,h1,λb c=>by simp only[Gk,AO];exact .inr (h2 b c)⟩}
section hp2
variable {w0:World} {X0:BD} {h0 h:U} {Es Es':Am} {w:World}
def Bq.get (H:Bq w0 X0 h0 Es h w){A:EQ}(a:A∈Es):∃D,A.holds D (mem w):=by obtain⟨c,b,_⟩:=H.own;obtain⟨D,h1,_⟩:=b.get a;exact⟨D,h1⟩
def Bq.blk (H:Bq w0 X0 h0 Es h w){b:Nat}{T:TypeId}{cs:Ao}(a:Ap b T cs∈Es):w.heap[b]?=some (.cells cs.toArray T (0,0)):=by obtain⟨D,_,h1⟩:=H.get a;exact h1
def Bq.repl {a:World}{A A':EQ}(H:Bq w0 X0 h0 Es h w)(q:Ei Es A A' Es')(z:a.os=w.os)(ac:a.tape=w.tape)(aa:a.output=w.output)(j:w.heap.size≤a.heap.size)
  (ab:∀D,A.holds D (mem w)→D.Nodup→(∀b∈D,b<w.heap.size)→∃c,A'.holds c (mem a)∧c.Nodup∧(∀b∈c,(b∈D∨w.heap.size≤b)∧b<a.heap.size)∧∀i,i<w.heap.size→i∉D→a.heap[i]?=w.heap[i]?) (hdr:w.drawn≤a.drawn:=by first|exact BU _|exact Nat.le_add_right _ _|exact Nat.le_of_eq rfl) :
  Bq w0 X0 h0 Es' h a:=by
 refine H.turn z ac aa j (hdr:=hdr) λad x hn d=>?_
 obtain⟨D,l,p,e,s⟩:=q.own x hn
 obtain⟨c,m,o,f,g⟩:=ab D l p (λb h1=>d b (e b h1))
 obtain⟨k,y,u,t⟩:=s (mem a) c m o (λb hb1=>(f b hb1).1.imp id λh1 h2=>absurd (d b h2) (by omega)) (λb hb1 r=>(g b (d b hb1) r).symm)
 refine⟨k,y,u,λb hb1=>?_,λi hi v=>g i hi (λn=>v (e i n))⟩
 rcases t b hb1 with h1|h1
 · exact⟨.inl h1,Up (d b h1) j⟩
 · obtain⟨h2,h3⟩:=f b h1
   rcases h2 with h2|h2
   · exact⟨.inl (e b h2),h3⟩
   · exact⟨.inr h2,h3⟩
def Bq.asn {A A':EQ}(H:Bq w0 X0 h0 Es h w)(c:Ei Es A A' Es')(hi:∀D m,A.holds D m→A'.holds D m):Bq w0 X0 h0 Es' h w:=
 H.repl c rfl rfl rfl (BU _) λD a hn d=>⟨D,hi D _ a,hn,λb h1=>⟨.inl h1,d b h1⟩,λ_ _ _=>rfl⟩
def Bq.release {A:EQ}(H:Bq w0 X0 h0 Es h w)(hT:C' Es A Es'):∃D h',V h h'∧A.holds D h'∧Bq w0 X0 h0 Es' h' w:=by obtain⟨p,m,hn,a⟩:=H.own;obtain⟨D,g,k,n,d,c⟩:=hT.own m hn;rw[Fm]at d;have f:∀b,b∈D→h b=none:=λb h1=>(a b ((c b).2 (.inl h1))).1;refine⟨D,λi=>if i∈D then mem w i else h i,λi o e=>?_,A.loc D (mem w) _ (λb h1=>by simp[h1]) k,H.os,H.tape,H.output,H.size,H.dr,H.old,λi o e=>?_,H.le.trans λi o e=>?_,λi o e=>?_,g,n,d.2.1,λb h1=>?_⟩;{by_cases hi:i∈D;{rw[f i hi]at e;cases e};{simpa[hi]using e}};{by_cases hi:i∈D;{simpa[hi]using e};{exact H.ro i o (by simpa[hi]using e)}};{by_cases hi:i∈D;{rw[f i hi]at e;cases e};{simpa[hi]using e}};{by_cases hi:i∈D;{exact .inr (a i ((c i).2 (.inl hi))).2.1};{exact H.new i o (by simpa[hi]using e)}};{have l:b∉D:=λh2=>d.2.2 b h2 b h1 rfl;obtain⟨h2,h3,j⟩:=a b ((c b).2 (.inr h1));exact⟨by simp[l,h2],h3,j⟩}
def Bq.drop {A:EQ}(H:Bq w0 X0 h0 Es h w)(hT:C' Es A Es'):Bq w0 X0 h0 Es' h w:=by obtain⟨i,f,hn,d⟩:=H.own;obtain⟨D,c,j,g,a,e⟩:=hT.own f hn;rw[Fm]at a;exact⟨H.os,H.tape,H.output,H.size,H.dr,H.old,H.ro,H.le,H.new,c,g,a.2.1,λb h1=>d b ((e b).2 (.inr h1))⟩
end hp2
def AP (P:Program) (f:FuncId) (args:Dx) (Es0:Am) (h0:U) (Post:Value→Am→U→Prop):Prop:=
 ∀(w:World) (X0:BD),V h0 (mem w)→
  (∃a:Hd,Cy Es0 a (mem w)∧a.flatten.Nodup∧∀b∈a.flatten,h0 b=none∧b∈X0∧b<w.heap.size)→
  Calls P f args w λe c=>∃v,e=.returned v∧∃Es h,Post v Es h∧Bq w X0 h0 Es h c
def AP.mono {P:Program}{f:FuncId}{args:Dx}{Es0:Am}{h0:U}{Post a:Value→Am→U→Prop}(h:AP P f args Es0 h0 Post)
  (hp:∀v Es h,V h0 h→Post v Es h→a v Es h):AP P f args Es0 h0 a:=λw X0 d e=>
 (h w X0 d e).mono λ_ _ ⟨v,c,Es,h,b,H⟩=>⟨v,c,Es,h,hp v Es h H.le b,H⟩
theorem Cy.append:∀{Es Fs:Am} {Ds Gs:Hd} {m:U},Cy Es Ds m→Cy Fs Gs m→Cy (Es++Fs) (Ds++Gs) m
 |[],_,[],_,_,_,h=>h
 |_::_,_,_::_,_,_,⟨h1,h2⟩,h=>⟨h1,Cy.append h2 h⟩
 |[],_,_::_,_,_,h,_=>h.elim
 |_::_,_,[],_,_,h,_=>h.elim
theorem Cy.split:∀{Es Fs:Am} {a:Hd} {m:U},Cy (Es++Fs) a m→∃b c,a=b++c∧Cy Es b m∧Cy Fs c m
 |[],_,a,_,h=>⟨[],a,rfl,trivial,h⟩
 |A::Es,Fs,D::a,m,⟨h1,h2⟩=>by obtain⟨b,c,rfl,h3,d⟩:=Cy.split (Es:=Es) (Fs:=Fs) h2;exact⟨D::b,c,rfl,⟨h1,h3⟩,d⟩
 |_::_,_,[],_,h=>h.elim
def Bq.call {w0 w q:World}{X0:BD}{h0 h h':U}{Es0 l Fs:Am}{d f:Hd}(H:Bq w0 X0 h0 (Es0++Fs) h w)
  (y:Cy Es0 d (mem w)) (x:Cy Fs f (mem w)) (hn:(d++f).flatten.Nodup) (m:∀b∈(d++f).flatten,h b=none∧(w0.heap.size≤b∨b∈X0)∧b<w.heap.size)
  (c:Bq w d.flatten h l h' q):Bq w0 X0 h0 (l++Fs) h' q:=by
 obtain⟨r,v,t,n⟩:=c.own
 have hb1:∀b∈d.flatten,h b=none∧(w0.heap.size≤b∨b∈X0)∧b<w.heap.size:=λb h1=>m b (by rw[Ib,AO];exact .inl h1)
 have k:∀b∈f.flatten,h b=none∧(w0.heap.size≤b∨b∈X0)∧b<w.heap.size:=λb h1=>m b (by rw[Ib,AO];exact .inr h1)
 rw[Ib,Fm]at hn
 refine⟨c.os.trans H.os,c.tape.trans H.tape,c.output.trans H.output,Gj H.size c.size,Gj H.dr c.dr,λi hi hx=>?_,c.ro,H.le.trans c.le,λi o e=>?_,r++f,Cy.append v (Cy.loc (λb h1=>?_) x),?_,λb h1=>?_⟩
 · have u:i∉d.flatten:=λh1=>by rcases(hb1 i h1).2.1 with h2|h2;omega;exact hx h2
   rw[c.old i (Up hi H.size) u];exact H.old i hi hx
 · rcases c.new i o e with h1|h1|h1
   · exact H.new i o h1
   · exact .inr (.inl (Gj H.size h1))
   · exact .inr (hb1 i h1).2.1
 · exact(c.old b (k b h1).2.2 (λh2=>hn.2.2 b h2 b h1 rfl)).symm
 · rw[Ib,Fm]
   refine⟨t,hn.2.1,λa s b p e=>?_⟩
   subst e
   rcases(n a s).2.1 with h1|h1
   · have:=(k a p).2.2;omega
   · exact hn.2.2 a h1 a p rfl
 · rw[Ib,AO]at h1
   rcases h1 with h1|h1
   · obtain⟨h2,h3,j⟩:=n b h1
     refine⟨h2,?_,j⟩
     rcases h3 with h3|h3
     · exact .inl (Gj H.size h3)
     · exact(hb1 b h3).2.1
   · obtain⟨h2,h3,j⟩:=k b h1
     refine⟨?_,h3,Up j c.size⟩
     cases e:h' b with
     |none=>rfl
     |some o=>
       rcases c.new b o e with g|g|g
       · rw[h2]at g;cases g
       · omega
       · exact absurd rfl (hn.2.2 b g b h1)
structure Ay where
 id:Nat
 desc:TypeDesc
 size:Nat
 bytes:Nat
 zero:Value
abbrev ER:=List Ay
def AM (n:Nat):ER→Option Ay
 |[]=>none
 |t::r=>bif Nat.beq n t.id then some t else AM n r
def IV (f:Field):Field:={name:=if f.name = "_" then "_" else "",type:=f.type,offset:=f.offset,embedded:=false,tag:= "",pkgPath:= "",byteOffset:=0}
def GM:TypeDesc→TypeDesc
 | .struct fs=>.struct (fs.toList.map IV).toArray
 | .interface _=>.interface #[]
 | .named _ u=>.named "" u
 |d=>d
def A0v (P:Program) (t:Ay):Prop:=(P.underlying t.id).map GM=some t.desc∧(P.info? t.id).map (λi=>(i.size,i.bytes,i.zero))=some (t.size,t.bytes,some t.zero)
def FZ (P:Program) (ts:ER):Prop:=∀t∈ts,A0v P t
theorem Wf {n:Nat}{t:Ay}:∀{ts:ER},AM n ts=some t→t∈ts∧t.id=n
 |[],h=>by cases h
 |u::r,h=>by simp only[AM]at h;cases a:Nat.beq n u.id with|true=>rw[a]at h;simp only[cond_true,Eh]at h;subst h;exact⟨.head _,(Mc a).symm⟩|false=>rw[a]at h;simp only[cond_false]at h;exact⟨.tail _ (Wf h).1,(Wf h).2⟩
section
variable {P:Program} {ts:ER} (hT:FZ P ts)
include hT
def FZ.und {n:Nat}{t:Ay}(h:AM n ts=some t):∃D,P.underlying n=some D∧GM D=t.desc:=by obtain⟨h1,h2⟩:=Wf h;have:=(hT t h1).1;rw[h2]at this;exact XR.1 this
def FZ.info {n:Nat}{t:Ay}(h:AM n ts=some t):∃i,P.info? n=some i∧i.size=t.size∧i.bytes=t.bytes∧i.zero=some t.zero:=by obtain⟨h1,h2⟩:=Wf h;have:=(hT t h1).2;rw[h2]at this;obtain⟨i,hi,a⟩:=XR.1 this;simp only[Mb]at a;exact⟨i,hi,a.1,a.2.1,a.2.2⟩
def FZ.run_und {n:Nat}{t:Ay}(h:AM n ts=some t):∃D,(∀w,(underlying n).run P w=.ok D w)∧GM D=t.desc:=by obtain⟨D,h1,h2⟩:=hT.und h;exact⟨D,λw=>run_underlying h1 w,h2⟩
def FZ.run_size {n:Nat}{t:Ay}(h:AM n ts=some t)(w:World):(sizeOf n).run P w=.ok t.size w:=by obtain⟨i,hi,h1,_⟩:=hT.info h;simp[sizeOf,typeInfo,hi,h1]
def FZ.run_zero {n:Nat}{t:Ay}(h:AM n ts=some t)(w:World):(zeroValue n).run P w=.ok t.zero w:=by obtain⟨i,hi,_,_,h1⟩:=hT.info h;simp[zeroValue,typeInfo,hi,h1]
end
def Ay.agg (t:Ay):Bool:=match t.desc with|.struct _|.array _ _=>true|_=>false
def FZ.run_agg {P:Program}{ts:ER}(hT:FZ P ts){n:Nat}{t:Ay}(h:AM n ts=some t)(w:World):(isAgg n).run P w=.ok t.agg w:=by obtain⟨D,a,b⟩:=hT.run_und h;simp only[isAgg,BK,a w,B',Ay.agg,←b];cases D<;>rfl
def Ho {D:TypeDesc}{e:TypeId}(h:GM D=.slice e):D=.slice e:=by cases D<;>simp_all[GM]
def Ou {D:TypeDesc}{n e:Nat}(h:GM D=.array n e):D=.array n e:=by cases D<;>simp_all[GM]
def QE {D:TypeDesc}{k e:TypeId}(h:GM D=.map k e):D=.map k e:=by cases D<;>simp_all[GM]
def Nk {D:TypeDesc}{k:IntKind}(h:GM D=.int k):D=.int k:=by cases D<;>simp_all[GM]
def Ox {D:TypeDesc}(h:GM D=.string):D=.string:=by cases D<;>simp_all[GM]
def ZT {D:TypeDesc}(h:GM D=.bool):D=.bool:=by cases D<;>simp_all[GM]
def nK {D:TypeDesc}{e:TypeId}(h:GM D=.pointer e):D=.pointer e:=by cases D<;>simp_all[GM]
def Sy {D:TypeDesc}{fs:Array Field}(h:GM D=.struct fs):∃gs,D=.struct gs∧gs.toList.map IV=fs.toList:=by cases D<;>simp only[GM,reduceCtorEq,TypeDesc.struct.injEq]at h;exact⟨_,rfl,by rw[←h]⟩
def OD:Nat→Ao→Vi
 |0,_=>some []
 |n+1,x::r=>match OD n r with|some a=>some (x::a)|none=>none
 |_+1,[]=>none
def cut:Nat→Nat→Ao→Vi
 |0,n,cs=>OD n cs
 |o+1,n,_::r=>cut o n r
 |_+1,_,[]=>none
def MC:Nat→Ao→Vh
 |0,x::_=>some x
 |o+1,_::r=>MC o r
 |_,[]=>none
def JR:Nat→Ao→Ao→Vi
 |0,[],cs=>OD cs.length cs
 |0,v::vs,_::r=>match JR 0 vs r with|some a=>some (v::a)|none=>none
 |0,_::_,[]=>none
 |o+1,vs,x::r=>match JR o vs r with|some a=>some (x::a)|none=>none
 |_+1,[],[]=>some []
 |_+1,_::_,[]=>none
theorem Zd:∀{n:Nat} {cs vs:Ao},OD n cs=some vs→vs=cs.take n∧n≤cs.length
 |0,cs,vs,h=>by simp only[OD,Eh]at h;subst h;simp
 |n+1,[],vs,h=>by cases h
 |n+1,x::r,vs,h=>by simp only[OD]at h;split at h;{rename_i a hr;obtain⟨h1,h2⟩:=Zd hr;injection h with h;subst h;subst h1;simp;omega};{cases h}
theorem WK:∀{o n:Nat} {cs vs:Ao},cut o n cs=some vs→vs=(cs.drop o).take n∧o+n≤cs.length
 |0,n,cs,vs,h=>by obtain⟨h1,h2⟩:=Zd (by simpa[cut]using h);subst h1;simp;omega
 |o+1,n,[],vs,h=>by cases h
 |o+1,n,x::r,vs,h=>by obtain⟨h1,h2⟩:=WK (o:=o) (n:=n) (cs:=r) (vs:=vs) (by simpa[cut]using h);subst h1;simp;omega
theorem UI:∀{o:Nat} {cs:Ao} {v:Value},MC o cs=some v→cs[o]?=some v
 |0,[],v,h=>by cases h
 |0,x::r,v,h=>by simpa[MC]using h
 |o+1,[],v,h=>by cases h
 |o+1,x::r,v,h=>by simpa using UI (o:=o) (cs:=r) (v:=v) (by simpa[MC]using h)
theorem Vd:∀{o:Nat} {vs cs r:Ao},JR o vs cs=some r→r=cs.take o++vs++cs.drop (o+vs.length)∧(vs≠[]→o+vs.length≤cs.length)
 |0,[],cs,r,h=>by obtain⟨h1,h2⟩:=Zd (by simpa[JR]using h);subst h1;simp
 |0,v::vs,[],r,h=>by cases h
 |0,v::vs,x::cs,r,h=>by simp only[JR]at h;split at h;{rename_i a hr;obtain⟨h1,h2⟩:=Vd hr;injection h with h;subst h;subst h1;refine⟨by simp,λ_=>?_⟩;cases vs with|nil=>simp|cons=>have:=h2 (by simp);simp at this ⊢;omega};{cases h}
 |o+1,vs,x::cs,r,h=>by simp only[JR]at h;split at h;{rename_i a hr;obtain⟨h1,h2⟩:=Vd hr;injection h with h;subst h;subst h1;refine⟨by simp[Nat.add_right_comm],λhv=>?_⟩;have:=h2 hv;simp;omega};{cases h}
 |o+1,[],[],r,h=>by simp only[JR,Eh]at h;subst h;simp
 |o+1,v::vs,[],r,h=>by cases h
@[irreducible] def DZ (a b:Int):Bool:=decide (a=b)
@[irreducible] def FR (a b:Int):Bool:=decide (a<b)
@[irreducible] def Lm (a b:Int):Bool:=decide (a≤b)
def FP (a b:Int):DZ a b=decide (a=b):=by unfold DZ;rfl
def OO (a b:Int):FR a b=decide (a<b):=by unfold FR;rfl
def ON (a b:Int):Lm a b=decide (a≤b):=by unfold Lm;rfl
def Fb (a b:Int):(DZ a b=true)=(a=b):=by simp[FP]
def Lw (a b:Int):(FR a b=true)=(a<b):=by simp[OO]
def GV (a b:Int):(Lm a b=true)=(a≤b):=by simp[ON]
def Tc (a b:Int):(DZ a b=false)=(a≠b):=by simp[FP]
def PD (a b:Int):(FR a b=false)=(b≤a):=by simp[OO]
def SZ (a b:Int):(Lm a b=false)=(b<a):=by simp[ON]
def BI {p:Prop}(h:p:=by first|exact V.refl _|assumption|(repeat(first|assumption|(apply V.trans;assumption)))):p:=h
def F {α:Sort _}{a:α}:a=a:=rfl
def Jf:(∀a b,(DZ a b=true)=(a=b))∧(∀a b,(FR a b=true)=(a<b))∧(∀a b,(Lm a b=true)=(a≤b))∧(∀a b,(DZ a b=false)=(a≠b))∧(∀a b,(FR a b=false)=(b≤a))∧(∀a b,(Lm a b=false)=(b<a))∧(∀b:Bool,((!b)=true)=(b=false))∧(∀b:Bool,((!b)=false)=(b=true))∧(∀(p:Prop) [Decidable p],(decide p=true)=p)∧(∀(p:Prop) [Decidable p],(decide p=false)↔¬p):=⟨Fb,Lw,GV,Tc,PD,SZ,λ_=>IE _,λ_=>hF _,λ_=>decide_eq_true_eq,λ_=>decide_eq_false_iff_not⟩
def Ak {p:Prop}(h:p:=by(first|exact wP rfl|(apply uG;(repeat'(first|exact trivial|apply And.intro|exact La _|apply eT));done)|(apply Wh;(repeat'(first|exact trivial|apply And.intro|exact La _|apply eT));done))):p:=h
def Ad {p:Prop}(h:p:=by(repeat(first|exact TC|(apply ZR;exact(by(repeat(first|exact C'.here|apply C'.there));done))));done):p:=h
def Bh {p:Prop}(h:p:=by(repeat(first|exact C'.here|apply C'.there));done):p:=h
def Bp {p:Prop}(h:p:=by(repeat(first|exact Ei.here|apply Ei.there));done):p:=h
def Bc {p:Prop}(h:p:=by(repeat(first|exact La _|apply eT));done):p:=h
def Af {p:Prop}(h:p:=by(repeat(first|exact trivial|refine⟨rfl,?_⟩));done):p:=h
def AX {p:Prop}(h:p:=by repeat'(first|exact trivial|apply And.intro|exact La _|apply eT)):p:=h
def AF {p q:Prop}(g:q)(h:(Unit→q)→p:=by intro Qg;first|(refine Awi ?_;exact Qg ())|(refine Awj ?_;exact Qg ())):p:=h λ_=>g
def Ba {p q:Prop}(g:q)(h:(Unit→q)→p:=by intro Qg;first|(apply bV;first|(apply fP;exact Qg ())|(apply dF;exact Qg ())|(apply ZO;exact Qg ())|(apply fC;exact Qg ())|(apply gX;exact Qg ())|(apply dE;exact F;exact Qg ())|(refine bS ?_;exact Qg ())|(refine bT ?_;exact Qg ())|fail)|(apply TO;first|(apply dG;exact Qg ()))):p:=h λ_=>g
def Eo {p q:Prop}(g:q)(h:(Unit→q)→p:=by intro Qg;first|(apply TO;first|(apply Ya;exact F;exact F;exact Qg ())|(apply YB;(iterate 3 exact F);omega;exact F;exact F;exact Qg ())|(apply YC;(iterate 3 exact F);omega;exact F;exact F;exact Qg ())|(apply NJ;(iterate 3 exact F);exact Qg ())|(apply VT;exact F;exact JS rfl Bc rfl;exact F;exact F;exact Qg ()))|(apply WT;first|(apply UP;exact F;kernel_rfl;exact F;exact F;exact Qg ())|(apply WI;exact F;kernel_rfl;(iterate 5 exact F);omega;exact Qg ())|(apply WJ;exact F;kernel_rfl;(iterate 5 exact F);omega;exact Qg ())|(apply YA;exact F;kernel_rfl;(iterate 3 exact F);exact Qg ())|(apply VU;exact F;kernel_rfl;(iterate 3 exact F);exact Bc;exact F;exact F;exact Qg ())|(apply YD;kernel_rfl;exact F;exact Qg ()))):p:=h λ_=>g
def Aa {p q:Prop}(g:q)(h:(Unit→q)→p:=by intro Qg;first|(apply bV;first|(apply fP;exact Qg ())|(apply dF;exact Qg ())|(apply ZO;exact Qg ())|(apply fC;exact Qg ())|(apply gX;exact Qg ())|(apply dE;exact F;exact Qg ())|(refine bS ?_;exact Qg ())|(refine bT ?_;exact Qg ())|fail)|(apply TO;first|(apply dG;exact Qg ())|(apply Ya;exact F;exact F;exact Qg ())|(apply YB;(iterate 3 exact F);omega;exact F;exact F;exact Qg ())|(apply YC;(iterate 3 exact F);omega;exact F;exact F;exact Qg ())|(apply NJ;(iterate 3 exact F);exact Qg ())|(apply VT;exact F;exact JS rfl Bc rfl;exact F;exact F;exact Qg ()))|(apply WT;first|(apply UP;exact F;kernel_rfl;exact F;exact F;exact Qg ())|(apply WI;exact F;kernel_rfl;(iterate 5 exact F);omega;exact Qg ())|(apply WJ;exact F;kernel_rfl;(iterate 5 exact F);omega;exact Qg ())|(apply YA;exact F;kernel_rfl;(iterate 3 exact F);exact Qg ())|(apply VU;exact F;kernel_rfl;(iterate 3 exact F);exact Bc;exact F;exact F;exact Qg ())|(apply YD;kernel_rfl;exact F;exact Qg ()))):p:=h λ_=>g
def BF {p q:Prop}(g:q)(h:(Unit→q)→p:=by intro Qg;first|(apply TO;first|(apply Ya;exact F;exact F;exact Qg ())|(apply YB;(iterate 3 exact F);omega;exact F;exact F;exact Qg ())|(apply YC;(iterate 3 exact F);omega;exact F;exact F;exact Qg ())|(apply NJ;(iterate 3 exact F);exact Qg ())|(apply VT;exact F;exact JS rfl Bc rfl;exact F;exact F;exact Qg ())|(apply AE;(iterate 3 exact F);apply Mm;(iterate 3 exact F);exact Bp;(iterate 3 exact F);exact Qg ()))|(apply WT;first|(apply UP;exact F;kernel_rfl;exact F;exact F;exact Qg ())|(apply WI;exact F;kernel_rfl;(iterate 5 exact F);omega;exact Qg ())|(apply WJ;exact F;kernel_rfl;(iterate 5 exact F);omega;exact Qg ())|(apply YA;exact F;kernel_rfl;(iterate 3 exact F);exact Qg ())|(apply VU;exact F;kernel_rfl;(iterate 3 exact F);exact Bc;exact F;exact F;exact Qg ())|(apply YD;kernel_rfl;exact F;exact Qg ())|(apply YW;exact F;kernel_rfl;(iterate 3 exact F);apply Mm;(iterate 3 exact F);exact Bp;(iterate 3 exact F);refine⟨V.refl _,Ak,Qg ()⟩))|(apply HP;(iterate 4 exact F);apply Mm;(iterate 3 exact F);exact Bp;(iterate 3 exact F);refine⟨V.refl _,Ak,Qg ()⟩)):p:=h λ_=>g
def AH {p q:Prop}(g:q)(h:(Unit→q)→p:=by intro Qg;first|(apply bV;first|(apply fP;exact Qg ())|(apply dF;exact Qg ())|(apply ZO;exact Qg ())|(apply fC;exact Qg ())|(apply gX;exact Qg ())|(apply dE;exact F;exact Qg ())|(refine bS ?_;exact Qg ())|(refine bT ?_;exact Qg ())|fail)|(apply TO;first|(apply dG;exact Qg ())|(apply Ya;exact F;exact F;exact Qg ())|(apply YB;(iterate 3 exact F);omega;exact F;exact F;exact Qg ())|(apply YC;(iterate 3 exact F);omega;exact F;exact F;exact Qg ())|(apply NJ;(iterate 3 exact F);exact Qg ())|(apply VT;exact F;exact JS rfl Bc rfl;exact F;exact F;exact Qg ())|(apply AE;(iterate 3 exact F);apply Mm;(iterate 3 exact F);exact Bp;(iterate 3 exact F);exact Qg ()))|(apply WT;first|(apply UP;exact F;kernel_rfl;exact F;exact F;exact Qg ())|(apply WI;exact F;kernel_rfl;(iterate 5 exact F);omega;exact Qg ())|(apply WJ;exact F;kernel_rfl;(iterate 5 exact F);omega;exact Qg ())|(apply YA;exact F;kernel_rfl;(iterate 3 exact F);exact Qg ())|(apply VU;exact F;kernel_rfl;(iterate 3 exact F);exact Bc;exact F;exact F;exact Qg ())|(apply YD;kernel_rfl;exact F;exact Qg ())|(apply YW;exact F;kernel_rfl;(iterate 3 exact F);apply Mm;(iterate 3 exact F);exact Bp;(iterate 3 exact F);refine⟨V.refl _,Ak,Qg ()⟩))|(apply HP;(iterate 4 exact F);apply Mm;(iterate 3 exact F);exact Bp;(iterate 3 exact F);refine⟨V.refl _,Ak,Qg ()⟩)):p:=h λ_=>g
def Aj {p:Prop}{q:Nat→Prop}(g:∀b,q b)(h:(∀b,q b)→p:=by intro Qg;first|(apply AE;(iterate 3 exact F);first|(apply Ci;exact F;exact Qg)|(apply Bo;exact F;exact Qg))|(apply YW;exact F;kernel_rfl;(iterate 3 exact F);first|(apply Ci;exact F;intro b;refine⟨V.refl _,Ak,Qg b⟩)|(apply Bo;exact F;intro b;refine⟨V.refl _,Ak,Qg b⟩))|(apply HP;(iterate 4 exact F);first|(apply Ci;exact F;intro b;refine⟨V.refl _,Ak,Qg b⟩)|(apply Bo;exact F;intro b;refine⟨V.refl _,Ak,Qg b⟩))):p:=h g
def Ag {p:Prop}(h:p:=by first|exact V.refl _|assumption|(repeat(first|assumption|(apply V.trans;assumption)))):p:=h
def Cb {p:Prop}(h:p:=by apply BA;exact F;first|exact BH rfl (by assumption) rfl|exact GA rfl (by assumption) rfl|exact LI rfl (by assumption) rfl|exact Lv_roF3 rfl (by assumption) rfl):p:=h
def Bf {p:Prop}(h:p:=by apply Cs (j:=k);(iterate 5 exact F);exact a1;(with_reducible exact F);omega):p:=h
def J {p:Prop}(h:p:=by omega):p:=h
def Cn {p:Prop}(h:p:=by assumption):p:=h
def BN {p:Prop}(h:p:=by apply BA;exact F;exact BH rfl c1 rfl):p:=h
def E' {p:Prop}(h:p:=by apply Cs (j:=i);(iterate 5 exact F);exact a1;(with_reducible exact F);omega):p:=h
def Gi {p q:Prop}(g:q)(h:(Unit→q)→p:=by intro Qg;apply PH (n:=0);(iterate 3 exact F);exact Cf _ _;(iterate 6 exact F);exact Qg ()):p:=h λ_=>g
def Ah {p:Prop}(h:p:=by dsimp only;omega):p:=h
def Gx {p:Prop}(h:p:=by apply Cs (j:=i) (n:=s.n);(iterate 5 exact F);exact ra;(with_reducible exact F);omega):p:=h
def NZ {p:Prop}(h:p:=by apply BA;exact F;exact BH rfl (cc.le BI) rfl):p:=h
def NY {p:Prop}(h:p:=by(repeat(first|exact FH _|exact Hi _|apply List.Sublist.cons_cons|apply List.Sublist.cons));done):p:=h
def NX {p q:Prop}(g:q)(h:(Unit→q)→p:=by intro Qg;apply AR;exact F;exact Ab func34;exact hck _ BI;exact Qg ()):p:=h λ_=>g
def Pb {p:Prop}(h:p:=by apply BA;exact F;exact BH rfl (c1.le BI) rfl):p:=h
def An {p:Prop}(h:p:=by simp):p:=h
def Pa {p q:Prop}(g:q)(h:(Unit→q)→p:=by intro Qg;apply Aw;exact F;exact Ab func45;exact hck _ BI;exact Qg ()):p:=h λ_=>g
def Xz {p:Prop}(h:p:=by apply BA;exact F;first|exact BH rfl (rc4.le BI) rfl|exact BH rfl (rc1.le BI) rfl):p:=h
def Xy {p:Prop}(h:p:=by apply BA;exact F;first|exact BH rfl (rc.le BI) rfl|exact BH rfl (c0.le BI) rfl):p:=h
def HW {p q:Prop}(g:q)(h:(Unit→q)→p:=by intro Qg;apply Aw;exact F;exact Ab func173;exact Aoz _ _ _ _;exact Qg ()):p:=h λ_=>g
def BO {p:Prop}(h:p:=by decide):p:=h
def RY {p:Prop}(h:p:=by apply BA;exact F;apply BH;exact F;exact c1.le BI;exact F):p:=h
def Qf {p q:Prop}(g:q)(h:(Unit→q)→p:=by intro Qg;apply AR;exact F;exact Ab func29;exact hwn _ BI;exact Qg ()):p:=h λ_=>g
def HG {p:Prop}(h:p:=by apply BA;exact F;exact BH rfl cc rfl):p:=h
def Xx {p q:Prop}(g:q)(h:(Unit→q)→p:=by intro Qg;apply CE (enc:=CG) (n:=m) (xs:=o) (ys:=[y]);(iterate 7 exact F);exact(hs2.le BI);exact Pt;exact hM;intro v1;exact Bp;omega;exact F;exact Qg ()):p:=h λ_=>g
def NW {p:Prop}(h:p:=by apply Cs (j:=j) (n:=R.1.n);(iterate 5 exact F);exact a1;(with_reducible exact F);omega):p:=h
def RZ {p q:Prop}(g:q)(h:(Unit→q)→p:=by intro Qg;apply AR;exact F;exact Ab func21;exact hcan _ BI;exact Qg ()):p:=h λ_=>g
def Qh {p:Prop}(h:p:=by apply Cs (j:=s.n-1) (n:=s.n);(iterate 5 exact F);exact ra;first|(with_reducible exact F)|omega;omega):p:=h
def MW {p:Prop}(h:p:=by apply MM (j:=k);(iterate 5 exact F);(with_reducible exact F);omega):p:=h
def Uc {p q:Prop}(g:q)(h:(Unit→q)→p:=by intro Qg;apply DE (enc:=AQ) (n:=1) [p];(iterate 3 exact F);exact Cf _ _;(iterate 4 exact F);exactλ_=>rfl;exact F;exact F;exact Qg ()):p:=h λ_=>g
def Ub {p q:Prop}(g:q)(h:(Unit→q)→p:=by intro Qg;apply DE (enc:=CG) (n:=1) [y];(iterate 3 exact F);exact Cf _ _;(iterate 4 exact F);exact Pt;exact F;exact F;exact Qg ()):p:=h λ_=>g
def Pc {p:Prop}(h:p:=by apply Cs (j:=j);(iterate 5 exact F);exact a2;(with_reducible exact F);omega):p:=h
def XA {p:Prop}(h:p:=by apply BA;exact F;apply BH;exact F;(with_reducible exact(c1.le BI));exact F):p:=h
def MV {p:Prop}(h:p:=by apply Ld;exact F;exact F;exact hge;kernel_rfl;kernel_rfl):p:=h
def Ua {p q:Prop}(g:q)(h:(Unit→q)→p:=by intro Qg;apply AR;exact F;exact Ab func160;exact hsc _ BI;exact Qg ()):p:=h λ_=>g
def T' {p q:Prop}(g:q)(h:(Unit→q)→p:=by intro Qg;apply AR;exact F;exact Ab func111;exact hsc _ BI;exact Qg ()):p:=h λ_=>g
def TZ {p q:Prop}(g:q)(h:(Unit→q)→p:=by intro Qg;apply AR;exact F;exact Ab func185;exact k0 _ BI;exact Qg ()):p:=h λ_=>g
def TY {p q:Prop}(g:q)(h:(Unit→q)→p:=by intro Qg;apply AR;exact F;exact Ab func185;exact k1 _ BI;exact Qg ()):p:=h λ_=>g
def cW {p q:Prop}(g:q)(h:(Unit→q)→p:=by intro Qg;apply AR;exact F;exact Ab func57;exact Abz _ q p (g1.le BI) (hgp.le BI);exact Qg ()):p:=h λ_=>g
def O' {p:Prop}(h:p:=by apply Ld;exact F;exact F;exact MZ _ _;kernel_rfl;kernel_rfl):p:=h
def KQ {p:Prop}(h:p:=by apply BA;exact F;exact BH rfl c2 rfl):p:=h
def Xr {p q:Prop}(g:q)(h:(Unit→q)→p:=by intro Qg;apply DE (enc:=Qz) (n:=4) (e:=9) Rz;(iterate 3 exact F);exact Cf _ _;(iterate 4 exact F);exact(λ_=>rfl);exact F;exact F;exact Qg ()):p:=h λ_=>g
def cV {p q:Prop}(g:q)(h:(Unit→q)→p:=by intro Qg;apply PG (cs:=[(101:UInt8)].flatMap BZ);(iterate 7 exact F);exact hcs3.le BI;intro v1;exact Bp;exact F;exact PU _;omega;exact F;exact Qg ()):p:=h λ_=>g
def cU {p q:Prop}(g:q)(h:(Unit→q)→p:=by intro Qg;apply Pr (f:=223) (fs:=[]) (cs:=[AD b2,AD b6]);exact F;exact F;exact Ab func223;exact h1 _ BI;exact Qg ()):p:=h λ_=>g
def Qe {p:Prop}(h:p:=by apply BA;exact F;apply BH;exact F;(with_reducible exact d1);exact F):p:=h
def RV {p q:Prop}(g:q)(h:(Unit→q)→p:=by intro Qg;apply HQ (cs:=[]);(iterate 3 exact F);exact Cf _ _;(iterate 4 exact F);exact Qg ()):p:=h λ_=>g
def Jr {p:Prop}(h:p:=by simp[HZ,Cg,BQ,e]):p:=h
def RU {p:Prop}(h:p:=by apply Cs (j:=k) (n:=n);(iterate 5 exact F);exact a1;(with_reducible exact F);omega):p:=h
def Xq {p:Prop}(h:p:=by apply BA;exact F;exact BH rfl (rc.le BI) rfl):p:=h
def Xp {p q:Prop}(g:q)(h:(Unit→q)→p:=by intro Qg;apply CE (enc:=AQ) (xs:=cs);(iterate 7 exact F);exact hs5;exactλ_=>rfl;exactλx=>En rfl;intro v1;exact Bp;omega;exact F;exact Qg ()):p:=h λ_=>g
def Xo {p q:Prop}(g:q)(h:(Unit→q)→p:=by intro Qg;apply DE (enc:=Cc) (n:=1) [x];(iterate 3 exact F);exact Cf _ _;(iterate 4 exact F);exact Gd;exact F;exact F;exact Qg ()):p:=h λ_=>g
def uC {p q:Prop}(g:q)(h:(Unit→q)→p:=by intro Qg;apply CE (enc:=Cp) (xs:=[f.ru.case,f.ru.inst,f.ru.kind].map DT++[vg]) (ys:=[f.ru.club,f.ru.player,f.ru.season,f.ru.comp,f.ru.points,f.ru.amount,f.ru.hg,f.ru.ag,f.ru.lo,f.ru.hi].map DT);(iterate 7 exact F);exact hsm.le BI;exact Fy;exact PV;intro v1;exact Bp;(first|omega|simp[FQ]);exact F;exact Qg ()):p:=h λ_=>g
def Qd {p:Prop}(h:p:=by apply Cs (j:=0) (n:=s.n);(iterate 5 exact F);exact ra;omega;omega):p:=h
def RT {p:Prop}(h:p:=by apply Cs (j:=k);(iterate 5 exact F);exact a2;(with_reducible exact F);omega):p:=h
def Qc {p q:Prop}(g:q)(h:(Unit→q)→p:=by intro Qg;apply Hb (f:=f) (fs:=fs) (cs:=cs);exact F;exact F;exact hh;exact hv;exact Qg ()):p:=h λ_=>g
def Xn {p q:Prop}(g:q)(h:(Unit→q)→p:=by intro Qg;apply Aw;exact F;exact Ab func114;exact hck _ BI;exact Qg ()):p:=h λ_=>g
def Xm {p q:Prop}(g:q)(h:(Unit→q)→p:=by intro Qg;apply AR;exact F;exact Ab func13;exact hent _ BI;exact Qg ()):p:=h λ_=>g
def Xl {p q:Prop}(g:q)(h:(Unit→q)→p:=by intro Qg;apply AR;exact F;exact Ab func262;exact hrg _ BI;exact Qg ()):p:=h λ_=>g
def Xk {p q:Prop}(g:q)(h:(Unit→q)→p:=by intro Qg;apply AR;exact F;exact Ab func263;exact hmv _ BI;exact Qg ()):p:=h λ_=>g
def Xj {p q:Prop}(g:q)(h:(Unit→q)→p:=by intro Qg;apply AR;exact F;exact Ab func187;exact hof _ BI;exact Qg ()):p:=h λ_=>g
def Xi {p q:Prop}(g:q)(h:(Unit→q)→p:=by intro Qg;apply AR;exact F;exact Ab func109;exact hog _ BI;exact Qg ()):p:=h λ_=>g
def Xw {p q:Prop}(g:q)(h:(Unit→q)→p:=by intro Qg;apply AR;exact F;exact Ab func26;exact hent _ BI;exact Qg ()):p:=h λ_=>g
def Xv {p q:Prop}(g:q)(h:(Unit→q)→p:=by intro Qg;apply AR;exact F;exact Ab func69;exact hlg _ BI;exact Qg ()):p:=h λ_=>g
def Xu {p q:Prop}(g:q)(h:(Unit→q)→p:=by intro Qg;apply AR;exact F;exact Ab func95;exact hog _ BI;exact Qg ()):p:=h λ_=>g
def Xt {p q:Prop}(g:q)(h:(Unit→q)→p:=by intro Qg;apply AR;exact F;exact Ab func46;exact hcm _ BI;exact Qg ()):p:=h λ_=>g
def uE {p q:Prop}(g:q)(h:(Unit→q)→p:=by intro Qg;apply AR;exact F;exact Ab func46;exact Sm _ (hG.le BI) s z f e (hf1.le BI) hf2 (hx1.le BI) hx2 hf3 hx3;exact Qg ()):p:=h λ_=>g
def uD {p q:Prop}(g:q)(h:(Unit→q)→p:=by intro Qg;apply AR;exact F;exact Ab func46;exact Sm _ (hG.le BI) t z g e (hf1.le BI) hf2 (hx1.le BI) hx2 hf3 hx3;exact Qg ()):p:=h λ_=>g
def RX {p:Prop}(h:p:=by apply Cs (j:=s.n-1) (n:=s.n);(iterate 5 exact F);exact ra;omega;omega):p:=h
def Xs {p:Prop}(h:p:=by apply BA;exact F;first|exact BH rfl rc20 rfl|exact LI rfl (hs21.cellsD AV (show 0<L.length by omega)) rfl):p:=h
def MU {p:Prop}(h:p:=by apply BA;exact F;exact BH rfl rc4 rfl):p:=h
def RW {p:Prop}(h:p:=by apply Cs (j:=i+1) (n:=s.n);(iterate 5 exact F);exact ra;omega;omega):p:=h
def TV {p:Prop}(h:p:=by apply Cs (j:=i) (n:=n);(iterate 5 exact F);exact a1;(with_reducible exact F);omega):p:=h
def Xg {p q:Prop}(g:q)(h:(Unit→q)→p:=by intro Qg;apply HQ (cs:=[(101:UInt8)].flatMap BZ);(iterate 3 exact F);exact Cf _ _;(iterate 4 exact F);exact Qg ()):p:=h λ_=>g
def cS {p:Prop}(h:p:=by apply LW (off:=0) (enc:=BM) (b:=b) (k:=k+k2) (sz:=82) (n:=n) (c:=c) (xs:=zs) (e:=71);exact F;exact F;exact mM _ _ _;exact Gv;exact hzx;exact F):p:=h
def tX {p q:Prop}(g:q)(h:(Unit→q)→p:=by intro Qg;apply cZ (enc:=BM) (n:=1) (xs:=[p]) (ys:=l3.drop j);(iterate 7 exact F);exact((hL.2.1.row.low (lo:=j) (c:=c3) (by omega) hL.1).le BI);exact Gv;exact(λx=>En (Ap6 x.1 x.2));exact Bh;exact F;omega;exact F;exact Qg ()):p:=h λ_=>g
def cR {p q:Prop}(g:q)(h:(Unit→q)→p:=by intro Qg;apply HQ (e:=3) (cs:=[f.sh.ref,f.sh.hg,f.sh.ag,f.sh.hp,f.sh.ap].map λi=>O i);(iterate 3 exact F);exact Cf _ _;(iterate 4 exact F);exact Qg ()):p:=h λ_=>g
def Ma {p q:Prop}(g:q)(h:(Unit→q)→p:=by intro Qg;apply Aw;exact F;exact Ab func15;exact hr;exact Qg ()):p:=h λ_=>g
def NV {p:Prop}(h:p:=by apply BA;exact F;exact BH rfl c7 rfl):p:=h
def tW {p q:Prop}(g:q)(h:(Unit→q)→p:=by intro Qg;apply CE (enc:=Cp) (xs:=[vg]++[f.sh.ref,f.sh.hg,f.sh.ag,f.sh.hp,f.sh.ap].map DT) (ys:=[vp,vq,vr,vt]);(iterate 7 exact F);exact hs4.le BI;exact Fy;exact PV;intro v1;exact Bp;(first|omega|simp[FQ]);exact F;exact Qg ()):p:=h λ_=>g
def tV {p q:Prop}(g:q)(h:(Unit→q)→p:=by intro Qg;apply cZ (enc:=AQ) (n:=1) (xs:=[p.2.ru.case]) (ys:=out.drop j);(iterate 7 exact F);exact((hso.low (lo:=j) (c:=c3) (by omega) hoc).le BI);exactλ_=>rfl;exact(λx=>En rfl);exact Bh;exact F;omega;exact F;exact Qg ()):p:=h λ_=>g
def GH {p:Prop}(h:p:=by kernel_rfl):p:=h
def tU {p q:Prop}(g:q)(h:(Unit→q)→p:=by intro Qg;apply CE (enc:=Cp) (xs:=[vg]) (ys:=[f.sh.ref,f.sh.hg,f.sh.ag,f.sh.hp,f.sh.ap].map DT);(iterate 7 exact F);exact hsn.le BI;exact Fy;exact PV;intro v1;exact Bp;(first|omega|simp[FQ]);exact F;exact Qg ()):p:=h λ_=>g
def Xf {p:Prop}(h:p:=by apply Cs (j:=i) (n:=all.length);(iterate 5 exact F);exact a1;(with_reducible exact F);omega):p:=h
def NU {p q:Prop}(g:q)(h:(Unit→q)→p:=by intro Qg;apply Aw;exact F;exact Ab func108;exact hgm _;exact Qg ()):p:=h λ_=>g
def MT {p q:Prop}(g:q)(h:(Unit→q)→p:=by intro Qg;apply Aw;exact F;exact Ab func19;exact hr;exact Qg ()):p:=h λ_=>g
def tT {p q:Prop}(g:q)(h:(Unit→q)→p:=by intro Qg;apply CE (enc:=Ez) (xs:=[]++l.take (s.n-1)) (ys:=[(((⟨A,R.1.n,c⟩:Ca),ys):FT)]);(iterate 7 exact F);exact hs24.le BI;exact KF;exact Sd;intro v1;exact Bp;omega;exact F;exact Qg ()):p:=h λ_=>g
def tS {p q:Prop}(g:q)(h:(Unit→q)→p:=by intro Qg;apply CE (enc:=Cp) (xs:=[f.ru.case,f.ru.inst,f.ru.kind].map DT) (ys:=[vg]);(iterate 7 exact F);exact hs4.le BI;exact Fy;exact PV;intro v1;exact Bp;(first|omega|simp[FQ]);exact F;exact Qg ()):p:=h λ_=>g
def cQ {p q:Prop}(g:q)(h:(Unit→q)→p:=by intro Qg;apply DE (enc:=Eg) (n:=1) [(s,x)];(iterate 3 exact F);exact Cf _ _;(iterate 4 exact F);exact QH;exact F;exact F;exact Qg ()):p:=h λ_=>g
def NT {p:Prop}(h:p:=by show n-(k+1)<n-k;omega):p:=h
def TU {p:Prop}(h:p:=by apply BA;exact F;first|exact BH rfl c1 rfl|exact BH rfl c2 rfl):p:=h
def Xe {p:Prop}(h:p:=by apply Cs (j:=k) (n:=s.asn.n);(iterate 5 exact F);exact a2;(with_reducible exact F);omega):p:=h
def cP {p q:Prop}(g:q)(h:(Unit→q)→p:=by intro Qg;apply DE (enc:=BM) (n:=1) [p];(iterate 3 exact F);exact Cf _ _;(iterate 4 exact F);exact Gv;exact F;exact F;exact Qg ()):p:=h λ_=>g
def Xd {p:Prop}(h:p:=by apply Cs (j:=i) (n:=s.hs.n);(iterate 5 exact F);exact a1;(with_reducible exact F);omega):p:=h
def cO {p q:Prop}(g:q)(h:(Unit→q)→p:=by intro Qg;apply Ed;exact F;exact Ab func36;exact hclo _ BI;exact Ad;exact Qg ()):p:=h λ_=>g
def Xc {p:Prop}(h:p:=by apply Cs (j:=k) (n:=R.1.n);(iterate 5 exact F);exact a1;(with_reducible exact F);omega):p:=h
def Xb {p:Prop}(h:p:=by apply Ml (lo:=j) (n:=k3) (c:=c3);(iterate 5 exact F);(with_reducible exact F);omega):p:=h
def RS {p:Prop}(h:p:=by apply KB (j:=1);(iterate 6 exact F);exact(by decide)):p:=h
def cT {p q:Prop}(g:q)(h:(Unit→q)→p:=by intro Qg;apply DE (enc:=Cc) (n:=1) [r];(iterate 3 exact F);exact Cf _ _;(iterate 4 exact F);exact Gd;exact F;exact F;exact Qg ()):p:=h λ_=>g
def Jq {p:Prop}(h:p:=by simpa using hi):p:=h
def Qb {p q:Prop}(g:q)(h:(Unit→q)→p:=by intro Qg;apply Aw;exact F;exact Ab func126;exact At0 _ _ _;exact Qg ()):p:=h λ_=>g
def uB {p q:Prop}(g:q)(h:(Unit→q)→p:=by intro Qg;apply CE (enc:=Eg) (n:=0) (m:=j) (xs:=[]) (ys:=out.take j);(iterate 7 exact F);exact hhi.le BI;exact QH;exactλx=>En rfl;intro v1;exact Bp;omega;exact F;exact Qg ()):p:=h λ_=>g
def uA {p q:Prop}(g:q)(h:(Unit→q)→p:=by intro Qg;apply Ed;exact F;exact Ab func220;exact Alk _ (hG.le BI) A n c l (hx.le BI);exact Ad;exact Qg ()):p:=h λ_=>g
def TX {p:Prop}(h:p:=by apply KB (j:=0);(iterate 5 exact F);exact hr;exact(by decide)):p:=h
def TW {p:Prop}(h:p:=by apply KB (j:=1);(iterate 5 exact F);exact hr;exact(by decide)):p:=h
def tZ {p q:Prop}(g:q)(h:(Unit→q)→p:=by intro Qg;apply cY (enc:=AQ) (xs:=out.take j) (ys:=[p.2.ru.case]++out.drop j);(iterate 7 exact F);exact hs6;exact(hs7.le BI);exact F;omega;exactλ_=>rfl;omega;exact F;exact Qg ()):p:=h λ_=>g
def tY {p q:Prop}(g:q)(h:(Unit→q)→p:=by intro Qg;apply hO (enc:=AQ) (e:=3) (sz:=1) (n:=zs.lo.n) (xs:=ys);exactλ_=>rfl;exact hsl;apply Ed;exact F;exact Ab func48;exact hsor _ b1 (hvs _ BI b1 hb1);exact TC;exact Qg ()):p:=h λ_=>g
def Xh {p:Prop}(h:p:=by apply Cs (j:=j);(iterate 5 exact F);exact a1;(with_reducible exact F);exact hjn):p:=h
def Qa {p:Prop}(h:p:=by rw[decide_eq_true_eq,GY,e];rfl):p:=h
def cM {p q:Prop}(g:q)(h:(Unit→q)→p:=by intro Qg;apply AR;exact F;exact Ab func32;exact hpa _ BI;exact Qg ()):p:=h λ_=>g
def cL {p q:Prop}(g:q)(h:(Unit→q)→p:=by intro Qg;apply AR;exact F;exact Ab func65;exact hck _ BI;exact Qg ()):p:=h λ_=>g
def cJ {p q:Prop}(g:q)(h:(Unit→q)→p:=by intro Qg;apply AR;exact F;exact Ab func70;exact hwi _ BI;exact Qg ()):p:=h λ_=>g
def cI {p q:Prop}(g:q)(h:(Unit→q)→p:=by intro Qg;apply Aw;exact F;exact Ab func56;exact hch _ BI;exact Qg ()):p:=h λ_=>g
def P' {p:Prop}(h:p:=by rw[decide_eq_true_eq,EW,e];rfl):p:=h
def PZ {p:Prop}(h:p:=by apply BA;exact F;exact BH rfl hd2 rfl):p:=h
def tO {p q:Prop}(g:q)(h:(Unit→q)→p:=by intro Qg;apply cY (enc:=BM) (xs:=l3.take j) (ys:=[p]++l3.drop j);(iterate 7 exact F);exact hs6;exact(hs7.le BI);exact F;omega;exact Gv;omega;exact F;exact Qg ()):p:=h λ_=>g
def OX {p q:Prop}(g:q)(h:(Unit→q)→p:=by intro Qg;apply Aw;exact F;exact Ab func84;exact hgm _;exact Qg ()):p:=h λ_=>g
def tN {p q:Prop}(g:q)(h:(Unit→q)→p:=by intro Qg;apply CE (enc:=Dv) (xs:=ys) (ys:=[((ps,d):HO)]);(iterate 7 exact F);exact hs6.le BI;exact Ke;exact TE;intro v1;exact Bp;omega;exact F;exact Qg ()):p:=h λ_=>g
def tM {p q:Prop}(g:q)(h:(Unit→q)→p:=by intro Qg;apply CE (enc:=Ez) (xs:=[]) (ys:=l.take (s.n-1));(iterate 7 exact F);exact hhi.le BI;exact KF;exact Sd;intro v1;exact Bp;omega;exact F;exact Qg ()):p:=h λ_=>g
def tL {p q:Prop}(g:q)(h:(Unit→q)→p:=by intro Qg;apply CE (enc:=CG) (n:=m) (xs:=o) (ys:=[g]);(iterate 7 exact F);exact(hs2.le BI);exact Pt;exact hM;intro v1;exact Bp;omega;exact F;exact Qg ()):p:=h λ_=>g
def TT {p:Prop}(h:p:=by apply Cs (j:=0);(iterate 5 exact F);exact a1;omega;omega):p:=h
def W' {p:Prop}(h:p:=by apply BA;exact F;apply BH;exact F;(with_reducible exact c1);exact F):p:=h
def WZ {p:Prop}(h:p:=by apply BA;exact F;apply BH;exact F;(with_reducible exact d2);exact F):p:=h
def tK {p q:Prop}(g:q)(h:(Unit→q)→p:=by intro Qg;apply mY (enc:=BM) (hi:=j);(iterate 6 exact F);exact(hL.2.1.row.le BI);(with_reducible exact F);(with_reducible exact F);omega;exact hL.1;exact Qg ()):p:=h λ_=>g
def tJ {p q:Prop}(g:q)(h:(Unit→q)→p:=by intro Qg;apply CE (enc:=Cc) (xs:=Q) (ys:=pd.ls);(iterate 7 exact F);exact hsl.le BI;exact Gd;exact Lg;intro v1;exact Bp;exact hq63;exact F;exact Qg ()):p:=h λ_=>g
def tI {p q:Prop}(g:q)(h:(Unit→q)→p:=by intro Qg;apply PG (cs:=[(105:UInt8)].flatMap BZ);(iterate 7 exact F);exact hcs1.le BI;intro v1;exact Bp;exact F;exact PU _;omega;exact F;exact Qg ()):p:=h λ_=>g
def tH {p q:Prop}(g:q)(h:(Unit→q)→p:=by intro Qg;apply CE (enc:=Cc) (xs:=[]) (ys:=d.ls);(iterate 7 exact F);exact hsl.le BI;exact Gd;exact Lg;intro v1;exact Bp;omega;exact F;exact Qg ()):p:=h λ_=>g
def tG {p q:Prop}(g:q)(h:(Unit→q)→p:=by intro Qg;apply Pr (f:=226) (fs:=[]) (cs:=[AD b2,AD b6]);exact F;exact F;exact Ab func226;exact h3 _ BI;exact Qg ()):p:=h λ_=>g
def cH {p:Prop}(h:p:=by apply KD (ek:=Dq) (ev:=Rm) (z0:=none) (key:=r.kind) (b:=bm) (m:=VI) St;(iterate 6 exact F);exact hlk):p:=h
def TS {p:Prop}(h:p:=by apply KB (j:=0);(iterate 6 exact F);exact(by decide)):p:=h
def tF {p q:Prop}(g:q)(h:(Unit→q)→p:=by intro Qg;apply mY (enc:=AQ) (hi:=j);(iterate 6 exact F);exact(hso.le BI);(with_reducible exact F);(with_reducible exact F);omega;exact hoc;exact Qg ()):p:=h λ_=>g
def tE {p q:Prop}(g:q)(h:(Unit→q)→p:=by intro Qg;apply Ed;exact F;exact Ab func290;exact nY _ (hG.le BI) _ (n+1) (xs++[(105:UInt8)].flatMap BZ) m hm.1 hm.2 (by omega);exact Ad;exact Qg ()):p:=h λ_=>g
def WY {p:Prop}(h:p:=by apply BA;exact F;first|exact BH rfl rc4 rfl|exact BH rfl c7 rfl):p:=h
def Xa {p:Prop}(h:p:=by apply BA;exact F;first|exact BH rfl c1 rfl|exact BH rfl c0 rfl):p:=h
def tR {p q:Prop}(g:q)(h:(Unit→q)→p:=by intro Qg;apply HQ (e:=3) (cs:=[f.ru.club,f.ru.player,f.ru.season,f.ru.comp,f.ru.points,f.ru.amount,f.ru.hg,f.ru.ag,f.ru.lo,f.ru.hi].map λi=>O i);(iterate 3 exact F);exact Cf _ _;(iterate 4 exact F);exact Qg ()):p:=h λ_=>g
def OZ {p:Prop}(h:p:=by simp[GO,EU,DB,e]):p:=h
def tQ {p q:Prop}(g:q)(h:(Unit→q)→p:=by intro Qg;apply AR;exact F;exact Ab func199;exact YI _ _ 5 5 [f.sh.ref,f.sh.hg,f.sh.ag,f.sh.hp,f.sh.ap] (Jc (hcs1.le BI)) (by omega);exact Qg ()):p:=h λ_=>g
def GG {p:Prop}(h:p:=by rw[e]):p:=h
def RR {p:Prop}(h:p:=by apply BA;exact F;exact BH rfl hd3 rfl):p:=h
def tP {p q:Prop}(g:q)(h:(Unit→q)→p:=by intro Qg;apply DE (enc:=Cp) (n:=4) (e:=193) [DT f.day,DT f.kind,DT f.known,FQ A (CD f).length c];(iterate 3 exact F);exact Cf _ _;(iterate 4 exact F);exact Fy;exact F;exact F;exact Qg ()):p:=h λ_=>g
def RQ {p:Prop}(h:p:=by apply BA;exact F;exact BH rfl rc rfl):p:=h
def OY {p:Prop}(h:p:=by rw[CF];omega):p:=h
def cN {p:Prop}(h:p:=by apply Cs (j:=k) (n:=ns.length);(iterate 5 exact F);exact a5;(with_reducible exact F);omega):p:=h
def cE {p:Prop}(h:p:=by apply Cs (j:=k) (n:=ms.length);(iterate 5 exact F);exact a2;(with_reducible exact F);omega):p:=h
def PY {p q:Prop}(g:q)(h:(Unit→q)→p:=by intro Qg;apply AR;exact F;exact Ab func28;exact hck;exact Qg ()):p:=h λ_=>g
def PX {p q:Prop}(g:q)(h:(Unit→q)→p:=by intro Qg;apply AR;exact F;exact Ab func70;exact hwi;exact Qg ()):p:=h λ_=>g
def cD {p q:Prop}(g:q)(h:(Unit→q)→p:=by intro Qg;apply Nq (ek:=Dq) (ev:=Dq) (b:=bm) (m:=mc) (key:=p) (u:=y0+qy) hK;(iterate 6 exact F);exact Bp;exact Qg ()):p:=h λ_=>g
def cC {p:Prop}(h:p:=by apply Cs (j:=k) (n:=R1.1.n);(iterate 5 exact F);exact a1;(with_reducible exact F);omega):p:=h
def WX {p q:Prop}(g:q)(h:(Unit→q)→p:=by intro Qg;apply Hb (f:=f) (fs:=[]) (cs:=cs);exact F;exact F;exact hh;exact hv;exact Qg ()):p:=h λ_=>g
def sX {p:Prop}(h:p:=by apply BA;exact F;apply BH;exact F;(with_reducible exact(d1.le BI));exact F):p:=h
def OW {p:Prop}(h:p:=by rw[Acd,e];rfl):p:=h
def sW {p:Prop}(h:p:=by apply LW (off:=0) (enc:=BM) (b:=b) (k:=k+(k2-1)) (sz:=82) (n:=n) (c:=c) (xs:=zs) (e:=71);exact F;exact F;exact mM _ _ _;exact Gv;exact hzy;exact F):p:=h
def OV {p:Prop}(h:p:=by rw[Aah,e];rfl):p:=h
def sV {p q:Prop}(g:q)(h:(Unit→q)→p:=by intro Qg;apply DE (enc:=Cp) (n:=4) (e:=193) [DT f.day,DT f.kind,DT f.known,v];(iterate 3 exact F);exact Cf _ _;(iterate 4 exact F);exact Fy;exact F;exact F;exact Qg ()):p:=h λ_=>g
def sU {p:Prop}(h:p:=by apply LW (off:=0) (enc:=Cc) (b:=bo) (k:=k) (sz:=13) (n:=out.length) (c:=c4) (xs:=out) (e:=38);exact F;exact F;exact mK _ _;exact Gd;exact hy;exact F):p:=h
def sT {p:Prop}(h:p:=by apply LW (off:=0) (enc:=BM) (b:=b) (k:=k-1) (sz:=82) (n:=n) (c:=c) (xs:=ys) (e:=71);exact F;exact F;exact OK _ _;exact Gv;exact hy;exact F):p:=h
def sS {p q:Prop}(g:q)(h:(Unit→q)→p:=by intro Qg;apply DE (enc:=Ez) (n:=1) [(((⟨A,R.1.n,c⟩:Ca),ys):FT)];(iterate 3 exact F);exact Cf _ _;(iterate 4 exact F);exact KF;exact F;exact F;exact Qg ()):p:=h λ_=>g
def sR {p q:Prop}(g:q)(h:(Unit→q)→p:=by intro Qg;apply DE (enc:=Cp) (n:=4) [DT f.eS,DT f.eC,va,SH f.eRules];(iterate 3 exact F);exact Cf _ _;(iterate 4 exact F);exact Fy;exact F;exact F;exact Qg ()):p:=h λ_=>g
def sQ {p:Prop}(h:p:=by apply LW (off:=0) (enc:=BM) (b:=bo) (k:=k) (sz:=82) (n:=n) (c:=c) (xs:=zs) (e:=71);exact F;exact F;exact OK _ _;exact Gv;exact hzx;exact F):p:=h
def cB {p q:Prop}(g:q)(h:(Unit→q)→p:=by intro Qg;apply PH (n:=1);(iterate 3 exact F);exact Cf _ _;(iterate 6 exact F);exact Qg ()):p:=h λ_=>g
def TQ {p:Prop}(h:p:=by apply Aw4;(iterate 3 exact F);omega;omega):p:=h
def sP {p:Prop}(h:p:=by apply LW (off:=0) (enc:=BM) (b:=b) (k:=k) (sz:=82) (n:=n) (c:=c) (xs:=ys) (e:=71);exact F;exact F;exact OK _ _;exact Gv;exact hx;exact F):p:=h
def cA {p:Prop}(h:p:=by rintro e;injection e with e1 e2;subst e1;subst e2;simp[FP]at hc):p:=h
def bZ {p:Prop}(h:p:=by rcases hco.2 with q|q;(rw[q];unfold Bb;omega);exact mx q (by omega)):p:=h
def sO {p:Prop}(h:p:=by apply LW (off:=0) (enc:=BM) (b:=b) (k:=k) (sz:=82) (n:=n) (c:=c) (xs:=l) (e:=71);exact F;exact F;exact OK _ _;exact Gv;exact hx;exact F):p:=h
def bY {p:Prop}(h:p:=by apply Cs (j:=j);(iterate 5 exact F);exact b1;(with_reducible exact F);omega):p:=h
def sN {p q:Prop}(g:q)(h:(Unit→q)→p:=by intro Qg;apply CE (enc:=AQ) (n:=m) (xs:=o.map (·.2)) (ys:=[x.g.h]);(iterate 7 exact F);exact hs7;exactλ_=>rfl;exactλx=>En rfl;intro v1;exact Bp;omega;exact F;exact Qg ()):p:=h λ_=>g
def sM {p q:Prop}(g:q)(h:(Unit→q)→p:=by intro Qg;apply CE (enc:=AQ) (n:=m) (xs:=o.map (·.2)) (ys:=[x.g.a]);(iterate 7 exact F);exact hs7;exactλ_=>rfl;exactλx=>En rfl;intro v1;exact Bp;omega;exact F;exact Qg ()):p:=h λ_=>g
def TP {p q:Prop}(g:q)(h:(Unit→q)→p:=by intro Qg;apply Aw;exact F;exact Ab func120;exact dJ _ _;exact Qg ()):p:=h λ_=>g
def TR {p q:Prop}(g:q)(h:(Unit→q)→p:=by intro Qg;apply Aw;exact F;exact Ab func242;exact Asu _ _;exact Qg ()):p:=h λ_=>g
def tD {p:Prop}(h:p:=by apply fV (s:=f.void);(iterate 7 exact F);exact hvs.le BI):p:=h
def tC {p q:Prop}(g:q)(h:(Unit→q)→p:=by intro Qg;apply CE (enc:=AQ) (n:=m) (xs:=o.map (·.1)) (ys:=[p]);(iterate 7 exact F);exact hs6;exactλ_=>rfl;exactλx=>En rfl;intro v1;exact Bp;omega;exact F;exact Qg ()):p:=h λ_=>g
def tB {p q:Prop}(g:q)(h:(Unit→q)→p:=by intro Qg;apply CE (enc:=AQ) (n:=m) (xs:=o.map (·.1)) (ys:=[r]);(iterate 7 exact F);exact hs6;exactλ_=>rfl;exactλx=>En rfl;intro v1;exact Bp;omega;exact F;exact Qg ()):p:=h λ_=>g
def tA {p q:Prop}(g:q)(h:(Unit→q)→p:=by intro Qg;apply Pr (f:=46) (fs:=[]) (cs:=[]);exact F;exact F;exact Ab func46;exact hcm _ BI;exact Qg ()):p:=h λ_=>g
def cG {p:Prop}(h:p:=by apply BA;exact F;apply BH;exact F;(with_reducible exact d5);exact F):p:=h
def cF {p:Prop}(h:p:=by apply BA;exact F;apply BH;exact F;(with_reducible exact cK);exact F):p:=h
def RP {p q:Prop}(g:q)(h:(Unit→q)→p:=by intro Qg;apply Aw;exact F;exact Ab func45;exact hch;exact Qg ()):p:=h λ_=>g
def sZ {p q:Prop}(g:q)(h:(Unit→q)→p:=by intro Qg;apply DE (enc:=AQ) (n:=4) [r.hg,r.ag,r.hp,r.ap];(iterate 3 exact F);exact Cf _ _;(iterate 4 exact F);exact(λ_=>rfl);exact F;exact F;exact Qg ()):p:=h λ_=>g
def sY {p q:Prop}(g:q)(h:(Unit→q)→p:=by intro Qg;apply HQ (e:=3) (cs:=[f.aCase,f.aInst,if f.aSusp then 1 else 0].map λi=>O i);(iterate 3 exact F);exact Cf _ _;(iterate 4 exact F);exact Qg ()):p:=h λ_=>g
def sD {p q:Prop}(g:q)(h:(Unit→q)→p:=by intro Qg;apply DE (enc:=Lu) (n:=1) [⟨p,cl,z.2.sh.g⟩];(iterate 3 exact F);exact Cf _ _;(iterate 4 exact F);exactλ_=>rfl;exact F;exact F;exact Qg ()):p:=h λ_=>g
def WV {p q:Prop}(g:q)(h:(Unit→q)→p:=by intro Qg;apply Ed;exact F;exact Ab func196;exact Ajo _;exact Ad;exact Qg ()):p:=h λ_=>g
def sC {p:Prop}(h:p:=by apply BA;exact F;exact BH rfl (rc1.le BI) rfl):p:=h
def sB {p q:Prop}(g:q)(h:(Unit→q)→p:=by intro Qg;apply DE (enc:=Cp) (n:=3) [DT f.lS,DT f.lC,va];(iterate 3 exact F);exact Cf _ _;(iterate 4 exact F);exact Fy;exact F;exact F;exact Qg ()):p:=h λ_=>g
def bX {p:Prop}(h:p:=by apply BA;exact F;first|exact BH rfl rcc rfl|exact BH rfl c1 rfl):p:=h
def sA {p q:Prop}(g:q)(h:(Unit→q)→p:=by intro Qg;apply DE (enc:=BZ) (n:=1) [(101:UInt8)];(iterate 3 exact F);exact Cf _ _;(iterate 4 exact F);exact(λ_=>rfl);exact F;exact F;exact Qg ()):p:=h λ_=>g
def bW {p:Prop}(h:p:=by apply MM (j:=k2);(iterate 5 exact F);(with_reducible exact F);omega):p:=h
def rZ {p q:Prop}(g:q)(h:(Unit→q)→p:=by intro Qg;apply DE (enc:=Dv) (n:=1) [((ps,d):HO)];(iterate 3 exact F);exact Cf _ _;(iterate 4 exact F);exact Ke;exact F;exact F;exact Qg ()):p:=h λ_=>g
def rY {p q:Prop}(g:q)(h:(Unit→q)→p:=by intro Qg;apply AR;exact F;exact Ab func21;exact Qk _ A n c l (hx.le BI) hn;exact Qg ()):p:=h λ_=>g
def rX {p q:Prop}(g:q)(h:(Unit→q)→p:=by intro Qg;apply DE (enc:=AQ) (n:=2) [r.hc,r.ac];(iterate 3 exact F);exact Cf _ _;(iterate 4 exact F);exact(λ_=>rfl);exact F;exact F;exact Qg ()):p:=h λ_=>g
def rW {p q:Prop}(g:q)(h:(Unit→q)→p:=by intro Qg;apply DE (enc:=AQ) (n:=2) [p.2.a,p.2.b];(iterate 3 exact F);exact Cf _ _;(iterate 4 exact F);exactλ_=>rfl;exact F;exact F;exact Qg ()):p:=h λ_=>g
def rV {p q:Prop}(g:q)(h:(Unit→q)→p:=by intro Qg;apply AR;exact F;exact Ab func11;exact hnw _ A3 n3 c3 (hs3.le BI) hnc3;exact Qg ()):p:=h λ_=>g
def rU {p q:Prop}(g:q)(h:(Unit→q)→p:=by intro Qg;apply DE (enc:=Cp) (n:=2) [va,DT f.venue];(iterate 3 exact F);exact Cf _ _;(iterate 4 exact F);exact Fy;exact F;exact F;exact Qg ()):p:=h λ_=>g
def rT {p q:Prop}(g:q)(h:(Unit→q)→p:=by intro Qg;apply AR;exact F;exact Ab func181;exact Aek _ s f (hf.le BI) hs hg;exact Qg ()):p:=h λ_=>g
def WU {p q:Prop}(g:q)(h:(Unit→q)→p:=by intro Qg;apply Ed;exact F;exact Ab func86;exact Aoj _;exact Ad;exact Qg ()):p:=h λ_=>g
def rS {p q:Prop}(g:q)(h:(Unit→q)→p:=by intro Qg;apply HQ (e:=3) (cs:=[f.ru.case,f.ru.inst,f.ru.kind].map λi=>O i);(iterate 3 exact F);exact Cf _ _;(iterate 4 exact F);exact Qg ()):p:=h λ_=>g
def rR {p q:Prop}(g:q)(h:(Unit→q)→p:=by intro Qg;apply DE (enc:=AQ) (n:=1) [r.day];(iterate 3 exact F);exact Cf _ _;(iterate 4 exact F);exact(λ_=>rfl);exact F;exact F;exact Qg ()):p:=h λ_=>g
def rQ {p q:Prop}(g:q)(h:(Unit→q)→p:=by intro Qg;apply Aw;exact F;exact Ab func81;exact heq _ BI r hr5 (hrm5 m rfl);exact Qg ()):p:=h λ_=>g
def rP {p q:Prop}(g:q)(h:(Unit→q)→p:=by intro Qg;apply DE (enc:=Cp) (n:=1) [SH f.void];(iterate 3 exact F);exact Cf _ _;(iterate 4 exact F);exact Fy;exact F;exact F;exact Qg ()):p:=h λ_=>g
def rO {p q:Prop}(g:q)(h:(Unit→q)→p:=by intro Qg;apply DE (enc:=DH) (n:=1) [p.2.ru];(iterate 3 exact F);exact Cf _ _;(iterate 4 exact F);exactλ_=>rfl;exact F;exact F;exact Qg ()):p:=h λ_=>g
def rN {p q:Prop}(g:q)(h:(Unit→q)→p:=by intro Qg;apply DE (enc:=Cp) (n:=4) [vp,vq,vr,vt];(iterate 3 exact F);exact Cf _ _;(iterate 4 exact F);exact Fy;exact F;exact F;exact Qg ()):p:=h λ_=>g
def rM {p q:Prop}(g:q)(h:(Unit→q)→p:=by intro Qg;apply DE (enc:=AQ) (n:=1) [x.g.h];(iterate 3 exact F);exact Cf _ _;(iterate 4 exact F);exactλ_=>rfl;exact F;exact F;exact Qg ()):p:=h λ_=>g
def rL {p q:Prop}(g:q)(h:(Unit→q)→p:=by intro Qg;apply DE (enc:=AQ) (n:=1) [x.g.a];(iterate 3 exact F);exact Cf _ _;(iterate 4 exact F);exactλ_=>rfl;exact F;exact F;exact Qg ()):p:=h λ_=>g
def rK {p q:Prop}(g:q)(h:(Unit→q)→p:=by intro Qg;apply AR;exact F;exact Ab func61;exact hpa _ A5 c5 (hs5.le BI);exact Qg ()):p:=h λ_=>g
def rJ {p q:Prop}(g:q)(h:(Unit→q)→p:=by intro Qg;apply DE (enc:=Ez) (n:=1) [r];(iterate 3 exact F);exact Cf _ _;(iterate 4 exact F);exactλ_=>rfl;exact F;exact F;exact Qg ()):p:=h λ_=>g
def OU {p:Prop}(h:p:=by simpa using hj):p:=h
def sL {p q:Prop}(g:q)(h:(Unit→q)→p:=by intro Qg;apply DE (enc:=AQ) (n:=1) [w];(iterate 3 exact F);exact Cf _ _;(iterate 4 exact F);exactλ_=>rfl;exact F;exact F;exact Qg ()):p:=h λ_=>g
def sK {p q:Prop}(g:q)(h:(Unit→q)→p:=by intro Qg;apply DE (enc:=Cp) (n:=1) [DT u];(iterate 3 exact F);exact Cf _ _;(iterate 4 exact F);exact Fy;exact F;exact F;exact Qg ()):p:=h λ_=>g
def sJ {p q:Prop}(g:q)(h:(Unit→q)→p:=by intro Qg;apply DE (enc:=AQ) (n:=1) [r];(iterate 3 exact F);exact Cf _ _;(iterate 4 exact F);exactλ_=>rfl;exact F;exact F;exact Qg ()):p:=h λ_=>g
def WW {p q:Prop}(g:q)(h:(Unit→q)→p:=by intro Qg;apply Aw;exact F;exact Ab func119;exact Ar3 _ _ _;exact Qg ()):p:=h λ_=>g
def sI {p q:Prop}(g:q)(h:(Unit→q)→p:=by intro Qg;apply DE (enc:=Ez) (n:=1) [r2];(iterate 3 exact F);exact Cf _ _;(iterate 4 exact F);exact KF;exact F;exact F;exact Qg ()):p:=h λ_=>g
def sH {p q:Prop}(g:q)(h:(Unit→q)→p:=by intro Qg;apply CE (enc:=DH) (xs:=out);(iterate 7 exact F);exact hs5;exactλ_=>rfl;exactλx=>En rfl;intro v1;exact Bp;omega;exact F;exact Qg ()):p:=h λ_=>g
def sG {p q:Prop}(g:q)(h:(Unit→q)→p:=by intro Qg;apply CE (enc:=Lu) (xs:=ou);(iterate 7 exact F);exact hs9;exactλ_=>rfl;exactλx=>En rfl;intro v1;exact Bp;omega;exact F;exact Qg ()):p:=h λ_=>g
def sF {p q:Prop}(g:q)(h:(Unit→q)→p:=by intro Qg;apply Ed;exact F;exact Ab func230;exact hof _ BI;exact Ad;exact Qg ()):p:=h λ_=>g
def sE {p q:Prop}(g:q)(h:(Unit→q)→p:=by intro Qg;apply CE (enc:=AQ) (xs:=out);(iterate 7 exact F);exact hs5;exactλ_=>rfl;exactλx=>En rfl;intro v1;exact Bp;omega;exact F;exact Qg ()):p:=h λ_=>g
def L' {p:Prop}(h:p:=by simp[hx]):p:=h
def RO {p:Prop}(h:p:=by rw[DR]):p:=h
def qY {p q:Prop}(g:q)(h:(Unit→q)→p:=by intro Qg;apply Ed;exact F;exact Ab func41;exact hcr _ BI;exact Ad;exact Qg ()):p:=h λ_=>g
def qX {p:Prop}(h:p:=by apply KD (ek:=Di) (ev:=Value.bool) (z0:=false) (key:=p.2.ru.g) (b:=bm) (m:=LQ o) hK;(iterate 6 exact F);exact hlk2):p:=h
def qW {p:Prop}(h:p:=by apply KD (ek:=Di) (ev:=Value.bool) (z0:=false) (key:=p.2.sh.g) (b:=bm) (m:=LQ o) hK;(iterate 6 exact F);exact hlk2):p:=h
def qV {p q:Prop}(g:q)(h:(Unit→q)→p:=by intro Qg;apply DE (enc:=CG) (n:=1) [g];(iterate 3 exact F);exact Cf _ _;(iterate 4 exact F);exact Pt;exact F;exact F;exact Qg ()):p:=h λ_=>g
def qU {p q:Prop}(g:q)(h:(Unit→q)→p:=by intro Qg;apply CE (enc:=Cp) (xs:=(l.take k).map DT);(iterate 7 exact F);exact hs1;exact Fy;exact PV;intro v1;exact Bp;omega;exact F;exact Qg ()):p:=h λ_=>g
def qT {p q:Prop}(g:q)(h:(Unit→q)→p:=by intro Qg;apply DE (enc:=Cp) (n:=1) [vg];(iterate 3 exact F);exact Cf _ _;(iterate 4 exact F);exact Fy;exact F;exact F;exact Qg ()):p:=h λ_=>g
def WS {p:Prop}(h:p:=by apply BA;exact F;exact BH rfl hd1 rfl):p:=h
def qS {p q:Prop}(g:q)(h:(Unit→q)→p:=by intro Qg;apply DE (enc:=Cp) (n:=1) [v];(iterate 3 exact F);exact Cf _ _;(iterate 4 exact F);exact Fy;exact F;exact F;exact Qg ()):p:=h λ_=>g
def TN {p q:Prop}(g:q)(h:(Unit→q)→p:=by intro Qg;apply Aw;exact F;exact Ab func15;exact hr _;exact Qg ()):p:=h λ_=>g
def qR {p q:Prop}(g:q)(h:(Unit→q)→p:=by intro Qg;apply AR;exact F;exact Ab func17;exact hor _ BI zs hzm;exact Qg ()):p:=h λ_=>g
def qQ {p:Prop}(h:p:=by apply BA;exact F;first|exact BH rfl rc rfl|exact BH rfl rd rfl|exact BH rfl c1 rfl|exact BH rfl c2 rfl):p:=h
def qP {p:Prop}(h:p:=by apply Aw0 (s:=Te) (lo:=u%10) (hi:=u%10+1);(iterate 6 exact F);omega;omega;(show u%10+1≤10;omega)):p:=h
def qO {p:Prop}(h:p:=by rw[←Ck,←Ck];exact List.Perm.append_right _ JW):p:=h
def bU {p:Prop}(h:p:=by apply Aw9;(iterate 4 exact F);exact Av2 (by omega)):p:=h
def TM {p q:Prop}(g:q)(h:(Unit→q)→p:=by intro Qg;apply AR;exact F;exact Ab func44;exact hfo;exact Qg ()):p:=h λ_=>g
def WR {p q:Prop}(g:q)(h:(Unit→q)→p:=by intro Qg;apply Aw;exact F;exact Ab func236;exact Ai7 _ _;exact Qg ()):p:=h λ_=>g
def TL {p q:Prop}(g:q)(h:(Unit→q)→p:=by intro Qg;apply Aw;exact F;exact Ab func59;exact hpo;exact Qg ()):p:=h λ_=>g
def qN {p q:Prop}(g:q)(h:(Unit→q)→p:=by intro Qg;apply AR;exact F;exact Ab func11;exact hnew _ BI;exact Qg ()):p:=h λ_=>g
def qM {p q:Prop}(g:q)(h:(Unit→q)→p:=by intro Qg;apply Aw;exact F;exact Ab func246;exact hmm _ BI;exact Qg ()):p:=h λ_=>g
def qL {p q:Prop}(g:q)(h:(Unit→q)→p:=by intro Qg;apply AR;exact F;exact Ab func160;exact hsg _ BI;exact Qg ()):p:=h λ_=>g
def qK {p q:Prop}(g:q)(h:(Unit→q)→p:=by intro Qg;apply AR;exact F;exact Ab func225;exact hrg _ BI;exact Qg ()):p:=h λ_=>g
def rI {p q:Prop}(g:q)(h:(Unit→q)→p:=by intro Qg;apply AR;exact F;exact Ab func161;exact hof _ BI;exact Qg ()):p:=h λ_=>g
def rH {p q:Prop}(g:q)(h:(Unit→q)→p:=by intro Qg;apply AR;exact F;exact Ab func16;exact hen2 _ BI;exact Qg ()):p:=h λ_=>g
def rG {p q:Prop}(g:q)(h:(Unit→q)→p:=by intro Qg;apply AR;exact F;exact Ab func111;exact hsg _ BI;exact Qg ()):p:=h λ_=>g
def rF {p q:Prop}(g:q)(h:(Unit→q)→p:=by intro Qg;apply AR;exact F;exact Ab func323;exact hct _ BI;exact Qg ()):p:=h λ_=>g
def rE {p q:Prop}(g:q)(h:(Unit→q)→p:=by intro Qg;apply AR;exact F;exact Ab func264;exact hun _ BI;exact Qg ()):p:=h λ_=>g
def rD {p q:Prop}(g:q)(h:(Unit→q)→p:=by intro Qg;apply AR;exact F;exact Ab func112;exact hof _ BI;exact Qg ()):p:=h λ_=>g
def rC {p q:Prop}(g:q)(h:(Unit→q)→p:=by intro Qg;apply AR;exact F;exact Ab func63;exact hofg _ BI;exact Qg ()):p:=h λ_=>g
def rB {p q:Prop}(g:q)(h:(Unit→q)→p:=by intro Qg;apply AR;exact F;exact Ab func31;exact hdi _ BI;exact Qg ()):p:=h λ_=>g
def rA {p q:Prop}(g:q)(h:(Unit→q)→p:=by intro Qg;apply AR;exact F;exact Ab func68;exact hde _ BI;exact Qg ()):p:=h λ_=>g
def qZ {p q:Prop}(g:q)(h:(Unit→q)→p:=by intro Qg;apply CE (enc:=BM) (xs:=out);(iterate 7 exact F);exact hs5;exact Gv;exact Uh;intro v1;exact Bp;omega;exact F;exact Qg ()):p:=h λ_=>g
def qB {p q:Prop}(g:q)(h:(Unit→q)→p:=by intro Qg;apply AR;exact F;exact Ab func51;exact hof _ BI;exact Qg ()):p:=h λ_=>g
def qA {p q:Prop}(g:q)(h:(Unit→q)→p:=by intro Qg;apply AR;exact F;exact Ab func16;exact hen _ BI;exact Qg ()):p:=h λ_=>g
def pZ {p q:Prop}(g:q)(h:(Unit→q)→p:=by intro Qg;apply AR;exact F;exact Ab func57;exact hcm _ BI;exact Qg ()):p:=h λ_=>g
def pY {p q:Prop}(g:q)(h:(Unit→q)→p:=by intro Qg;apply AR;exact F;exact Ab func20;exact hen _ BI;exact Qg ()):p:=h λ_=>g
def pX {p q:Prop}(g:q)(h:(Unit→q)→p:=by intro Qg;apply AR;exact F;exact Ab func23;exact hso _ BI;exact Qg ()):p:=h λ_=>g
def pW {p q:Prop}(g:q)(h:(Unit→q)→p:=by intro Qg;apply AR;exact F;exact Ab func24;exact hnw _ BI;exact Qg ()):p:=h λ_=>g
def pV {p q:Prop}(g:q)(h:(Unit→q)→p:=by intro Qg;apply AR;exact F;exact Ab func29;exact hw _ BI;exact Qg ()):p:=h λ_=>g
def pU {p q:Prop}(g:q)(h:(Unit→q)→p:=by intro Qg;apply HQ (e:=3) (cs:=(Ki u).map λi=>O i);(iterate 3 exact F);exact Cf _ _;(iterate 4 exact F);exact Qg ()):p:=h λ_=>g
def pT {p:Prop}(h:p:=by apply Cs (j:=0) (n:=L.length);(iterate 5 exact F);exact hs21.addrD (show 0<L.length by omega);omega;omega):p:=h
def FC {p:Prop}(h:p:=by simp;omega):p:=h
def WP {p q:Prop}(g:q)(h:(Unit→q)→p:=by intro Qg;apply Aw;exact F;exact Ab func237;exact Asb _ _;exact Qg ()):p:=h λ_=>g
def pS {p:Prop}(h:p:=by apply KD (ek:=Dq) (ev:=MJ) (z0:=(0,false)) (key:=zp) (b:=bm) (m:=m) hK;(iterate 6 exact F);exact hq):p:=h
def TK {p:Prop}(h:p:=by rintro x u h2 rfl;rfl):p:=h
def pR {p q:Prop}(g:q)(h:(Unit→q)→p:=by intro Qg;apply PH (n:=1) (cs:=[(108:UInt8)].flatMap BZ);(iterate 3 exact F);exact Cf _ _;(iterate 6 exact F);exact Qg ()):p:=h λ_=>g
def pQ {p q:Prop}(g:q)(h:(Unit→q)→p:=by intro Qg;apply HQ (cs:=(GU g).map λi=>O i);(iterate 3 exact F);exact Cf _ _;(iterate 4 exact F);exact Qg ()):p:=h λ_=>g
def MS {p:Prop}(h:p:=by simp[e]):p:=h
def pP {p q:Prop}(g:q)(h:(Unit→q)→p:=by intro Qg;apply PH (n:=1) (cs:=[p.2.ru.case].flatMap AQ);(iterate 3 exact F);exact Cf _ _;(iterate 6 exact F);exact Qg ()):p:=h λ_=>g
def pO {p:Prop}(h:p:=by apply Cs (j:=k) (n:=ms.length) (A:=A6);(iterate 5 exact F);exact a3;(with_reducible exact F);omega):p:=h
def pN {p q:Prop}(g:q)(h:(Unit→q)→p:=by intro Qg;apply CE (enc:=Cp) (xs:=vs);(iterate 7 exact F);exact hs4;exact Fy;exact PV;intro v1;exact Bp;omega;exact F;exact Qg ()):p:=h λ_=>g
def NS {p:Prop}(h:p:=by simp[hc]):p:=h
def bR {p:Prop}(h:p:=by apply YE;(iterate 3 exact F);kernel_rfl;kernel_rfl):p:=h
def bQ {p:Prop}(h:p:=by apply MM (j:=k-1);(iterate 5 exact F);omega;omega):p:=h
def bP {p q:Prop}(g:q)(h:(Unit→q)→p:=by intro Qg;apply Ed;exact F;exact Ab func96;exact Aq3 _;exact TC;exact Qg ()):p:=h λ_=>g
def bO {p q:Prop}(g:q)(h:(Unit→q)→p:=by intro Qg;apply hR;exact F;exact Ab func37;exact hidx _ b7 c7 b2 b3;exact Ad;exact Qg ()):p:=h λ_=>g
def qJ {p q:Prop}(g:q)(h:(Unit→q)→p:=by intro Qg;apply HQ (cs:=[(105:UInt8)].flatMap BZ);(iterate 3 exact F);exact Cf _ _;(iterate 4 exact F);exact Qg ()):p:=h λ_=>g
def qI {p:Prop}(h:p:=by apply BA;exact F;first|exact BH rfl rc16 rfl|exact GA rfl d1 rfl|exact GA rfl d2 rfl):p:=h
def RN {p:Prop}(h:p:=by unfold maxLen;omega):p:=h
def qH {p:Prop}(h:p:=by apply Cs (j:=k);(iterate 5 exact F);(first|exact a1|exact a2);(with_reducible exact F);omega):p:=h
def WQ {p:Prop}(h:p:=by rw[Dc];omega):p:=h
def qG {p:Prop}(h:p:=by apply Cs (j:=nn) (n:=ds.length);(iterate 5 exact F);exact a1;(with_reducible exact F);omega):p:=h
def qF {p q:Prop}(g:q)(h:(Unit→q)→p:=by intro Qg;apply PH (n:=1) (cs:=[p].flatMap BM);(iterate 3 exact F);exact Cf _ _;(iterate 6 exact F);exact Qg ()):p:=h λ_=>g
def qE {p:Prop}(h:p:=by apply Cs (j:=m) (n:=ds.length);(iterate 5 exact F);exact aM;(with_reducible exact F);omega):p:=h
def qD {p:Prop}(h:p:=by apply Cs (j:=k) (n:=L.length);(iterate 5 exact F);exact a1;(with_reducible exact F);omega):p:=h
def qC {p:Prop}(h:p:=by apply Cs (j:=k) (n:=R0.1.n);(iterate 5 exact F);exact a1;(with_reducible exact F);omega):p:=h
def pM {p:Prop}(h:p:=by apply Cs (j:=k) (n:=R1.1.n);(iterate 5 exact F);exact a2;(with_reducible exact F);omega):p:=h
def pL {p:Prop}(h:p:=by apply Cs (j:=k) (n:=r.1.n);(iterate 5 exact F);exact a1;(with_reducible exact F);omega):p:=h
def pK {p:Prop}(h:p:=by rw[show GN (AZ (R.2.take 0))=[]from rfl,DR];exact Ad):p:=h
def pJ {p:Prop}(h:p:=by apply Cs (j:=i) (n:=s'.n);(iterate 5 exact F);exact rb;(with_reducible exact F);omega):p:=h
def pI {p q:Prop}(g:q)(h:(Unit→q)→p:=by intro Qg;apply Ot (f:=298) (fs:=[]) (cs:=[Dt bF]);exact F;exact F;exact Ab func298;exact Apj _ bF bm fs _;exact Ad;exact Qg ()):p:=h λ_=>g
def pH {p:Prop}(h:p:=by apply Cs (j:=jj) (n:=k3);(iterate 5 exact F);exact aL;(with_reducible exact F);omega):p:=h
def RM {p:Prop}(h:p:=by simpa using h):p:=h
def WO {p q:Prop}(g:q)(h:(Unit→q)→p:=by intro Qg;apply AR;exact F;exact Ab func35;exact hrc _;exact Qg ()):p:=h λ_=>g
def pG {p:Prop}(h:p:=by apply PA (hi:=s.n-1) (n:=s.n) (c:=s.c);(iterate 5 exact F);omega;omega;exact hnc):p:=h
def pF {p:Prop}(h:p:=by apply Cs (j:=j) (n:=k3);(iterate 5 exact F);exact b1;(with_reducible exact F);omega):p:=h
def pE {p:Prop}(h:p:=by apply Cs (j:=j) (n:=m);(iterate 5 exact F);exact b1';(with_reducible exact F);omega):p:=h
def pD {p:Prop}(h:p:=by apply Cs (j:=i) (n:=k3);(iterate 5 exact F);exact a1;(with_reducible exact F);omega):p:=h
def pC {p:Prop}(h:p:=by apply Cs (j:=j) (n:=n);(iterate 5 exact F);exact a1;(with_reducible exact F);omega):p:=h
def pB {p:Prop}(h:p:=by apply Cs (j:=k) (n:=i);(iterate 5 exact F);exact a2;(with_reducible exact F);omega):p:=h
def pA {p:Prop}(h:p:=by apply Cs (j:=k);(iterate 5 exact F);exact a1;(with_reducible exact F);exact hkn2):p:=h
def WN {p q:Prop}(g:q)(h:(Unit→q)→p:=by intro Qg;apply Aw;exact F;exact Ab func19;exact hr _;exact Qg ()):p:=h λ_=>g
def oZ {p:Prop}(h:p:=by apply Cs (j:=k);(iterate 5 exact F);exact a2;(with_reducible exact F);exact hkK):p:=h
def WM {p q:Prop}(g:q)(h:(Unit→q)→p:=by intro Qg;apply Aw;exact F;exact Ab func60;exact hdi;exact Qg ()):p:=h λ_=>g
def oY {p:Prop}(h:p:=by kernel_rfl):p:=h
def Zl (c:BinOp) (a b:Int):Option Value:=
 match c with
 | .eql=>some (.bool (DZ a b))
 | .neq=>some (.bool (!DZ a b))
 | .lss=>some (.bool (FR a b))
 | .leq=>some (.bool (Lm a b))
 | .gtr=>some (.bool (FR b a))
 | .geq=>some (.bool (Lm b a))
 |_=>none
def Ak6 {c:BinOp}{a b:Int}{v:Value}(h:Zl c a b=some v):Op.intCmp c a b=pure v:=by cases c<;>simp only[Zl,Eh,reduceCtorEq]at h<;>subst h<;>simp[Op.intCmp,FP,OO,ON]<;>first|rfl|(congr 1;simp[bne,Int.beq_eq_decide])|skip
def Mz (d:TypeDesc) (x y:Value):Option Bool:=
 match d,x,y with
 | .bool,.bool a,.bool b=>some (a==b)
 | .pointer _,.pointer none,.pointer p=>some p.isNone
 | .pointer _,.pointer (some _),.pointer none=>some false
 | .slice _,.slice none _ _,.slice p _ _=>some p.isNone
 | .slice _,.slice (some _) _ _,.slice none _ _=>some false
 | .map _ _,.map none,.map p=>some p.isNone
 | .map _ _,.map (some _),.map none=>some false
 | .func _ _ _,.nilFunc,.nilFunc=>some true
 | .func _ _ _,.func _ _ _,.nilFunc=>some false
 | .func _ _ _,.nilFunc,.func _ _ _=>some false
 |_,_,_=>none
def ZU {D:TypeDesc}{p r:Kf}{v:Bool}(h:GM D=.func p r v):D=.func p r v:=by cases D<;>simp_all[GM]
def Ak5 {D d:TypeDesc}(a:GM D=d){x y:Value}{b:Bool}(h:Mz d x y=some b):D=d:=by unfold Mz at h;split at h;{exact ZT a};{exact nK a};{exact nK a};{exact Ho a};{exact Ho a};{exact QE a};{exact QE a};{exact ZU a};{exact ZU a};{exact ZU a};{cases h}
def jK {P:Program}{t:TypeId}{D d:TypeDesc}(c:P.underlying t=some D)(a:GM D=d){x y:Value}{b:Bool}(h:Mz d x y=some b)(w:World) :
  (Op.equal t x y).run P w=.ok b w:=by
 obtain rfl:=Ak5 a h
 have e:(underlying t).run P w=.ok D w:=run_underlying c w
 show(Op.equalIn (9999+1) t x y).run P w=.ok b w
 generalize 9999=n
 unfold Mz at h
 unfold Op.equalIn
 simp only[BK,e,B']
 split at h<;>first
  |(injection h with h;subst h;rfl)
  |(cases h;done)
def JK (d:TypeDesc) (c:BinOp) (x y:Value):Option Value:=
 match x,y with
 | .int k a,.int e b=>
   if k=e then
    match c with
    | .add=>some (.int k (k.wrap (a+b)))
    | .sub=>some (.int k (k.wrap (a-b)))
    | .mul=>some (.int k (k.wrap (a*b)))
    | .quo=>if b=0 then none else some (.int k (k.wrap (a.tdiv b)))
    | .rem=>if b=0 then none else some (.int k (a.tmod b))
    | .and=>some (.int k (k.wrap ((BitVec.ofInt k.bits a&&& BitVec.ofInt k.bits b).toNat)))
    | .or=>some (.int k (k.wrap ((BitVec.ofInt k.bits a|||BitVec.ofInt k.bits b).toNat)))
    | .xor=>some (.int k (k.wrap ((BitVec.ofInt k.bits a ^^^BitVec.ofInt k.bits b).toNat)))
    | .andNot=>some (.int k (k.wrap ((BitVec.ofInt k.bits a&&& ~~~(BitVec.ofInt k.bits b)).toNat)))
    | .shl|.shr=>none
    |_=>Zl c a b
   else none
 | .string a,.string b=>
   match c with
   | .eql=>some (.bool (a.toList==b.toList))
   | .neq=>some (.bool (!(a.toList==b.toList)))
   | .lss=>some (.bool (Op.bytesLess a.toList b.toList))
   | .leq=>some (.bool (Op.bytesLess a.toList b.toList||a.toList==b.toList))
   | .gtr=>some (.bool (!(Op.bytesLess a.toList b.toList||a.toList==b.toList)))
   | .geq=>some (.bool (!(Op.bytesLess a.toList b.toList)))
   |_=>none
 |x,y=>
   match c with
   | .eql=>match Mz d x y with|some b=>some (.bool b)|none=>none
   | .neq=>match Mz d x y with|some b=>some (.bool (!b))|none=>none
   |_=>none
def Ak7 {P:Program}{t:TypeId}{D d:TypeDesc}(l:P.underlying t=some D)(j:GM D=d){e:BinOp}{p q v:Value}(h:JK d e p q=some v)(w:World)(f g:Operand) :
  (do eqGuard e t f g p q;binOp e t p q:Sem Value).run P w=.ok v w:=by
 unfold JK at h
 split at h
 · split at h
   · rename_i k a n b m
     subst m
     have hg:eqGuard e t f g (.int k a) (.int k b)=pure ():=by cases e<;>rfl
     rw[hg]
     cases e<;>simp only[Eh,reduceCtorEq]at h<;>first
      |(subst h;simp[binOp,Op.intArith,Op.intBits];done)
      |(
         split at h
         · cases h
         · rename_i c
           injection h with h
           subst h
           simp[binOp,Op.intDiv,c];done)
      |(simp[binOp,Ak6 h];done)
   · cases h
 · rename_i a b
   have hg:eqGuard e t f g (.string a) (.string b)=pure ():=by cases e<;>rfl
   rw[hg]
   split at h<;>first
    |(injection h with h;subst h;simp[binOp,Op.stringOp];done)
    |(cases h;done)
 · rename_i hx hy
   clear hx hy
   split at h
   · split at h
     · rename_i b c
       injection h with h;subst h
       have:=jK l j c w
       have hg:eqGuard .eql t f g p q=pure ():=by
        unfold Mz at c
        split at c<;>first|rfl|cases c
       rw[hg]
       have i:binOp .eql t p q=(do pure (.bool (←Op.equal t p q)):Sem Value):=by
        unfold Mz at c
        split at c<;>first|rfl|cases c
       rw[i]
       simp[this]
     · cases h
   · split at h
     · rename_i b c
       injection h with h;subst h
       have:=jK l j c w
       have hg:eqGuard .neq t f g p q=pure ():=by
        unfold Mz at c
        split at c<;>first|rfl|cases c
       rw[hg]
       have i:binOp .neq t p q=(do pure (.bool (!(←Op.equal t p q))):Sem Value):=by
        unfold Mz at c
        split at c<;>first|rfl|cases c
       rw[i]
       simp[this]
     · cases h
   · cases h
def Il (l:AW):List Operand→Vi
 |[]=>some []
 |x::r=>match AJ l x,Il l r with
   |some v,some vs=>some (v::vs)
   |_,_=>none
def ND (l:AW):List (Nat×Operand)→Option (PK)
 |[]=>some []
 |p::r=>match AJ l p.2,ND l r with
   |some v,some vs=>some ((p.1,v)::vs)
   |_,_=>none
theorem PT {l:AW}{a:Act}(h:Hl l a):∀{xs:List Operand} {vs:Ao},Il l xs=some vs→xs.map a.eval=vs
 |[],vs,e=>by simp only[Il,Eh]at e;subst e;rfl
 |x::r,vs,e=>by simp only[Il]at e;split at e;{rename_i v us h1 h2;injection e with e;subst e;simp[h.eval h1,PT h h2]};{cases e}
theorem dX {l:AW}{a:Act}(h:Hl l a):∀{xs:List (Nat×Operand)} {vs:PK},ND l xs=some vs→xs.map (λp=>(p.1,a.eval p.2))=vs
 |[],vs,e=>by simp only[ND,Eh]at e;subst e;rfl
 |x::r,vs,e=>by simp only[ND]at e;split at e;{rename_i v us h1 h2;injection e with e;subst e;simp[h.eval h1,dX h h2]};{cases e}
def VF (ts:ER) (t f:Nat):Option (Nat×Nat×Bool):=
 match AM t ts with
 |some {desc:=.struct fs,..}=>
   match fs.toList[f]? with
   |some Br=>match AM Br.type ts with
     |some T=>some (Br.offset,T.size,T.agg)
     |none=>none
   |none=>none
 |_=>none
def UK (ts:ER):List Field→Option (IG)
 |[]=>some []
 |f::r=>match AM f.type ts,UK ts r with
   |some T,some ps=>some ((f.offset,T.size)::ps)
   |_,_=>none
def BX:Value→Ao
 | .agg cs=>cs.toList
 |v=>[v]
def Ni (v:Value):v.cells=(BX v).toArray:=by cases v<;>rfl
def Nx (a:Nat→Option (Nat×Nat)):PK→Ao→Vi
 |[],cs=>some cs
 |p::r,cs=>match a p.1 with
   |some (off,b)=>
     match BX p.2 with
     |[]=>none
     |x::xs=>bif Nat.beq (x::xs).length b then(match JR off (x::xs) cs with|some cs'=>Nx a r cs'|none=>none)else none
   |none=>none
theorem yW (off:Nat):∀(vs:Ao) (k:Nat) (cs:Dx),off+k+vs.length≤cs.size→
  ((vs.zipIdx k).foldl (λ(cs:Dx) (p:Value×Nat)=>cs.setIfInBounds (off+p.2) p.1) cs).size=cs.size∧
  ∀j,((vs.zipIdx k).foldl (λ(cs:Dx) (p:Value×Nat)=>cs.setIfInBounds (off+p.2) p.1) cs)[j]?=if off+k≤j∧j<off+k+vs.length then vs[j-(off+k)]? else cs[j]?
 |[],k,cs,h=>⟨rfl,λj=>by rw[if_neg (by simp only[Jw];omega)];rfl⟩
 |v::vs,k,cs,h=>by
   simp only[List.zipIdx_cons,Nf]
   simp only[Do]at h
   obtain⟨h1,h2⟩:=yW off vs (k+1) (cs.setIfInBounds (off+k) v) FC
   refine⟨by rw[h1];simp,λj=>?_⟩
   rw[h2 j]
   by_cases c1:j=off+k
   · subst c1
     rw[if_neg J,if_pos ⟨BU _,An⟩,Nat.sub_self]
     simp[show off+k<cs.size by omega]
   · rw[A1b J]
     by_cases c2:off+(k+1)≤j∧j<off+(k+1)+vs.length
     · rw[if_pos c2,if_pos FC,show j-(off+k)=(j-(off+(k+1)))+1 by omega,Sp]
     · rw[if_neg c2,if_neg FC]
def All {o:Nat}{vs cs r:Ao}(h:JR o vs cs=some r)(hv:vs≠[])(j:Nat):r[j]?=if o≤j∧j<o+vs.length then vs[j-o]? else cs[j]?:=by obtain⟨h1,h2⟩:=Vd h;have h3:=h2 hv;subst h1;by_cases c1:j<o;{rw[if_neg J,Ck,GK FC,FF,if_pos c1]};{by_cases c2:j<o+vs.length;{rw[if_pos J,Ck,JZ FC,GK FC];congr 1;simp;omega};{rw[if_neg J,JZ FC,Nd];congr 1;simp;omega}}
theorem V' {d:Nat→Option (Nat×Nat)}:∀{ps:PK} {cs rs:Ao},Nx d ps cs=some rs→Instr.fill d cs.toArray ps=some rs.toArray
 |[],cs,rs,h=>by simp only[Nx,Eh]at h;subst h;rfl
 |p::r,cs,rs,h=>by obtain⟨i,v⟩:=p;simp only[Nx]at h;split at h;{rename_i off m hp;split at h;{cases h};{rename_i x xs hv;cases a:Nat.beq (x::xs).length m with|false=>(rw[a]at h;cases h)|true=>rw[a]at h;simp only[cond_true]at h;split at h;{rename_i cs' b;have g:=Mc a;have l:=V' h;have h3:=(Vd b).2 An;(have e:v.cells=(x::xs).toArray:=by rw[Ni,hv]);simp only[Instr.fill,hp,e];rw[if_neg (by simp at g h3 ⊢;omega)];have hf:=yW off (x::xs) 0 cs.toArray (by simpa using h3);(have k:(x::xs).toArray.zipIdx.foldl (λ(cs:Dx) (y:Value×Nat)=>match y with|(c,j)=>cs.setIfInBounds (off+j) c) cs.toArray=((x::xs).zipIdx 0).foldl (λ(cs:Dx) (p:Value×Nat)=>cs.setIfInBounds (off+p.2) p.1) cs.toArray:=by{rw[_root_.Array.zipIdx_toArray,←Array.foldl_toList]});(have f:((x::xs).toArray.zipIdx.foldl (λ(cs:Dx) (y:Value×Nat)=>match y with|(c,j)=>cs.setIfInBounds (off+j) c) cs.toArray)=cs'.toArray:=by{rw[k];apply hZ;intro j;rw[hf.2 j];simp only[eK];rw[All b An j];simp});rw[f];exact l};{cases h}}};{cases h}
def jJ (d:TypeDesc) (v:Value):Option Value:=
 match d,v with
 | .slice _,.slice _ n _=>some (O n)
 | .string,.string s=>some (O s.size)
 | .array n _,_=>some (O n)
 | .map _ _,.map none=>some (O 0)
 |_,_=>none
def SV:Value→Ao→Vh
 |v,[]=>some v
 | .int k x,.int _ y::r=>SV (.int k (max x y)) r
 |_,_=>none
def SU:Value→Ao→Vh
 |v,[]=>some v
 | .int k x,.int _ y::r=>SU (.int k (min x y)) r
 |_,_=>none
def iE (ts:ER) (b:Builtin) (tys:List TypeId) (vs:Ao):Option Value:=
 match b,tys,vs with
 | .len,t::_,v::_=>match AM t ts with|some T=>jJ T.desc v|none=>none
 | .cap,t::_,.slice _ _ c::_=>match AM t ts with|some {desc:=.slice _,..}=>some (O c)|_=>none
 | .max,_,.int k x::r=>SV (.int k x) r
 | .min,_,.int k x::r=>SU (.int k x) r
 |_,_,_=>none
def Zk (a:UnOp) (v:Value):Option Value:=
 match a,v with
 | .not,.bool b=>some (.bool (!b))
 | .neg,.int k n=>some (.int k (k.wrap (0-n)))
 |_,_=>none
def XX (d:TypeDesc) (v:Value):Option Value:=
 match d,v with
 | .int k,.int _ n=>some (.int k (k.wrap n))
 | .string,.string s=>some (.string s)
 |_,_=>none
def EC (off a:Nat) (agg:Bool) (cs:Ao):Option Value:=
 match agg with
 |true=>match cut off a cs with|some vs=>some (.agg vs.toArray)|none=>none
 |false=>MC off cs
def Kg (ts:ER) (l:AW) (g:Op):Option Value:=
 match g with
 | .move x=>AJ l x
 | .assign x=>AJ l x
 | .pick c a b=>match AJ l c with
   |some (.bool true)=>AJ l a
   |some (.bool false)=>AJ l b
   |_=>none
 | .nilCheck x=>match AJ l x with
   |some (.pointer (some a))=>some (.pointer (some a))
   |some (.func (.func f) p q)=>some (.func (.func f) p q)
   |some (.func (.yield f) p q)=>some (.func (.yield f) p q)
   |some (.map m)=>some (.map m)
   |_=>none
 | .unOp g _ x=>match AJ l x with|some v=>Zk g v|none=>none
 | .binOp g t x y _=>match AM t ts,AJ l x,AJ l y with
   |some T,some a,some b=>JK T.desc g a b
   |_,_,_=>none
 | .convert s d x=>match AM s ts,AM d ts,AJ l x with
   |some _,some T,some v=>XX T.desc v
   |_,_,_=>none
 | .extract x i=>match AJ l x with|some (.tuple vs)=>MC i vs.toList|_=>none
 | .field t x f=>match VF ts t f,AJ l x with
   |some (off,h,agg),some (.agg cs)=>EC off h agg cs.toList
   |_,_=>none
 | .fieldAddr t x f=>match VF ts t f,AJ l x with
   |some (off,h,_),some (.pointer (some a))=>bif Nat.beq h 0 then none else some (.pointer (some (a.add off)))
   |_,_=>none
 | .makeFunc fn first k=>match Il l first.toList,Il l k.toList with
   |some fs,some cs=>some (.func fn fs.toArray cs.toArray)
   |_,_=>none
 | .build t n=>match AM t ts,ND l n.toList with
   |some T,some ps=>match T.desc with
     | .struct fs=>match UK ts fs.toList with
       |some pl=>match Nx (λi=>pl[i]?) ps (BX T.zero)with
         |some cs=>some (.agg cs.toArray)
         |none=>none
       |none=>none
     | .array _ e=>match AM e ts with
       |some j=>match Nx (λi=>some (i*j.size,j.size)) ps (BX T.zero)with
         |some cs=>some (.agg cs.toArray)
         |none=>none
       |none=>none
     |_=>none
   |_,_=>none
 | .makeInterface t x=>match AM t ts,AJ l x with
   |some T,some v=>match T.desc with|.interface _=>none|_=>some (.iface t v)
   |_,_=>none
 | .call {callee:=.builtin b,args,argTypes}=>match Il l args.toList with
   |some vs=>iE ts b argTypes.toList vs
   |none=>none
 |_=>none
theorem wK (P:Program)(w:World):∀{r:Ao} {k:IntKind} {x:Int} {v:Value},SV (.int k x) r=some v→
  (r.foldlM Builtin.max2 (.int k x):Sem Value).run P w=.ok v w
 |[],k,x,v,h=>by simp only[SV,Eh]at h;subst h;rfl
 | .int b y::r,k,x,v,h=>by
   simp only[SV]at h
   have a:=wK P w h
   have e:max x y=if y>x then y else x:=by split<;>omega
   rw[e]at a
   simpa[List.foldlM_cons,Builtin.max2]using a
 | .bool _::r,k,x,v,h=>by cases h
 | .float _ _::r,k,x,v,h=>by cases h
 | .complex _ _ _::r,k,x,v,h=>by cases h
 | .string _::r,k,x,v,h=>by cases h
 | .pointer _::r,k,x,v,h=>by cases h
 | .slice _ _ _::r,k,x,v,h=>by cases h
 | .map _::r,k,x,v,h=>by cases h
 | .chan _::r,k,x,v,h=>by cases h
 | .func _ _ _::r,k,x,v,h=>by cases h
 | .nilFunc::r,k,x,v,h=>by cases h
 | .iface _ _::r,k,x,v,h=>by cases h
 | .nilIface::r,k,x,v,h=>by cases h
 | .agg _::r,k,x,v,h=>by cases h
 | .tuple _::r,k,x,v,h=>by cases h
theorem wL (P:Program)(w:World):∀{r:Ao} {k:IntKind} {x:Int} {v:Value},SU (.int k x) r=some v→
  (r.foldlM Builtin.min2 (.int k x):Sem Value).run P w=.ok v w
 |[],k,x,v,h=>by simp only[SU,Eh]at h;subst h;rfl
 | .int b y::r,k,x,v,h=>by
   simp only[SU]at h
   have a:=wL P w h
   have e:min x y=if y<x then y else x:=by split<;>omega
   rw[e]at a
   simpa[List.foldlM_cons,Builtin.min2]using a
 | .bool _::r,k,x,v,h=>by cases h
 | .float _ _::r,k,x,v,h=>by cases h
 | .complex _ _ _::r,k,x,v,h=>by cases h
 | .string _::r,k,x,v,h=>by cases h
 | .pointer _::r,k,x,v,h=>by cases h
 | .slice _ _ _::r,k,x,v,h=>by cases h
 | .map _::r,k,x,v,h=>by cases h
 | .chan _::r,k,x,v,h=>by cases h
 | .func _ _ _::r,k,x,v,h=>by cases h
 | .nilFunc::r,k,x,v,h=>by cases h
 | .iface _ _::r,k,x,v,h=>by cases h
 | .nilIface::r,k,x,v,h=>by cases h
 | .agg _::r,k,x,v,h=>by cases h
 | .tuple _::r,k,x,v,h=>by cases h
def Az3 {P:Program}{ts:ER}(hT:FZ P ts){b:Builtin}{tys:List TypeId}{vs:Ao}{v:Value}(h:iE ts b tys vs=some v)(ty:TypeId)(cs:Array Bool)(w:World) :
  (builtin b tys.toArray ty cs vs.toArray).run P w=.ok (.value v) w:=by
 unfold iE at h
 split at h
 · split at h
   · rename_i t r x i T g
     obtain⟨D,a,d⟩:=hT.run_und g
     have a:=a w
     unfold jJ at h
     split at h
     · rename_i f;injection h with h;subst h;rw[f]at d;rw[Ho d]at a;simp[builtin,Builtin.len_,a,goInt]
     · rename_i f;injection h with h;subst h;rw[f]at d;rw[Ox d]at a;simp[builtin,Builtin.len_,a,goInt]
     · rename_i f;injection h with h;subst h;rw[f]at d;rw[Ou d]at a;simp[builtin,Builtin.len_,a,goInt]
     · rename_i f;injection h with h;subst h;rw[f]at d;rw[QE d]at a;simp[builtin,Builtin.len_,a,goInt]
     · cases h
   · cases h
 · split at h
   · rename_i t r x n c i T e sz by' z g
     obtain⟨D,a,d⟩:=hT.run_und g
     have a:=a w
     rw[Ho d]at a
     injection h with h;subst h
     simp[builtin,Builtin.cap_,a,goInt]
   · cases h
 · have:=wK P w h
   simp[builtin,Builtin.max_]
   rw[this];rfl
 · have:=wL P w h
   simp[builtin,Builtin.min_]
   rw[this];rfl
 · cases h
def lI {P:Program}{ts:ER}(hT:FZ P ts){t f off c:Nat}{agg:Bool}(h:VF ts t f=some (off,c,agg)) :
  ∃fs Br,P.underlying t=some (.struct fs)∧fs[f]?=some Br∧Br.offset=off∧(∀w,(sizeOf Br.type).run P w=.ok c w)∧(∀w,(isAgg Br.type).run P w=.ok agg w):=by
 unfold VF at h
 split at h
 · rename_i fs sz by' z e
   obtain⟨D,d,g⟩:=hT.und e
   obtain⟨gs,rfl,hg⟩:=Sy g
   split at h
   · rename_i Br b
     rw[←hg,FG]at b
     obtain⟨gd,h1,h2⟩:=XR.1 b
     split at h
     · rename_i T a
       injection h with h
       simp only[Mb]at h
       obtain⟨i,j,k⟩:=h
       have e1:Br.type=gd.type:=by rw[←h2];rfl
       have e2:Br.offset=gd.offset:=by rw[←h2];rfl
       rw[e1]at a
       exact⟨gs,gd,d,by simpa using h1,by rw[←e2];exact i,λw=>by rw[←j];exact hT.run_size a w,λw=>by rw[←k];exact hT.run_agg a w⟩
     · cases h
   · cases h
 · cases h
theorem Nl {P:Program}{ty off b:Nat}{agg:Bool}{cs:Ao}{v:Value}(h:EC off b agg cs=some v)(w:World)(hs:(sizeOf ty).run P w=.ok b w)(a:(isAgg ty).run P w=.ok agg w) :
  (part ty cs.toArray off).run P w=.ok v w:=by
 unfold EC at h
 cases agg with
 |true=>
   simp only at h
   split at h
   · rename_i vs hc
     injection h with h;subst h
     obtain⟨h1,h2⟩:=WK hc
     subst h1
     simp only[part,BK,a,hs,B',if_true,CV]
     congr 2
     simp[List.extract_eq_take_drop]
   · cases h
 |false=>
   simp only at h
   have:=UI h
   simp[part,a,this]
theorem Aab {P:Program}{ts:ER}(hT:FZ P ts)(w:World):∀{gs:List Field} {pl:IG},UK ts (gs.map IV)=some pl→
  (gs.mapM (λf=>do pure (f.offset,←sizeOf f.type)):Sem (IG)).run P w=.ok pl w
 |[],pl,h=>by simp only[Jv,UK,Eh]at h;subst h;rfl
 |f::r,pl,h=>by
   simp only[CW,UK]at h
   split at h
   · rename_i T ps a hr
     injection h with h;subst h
     have c:=Aab hT w hr
     have b:AM f.type ts=some T:=a
     simp only[xG,BK,hT.run_size b w,B',CV,c]
     rfl
   · cases h
def A1f {P:Program}{src d:TypeId}{k q:IntKind}{n:Int}{w:World}(c:(underlying d).run P w=.ok (.int k) w)(b:∃D,(underlying src).run P w=.ok D w) :
  (convert src d (.int q n)).run P w=.ok (.int k (k.wrap n)) w:=by
 obtain⟨D,a⟩:=b
 simp only[convert,BK,c,a,B']
 cases D<;>rfl
def A1g {P:Program}{src d:TypeId}{s:ByteArray}{w:World}(c:(underlying d).run P w=.ok .string w)(b:∃D,(underlying src).run P w=.ok D w) :
  (convert src d (.string s)).run P w=.ok (.string s) w:=by
 obtain⟨D,a⟩:=b
 simp only[convert,BK,c,a,B']
 cases D<;>rfl
def Zj {P:Program}{ts:ER}(hT:FZ P ts){l:AW}{a:Act}(hs:Hl l a){o:Oper}{v:Value}(h:Kg ts l o.op=some v)(w:World) :
  (execOp a.eval o).run P w=.ok (.value v) w:=by
 obtain⟨dst,aq,ty,pos,aft,gd⟩:=o
 simp only at h
 unfold Kg at h
 split at h
 · simp[execOp,hs.eval h]
 · simp[execOp,hs.eval h]
 · split at h
   · rename_i hc;simp[execOp,hs.eval hc,hs.eval h,asBool]
   · rename_i hc;simp[execOp,hs.eval hc,hs.eval h,asBool]
   · cases h
 · split at h
   · rename_i hc;injection h with h;subst h;simp[execOp,hs.eval hc]
   · rename_i hc;injection h with h;subst h;simp[execOp,hs.eval hc]
   · rename_i hc;injection h with h;subst h;simp[execOp,hs.eval hc]
   · rename_i hc;injection h with h;subst h;simp[execOp,hs.eval hc]
   · cases h
 · split at h
   · rename_i hc
     unfold Zk at h
     split at h
     · injection h with h;subst h;simp[execOp,hs.eval hc,Op.unary]
     · injection h with h;subst h;simp[execOp,hs.eval hc,Op.unary,Op.intArith]
     · cases h
   · cases h
 · split at h
   · rename_i T x y j hx hy
     obtain⟨D,af,g⟩:=hT.und j
     have:=Ak7 af g h w
     simp only[execOp,hs.eval hx,hs.eval hy]
     simp only[BK]at this ⊢
     rw[this];rfl
   · cases h
 · split at h
   · rename_i src d x _ _ _ S T u ah j hx
     obtain⟨D,c,g⟩:=hT.run_und j
     have c:=c w
     obtain⟨KO,ad,_⟩:=hT.run_und ah
     unfold XX at h
     split at h
     · rename_i k q n m;injection h with h;subst h
       rw[m]at g;rw[Nk g]at c
       have:=A1f (P:=P) (src:=src) (d:=d) (k:=k) (q:=q) (n:=n) c ⟨_,ad w⟩
       simp only[execOp,hs.eval hx,BK,this,B',CV]
     · rename_i an m;injection h with h;subst h
       rw[m]at g;rw[Ox g]at c
       have:=A1g (P:=P) (src:=src) (d:=d) (s:=an) c ⟨_,ad w⟩
       simp only[execOp,hs.eval hx,BK,this,B',CV]
     · cases h
   · cases h
 · split at h
   · rename_i i _ vs hx
     have:=UI h
     have h2:vs[i]?=some v:=by simpa using this
     simp[execOp,hs.eval hx,Instr.extract,h2]
   · cases h
 · split at h
   · rename_i t x f off ab agg cs hf hx
     obtain⟨fs,Br,h1,h2,h3,z,aa⟩:=lI hT hf
     have hp:=Nl (P:=P) (ty:=Br.type) h w (z w) (aa w)
     simp only[execOp,hs.eval hx,Instr.field,BK,run_underlying h1,B',h2,asAgg,CV,h3]
     simp only[SJ]at hp
     rw[hp];rfl
   · cases h
 · split at h
   · rename_i t x f off ab agg ap hf hx
     obtain⟨fs,Br,h1,h2,h3,z,aa⟩:=lI hT hf
     cases p:Nat.beq ab 0 with
     |true=>rw[p]at h;cases h
     |false=>
       rw[p]at h
       simp only[cond_false,Eh]at h
       subst h
       have ak:ab≠0:=λe=>by subst e;cases p
       simp only[execOp,hs.eval hx,Instr.fieldAt,BK,run_underlying h1,B',h2,Instr.sureAddr,CV,fieldPlace,z,ak,if_false,h3]
   · cases h
 · split at h
   · rename_i fn first ae _ _ fs cs h1 h2
     injection h with h;subst h
     have e1:=PT hs h1
     have e2:=PT hs h2
     simp only[execOp,Instr.makeFunc,BK,CV,B']
     have r:first.map a.eval=fs.toArray:=by rw[←e1];apply Rc;simp
     have am:ae.map a.eval=cs.toArray:=by rw[←e2];apply Rc;simp
     rw[r,am]
   · cases h
 · split at h
   · rename_i t al _ _ T ps j hp
     obtain⟨D,c,g⟩:=hT.run_und j
     have c:=c w
     have p:=hT.run_zero j w
     have e1:=dX hs hp
     have r:(al.map λx=>match x with|(i,x)=>(i,a.eval x))=ps.toArray:=by rw[←e1];apply Rc;simp
     split at h
     · rename_i fs m
       rw[m]at g
       obtain⟨gs,rfl,ai⟩:=Sy g
       split at h
       · rename_i pl ac
         rw[←ai]at ac
         split at h
         · rename_i cs hf
           injection h with h;subst h
           have h3:=V' hf
           have z:=Aab hT w ac
           have aa:(gs.mapM λf=>do pure (f.offset,←sizeOf f.type):Sem (Array (Nat×Nat))).run P w=.ok pl.toArray w:=by
            rw[Array.mapM_eq_mapM_toList]
            simp only[Sem.run_map,z,B']
           simp only[execOp,Instr.build,BK,p,c,aa,B',r,CV,Ni]
           rw[show(λx=>pl.toArray[x]?)=(λi=>pl[i]?)from by funext i;simp,h3]
           rfl
         · cases h
       · cases h
     · rename_i n e m
       rw[m]at g;rw[Ou g]at c
       split at h
       · rename_i ao ag
         split at h
         · rename_i cs hf
           injection h with h;subst h
           have h3:=V' hf
           simp only[execOp,Instr.build,BK,p,c,hT.run_size ag w,B',r,CV,Ni,h3]
         · cases h
       · cases h
     · cases h
   · cases h
 · split at h
   · rename_i t x T u j hx
     obtain⟨D,c,g⟩:=hT.run_und j
     have c:=c w
     split at h
     · cases h
     · rename_i hn
       injection h with h;subst h
       have aj:∀ms,D≠.interface ms:=λms e=>hn #[] (by rw[←g,e];rfl)
       simp only[execOp,hs.eval hx,Instr.makeInterface,BK,c,B']
       cases D<;>first|rfl|exact absurd rfl (aj _)
   · cases h
 · split at h
   · rename_i b args argTypes _ vs hv
     have e1:=PT hs hv
     have r:args.map a.eval=vs.toArray:=by rw[←e1];apply Rc;simp
     have:=λq=>Az3 hT h ty q w
     simp only[execOp,resolve,invoke,BK,CV,B',r]
     simp only[SJ]at this
     exact this _
   · cases h
 · cases h
def NO (n:Int)(h : -9223372036854775808≤n∧n≤9223372036854775807):IntKind.i64.wrap n=n:=by rw[IntKind.wrap_i64];omega
structure Bu where
 P:Program
 ts:ER
 ok:FZ P ts
 ro:HR
 N:Nat
 w0:World
 X0:BD
 h0:U
 Q:Exit→Act→World→Prop
structure Tw (C:Bu) (ds:CL) (l:AW) (Es:Am) (h:U) (a:Act) (w:World):Prop where
 size:a.tmps.size=C.N
 defers:a.defers=ds
 slots:Hl l a
 hp:Bq C.w0 C.X0 C.h0 Es h w
def AI (C:Bu) (ds:CL) (l:AW) (Es:Am) (h:U) (K:CB):Prop:=∀a w,Tw C ds l Es h a w→Dp C.P C.ro K C.Q a w
def Bz (C:Bu) (ds:CL) (l:AW) (Es:Am) (h:U) (ops:Dm) (os:Hc) (K:CB):Prop:=
 ∀k,(∀j,os[j]?=ops[k+j]?)→AI C ds l Es h (.inRegion ops (List.range' k os.length)::K)
section control
variable {C:Bu} {ds:CL} {l:AW} {Es:Am} {h:U} {K:CB}
def dF (g:AI C ds l Es h K):AI C ds l Es h (.code .skip::K):=λa w s=>Ahz (g a w s)
def A0k {n:Nat}(g:AI C ds l Es h K):AI C ds l Es h (.code (.label n)::K):=λa w s=>Avx (g a w s)
def ZO {n:Nat}(g:AI C ds l Es h K):AI C ds l Es h (.inBlock n::K):=λa w s=>Az6 (g a w s)
def fP {x y:Code}(g:AI C ds l Es h (.code x::.code y::K)):AI C ds l Es h (.code (.seq x y)::K):=λa w s=>Ah0 (g a w s)
def fC {n:Nat}{c:Code}(g:AI C ds l Es h (.code c::.inBlock n::K)):AI C ds l Es h (.code (.block n c)::K):=λa w s=>Avw (g a w s)
def UU {c:Code}(g:AI C ds l Es h (.code c::.inLoop c::K)):AI C ds l Es h (.code (.loop c)::K):=λa w s=>Ah1 (g a w s)
def Wg {c:Code}(g:AI C ds l Es h (.code c::.inLoop c::K)):AI C ds l Es h (.inLoop c::K):=λa w s=>Ayj (g a w s)
def dE {n:Nat}{b:CB}(hx:exitTo n K=some b)(g:AI C ds l Es h b):AI C ds l Es h (.code (.exit n)::K):=λa w s=>Ah2 hx (g a w s)
theorem dD {c:Operand}{x y:Code}{t:Bool}(hc:AJ l c=some (.bool t))(b:t=true→AI C ds l Es h (.code x::K))(hf:t=false→AI C ds l Es h (.code y::K)) :
  AI C ds l Es h (.code (.cond c x y)::K):=λa w s=>by
 refine Ah4 (s.slots.eval hc) ?_
 cases t with
 |true=>exact b rfl a w s
 |false=>exact hf rfl a w s
def gX {n:Nat}{os:Hc}(g:Bz C ds l Es h os.toArray os K):AI C ds l Es h (.code (.region n os.toArray false)::K):=λa w s=>by
 refine Ayk ?_
 have:=g 0 (λj=>by simp) a w s
 rw[List.range_eq_range']
 simpa using this
def dG {ops:Dm}(g:AI C ds l Es h K):Bz C ds l Es h ops [] K:=λk _ a w s=>uN (g a w s)
def AI.sub {l':AW}(g:AI C ds l' Es h K)(hs:∀i v,CN i l'=some v→CN i l=some v):AI C ds l Es h K:=λa w s=>g a w ⟨s.size,s.defers,s.slots.sub hs,s.hp⟩
def Qx:AW→AW→Prop
 |[],_=>True
 |(j,v)::r,l=>CN j l=some v∧Qx r l
theorem Qx.ok:∀{l' l:AW},Qx l' l→∀i v,CN i l'=some v→CN i l=some v
 |[],_,_,i,v,e=>by cases e
 |(j,u)::r,l,⟨h1,h2⟩,i,v,e=>by simp only[CN]at e;cases a:Nat.beq i j with|true=>rw[a]at e;simp only[cond_true,Eh]at e;rw[Mc a,←e];exact h1|false=>rw[a]at e;exact h2.ok i v e
def Jz {l':AW}(hs:Qx l' l)(g:AI C ds l' Es h K):AI C ds l Es h K:=g.sub hs.ok
def A0o {Es':Am}{A A':EQ}(b:Ei Es A A' Es')(hi:∀D m,A.holds D m→A'.holds D m)(g:AI C ds l Es' h K):AI C ds l Es h K:=
 λa w s=>g a w ⟨s.size,s.defers,s.slots,s.hp.asn b hi⟩
def HM {Es':Am}{A:EQ}(hT:C' Es A Es')(g:AI C ds l Es' h K):AI C ds l Es h K:=
 λa w s=>g a w ⟨s.size,s.defers,s.slots,s.hp.drop hT⟩
def Ue {Es':Am}{A:EQ}(hT:C' Es A Es')(g:∀D h',V h h'→A.holds D h'→AI C ds l Es' h' K):AI C ds l Es h K:=λa w s=>by
 obtain⟨D,h',h1,h2,h3⟩:=s.hp.release hT
 exact g D h' h1 h2 a w ⟨s.size,s.defers,s.slots,h3⟩
end control
def Om (ops:Dm):Cq→Cq
 |none=>none
 |some (j,b)=>match(ops[j]?).bind (·.dst)with
   |some d=>some (d,b)
   |none=>none
def Fe (ops:Dm) (l:AW) (g:Cq):Option Bool:=
 match g with
 |none=>some true
 |some p=>match Om ops (some p)with
   |some (d,b)=>match CN d l with
     |some (.bool c)=>some (c==b)
     |some _=>some false
     |none=>none
   |none=>none
def Um {ops:Dm}{l:AW}{a:Act}(hs:Hl l a){o:Oper}{b:Bool}(h:Fe ops l o.guard=some b):Region.wanted o (yielded ops a.tmps)=b:=by unfold Fe at h;unfold Region.wanted;split at h;{rename_i hg;rw[hg];injection h};{rename_i p hg;rw[hg];obtain⟨j,f⟩:=p;simp only[Om]at h;cases e:(ops[j]?).bind (·.dst)with|none=>(rw[e]at h;cases h)|some d=>rw[e]at h;simp only at h;cases hc:CN d l with|none=>(rw[hc]at h;cases h)|some v=>rw[hc]at h;cases v with|bool c=>(simp only[Eh]at h;simp only[yielded,e,XS,hs d _ hc];rw[←h];cases c<;>cases f<;>rfl)|_=>simp only[Eh]at h;simp only[yielded,e,XS,hs d _ hc];rw[←h];rfl}
def MA (d:CK) (v:Value) (l:AW):AW:=match d with|some d=>(d,v)::l|none=>l
def GI (N:Nat) (d:CK):Bool:=match d with|some d=>Nat.blt d N|none=>true
def Cd (C:Bu) (l:AW) (Es:Am) (h:U) (o:Oper) (G:Value→Am→U→Prop):Prop:=
 ∀a w,Hl l a→Bq C.w0 C.X0 C.h0 Es h w→
  (∃v b Es' h',(execOp a.eval o).run C.P w=.ok (.value v) b∧Bq C.w0 C.X0 C.h0 Es' h' b∧G v Es' h')∨
  (∃b Es' h',(execOp a.eval o).run C.P w=.ok .skip b∧Bq C.w0 C.X0 C.h0 Es' h' b∧G undef Es' h')∨
  (∃f args c,(execOp a.eval o).run C.P w=.ok (.enter f args) c∧Calls C.P f args c λe w2=>∃v,e=.returned v∧∃Es' h',Bq C.w0 C.X0 C.h0 Es' h' w2∧G v Es' h')∨
  (∃r f tmps assign body c n,(execOp a.eval o).run C.P w=.ok (.round r f tmps assign body) c∧RoundIn Fence.wide n C.P r f tmps assign body c λe w2=>∃v,e=.returned v∧∃Es' h',Bq C.w0 C.X0 C.h0 Es' h' w2∧G v Es' h')
def LD:Op→Bool|.defer _=>true|_=>false
section ops
variable {C:Bu} {ds:CL} {l:AW} {Es:Am} {h:U} {K:CB} {ops:Dm} {os:Hc}
def Tw.put {a:Act}{w b:World}{Es':Am}{h':U}(s:Tw C ds l Es h a w){d:CK}(c:GI C.N d=true)(v:Value)(hp:Bq C.w0 C.X0 C.h0 Es' h' b):Tw C ds (MA d v l) Es' h' (a.put d v) b:=by cases d with|none=>exact⟨s.size,s.defers,s.slots,hp⟩|some d=>(have e:d<a.tmps.size:=by rw[s.size];exact of_decide_eq_true (by simpa[GI,Pf]using c));exact⟨by simp[Act.put,s.size],s.defers,s.slots.put e v,hp⟩
def Als {o:Oper}{k:Nat}{rest:BD}(i:ops[k]?=some o)(hg:Fe ops l o.guard=some true)(b:GI C.N o.dst=true)(hx:LD o.op=false)
  (g:Cd C l Es h o λv Es' h'=>AI C ds (MA o.dst v l) Es' h' (.inRegion ops rest::K)):AI C ds l Es h (.inRegion ops (k::rest)::K):=by
 intro a w s
 have hw:=Um s.slots hg
 have d:∀c,o.op≠.defer c:=λc e=>by rw[e]at hx;cases hx
 rcases g a w s.slots s.hp with⟨v,j,Es',h',hr,hp,hG⟩|⟨j,Es',h',hr,hp,hG⟩|⟨f,args,m,hr,hc⟩|⟨r,f,tmps,assign,body,m,n,hr,hc⟩
 · exact aJ i hw d hr (hG _ _ (s.put b v hp))
 · exact Aat i hw d hr (hG _ _ (s.put b undef hp))
 · exact Ade i hw d hr hc λv w2 ⟨Es',h',hp,hG⟩=>hG _ _ (s.put b v hp)
 · exact Adf i hw d hr hc λv w2 ⟨Es',h',hp,hG⟩=>hG _ _ (s.put b v hp)
def WH {o:Oper}(hg:Fe ops l o.guard=some true)(p:GI C.N o.dst=true)(hx:LD o.op=false)
  (g:Cd C l Es h o λv Es' h'=>Bz C ds (MA o.dst v l) Es' h' ops os K):Bz C ds l Es h ops (o::os) K:=by
 intro k m
 have h0:ops[k]?=some o:=by simpa using(m 0).symm
 have c:∀j,os[j]?=ops[k+1+j]?:=λj=>by have:=m (j+1);simpa[Md,wR 1 j]using this
 rw[Do,List.range'_succ]
 refine Als h0 hg p hx λa w hs hp=>?_
 rcases g a w hs hp with⟨v,e,Es',h',hr,b,hG⟩|⟨e,Es',h',hr,b,hG⟩|⟨f,args,i,hr,hc⟩|⟨r,f,tmps,assign,body,i,n,hr,hc⟩
 · exact .inl ⟨v,e,Es',h',hr,b,hG _ c⟩
 · exact .inr (.inl ⟨e,Es',h',hr,b,hG _ c⟩)
 · exact .inr (.inr (.inl ⟨f,args,i,hr,hc.mono λ_ _ ⟨v,d,Es',h',b,hG⟩=>⟨v,d,Es',h',b,hG _ c⟩⟩))
 · exact .inr (.inr (.inr ⟨r,f,tmps,assign,body,i,n,hr,hc.mono λ_ _ ⟨v,d,Es',h',b,hG⟩=>⟨v,d,Es',h',b,hG _ c⟩⟩))
def Ya {d:Tmp}{b:Op}{ty:TypeId}{pos:String}{aft:Cw}{gd:Cq}(hg:Fe ops l gd=some false)(e:GI C.N (some d)=true)(g:Bz C ds ((d,undef)::l) Es h ops os K):Bz C ds l Es h ops (⟨some d,b,ty,pos,aft,gd⟩::os) K:=by intro k c;(have h0:ops[k]?=some ⟨some d,b,ty,pos,aft,gd⟩:=by simpa using(c 0).symm);(have f:∀j,os[j]?=ops[k+1+j]?:=λj=>by have:=c (j+1);simpa[Md,wR 1 j]using this);rw[Do,List.range'_succ];exactλa w s=>nP h0 (Um (o:=⟨some d,b,ty,pos,aft,gd⟩) s.slots hg) (g _ f _ _ (s.put e undef s.hp))
theorem gZ {o:Oper}{d:Nat}{b c:Bool}(hg:Om ops o.guard=some (d,b))(hc:CN d l=some (.bool c))(f:c=true→Bz C ds ((d,.bool true)::l) Es h ops (o::os) K)
  (hf:c=false→Bz C ds ((d,.bool false)::l) Es h ops (o::os) K):Bz C ds l Es h ops (o::os) K:=by
 have key:∀q:Bool,c=q→∀i v,CN i ((d,.bool q)::l)=some v→CN i l=some v:=by
  rintro q rfl i v e
  by_cases hi:i=d
  · subst hi;rw[UN]at e;rw[hc];exact e
  · rwa [UF hi]at e
 intro k a
 cases hq:c with
 |true=>exact(f hq k a).sub (key true hq)
 |false=>exact(hf hq k a).sub (key false hq)
def Awq {o:Oper}{v:Value}{G:Value→Am→U→Prop}(hv:Kg C.ts l o.op=some v)(g:G v Es h):Cd C l Es h o G:=
 λa w hs hp=>.inl ⟨v,w,Es,h,Zj C.ok hs hv w,hp,g⟩
def gI {ts:ER}{a:Op}{v:Value}(h:Kg ts l a=some v):LD a=false:=by cases a<;>first|rfl|cases h
def NJ {d:Tmp}{a:Op}{ty:TypeId}{pos:String}{aft:Cw}{gd:Cq}{v:Value}(hv:Kg C.ts l a=some v)(hg:Fe ops l gd=some true)(b:GI C.N (some d)=true)(g:Bz C ds ((d,v)::l) Es h ops os K) :
 Bz C ds l Es h ops (⟨some d,a,ty,pos,aft,gd⟩::os) K:=WH (o:=⟨some d,a,ty,pos,aft,gd⟩) hg b (gI hv) (Awq (o:=⟨some d,a,ty,pos,aft,gd⟩) hv g)
def UV {C:Bu}{a:BinOp}{t ty':TypeId}{x y:Operand}{k:IntKind}{p q:Int}{v:Value}{d:Tmp}{ty:TypeId}{pos:String}{aft:Cw}{gd:Cq}{T:Ay}
  (hT:AM t C.ts=some T) (hx:AJ l x=some (.int k p)) (hy:AJ l y=some (.int k q)) (hv:JK T.desc a (.int k p) (.int k q)=some v)
  (hg:Fe ops l gd=some true) (b:GI C.N (some d)=true) (g:Bz C ds ((d,v)::l) Es h ops os K):Bz C ds l Es h ops (⟨some d,.binOp a t x y ty',ty,pos,aft,gd⟩::os) K:=
 NJ (by simp only[Kg,hT,hx,hy];exact hv) hg b g
def YB {C:Bu}{t ty':TypeId}{x y:Operand}{p q:Int}{d:Tmp}{ty:TypeId}{pos:String}{aft:Cw}{gd:Cq}{T:Ay}
  (hT:AM t C.ts=some T) (hx:AJ l x=some (O p)) (hy:AJ l y=some (O q)) (a : -9223372036854775808≤p+q∧p+q≤9223372036854775807)
  (hg:Fe ops l gd=some true) (b:GI C.N (some d)=true) (g:Bz C ds ((d,(O (p+q)))::l) Es h ops os K):Bz C ds l Es h ops (⟨some d,.binOp .add t x y ty',ty,pos,aft,gd⟩::os) K:=
 UV hT hx hy (by simp[JK,NO _ a]) hg b g
def YC {C:Bu}{t ty':TypeId}{x y:Operand}{p q:Int}{d:Tmp}{ty:TypeId}{pos:String}{aft:Cw}{gd:Cq}{T:Ay}
  (hT:AM t C.ts=some T) (hx:AJ l x=some (O p)) (hy:AJ l y=some (O q)) (a : -9223372036854775808≤p-q∧p-q≤9223372036854775807)
  (hg:Fe ops l gd=some true) (b:GI C.N (some d)=true) (g:Bz C ds ((d,(O (p-q)))::l) Es h ops os K):Bz C ds l Es h ops (⟨some d,.binOp .sub t x y ty',ty,pos,aft,gd⟩::os) K:=
 UV hT hx hy (by simp[JK,NO _ a]) hg b g
def Nv (h:U) (a:Addr):Option Value:=
 match h a.block with
 |some (.cells c _ _)=>if a.spot.isSome then none else c[a.off]?
 |_=>none
def Ps (w:World)(a:Addr):w.cell? a=Nv (mem w) a:=rfl
def Ph {h h':U}(c:V h h'){a:Addr}{v:Value}(e:Nv h a=some v):Nv h' a=some v:=by unfold Nv at e ⊢;cases b:h a.block with|none=>(rw[b]at e;cases e)|some o=>rw[b]at e;rw[c _ _ b];exact e
def Au (h:U) (a:Addr) (vs:Ao):Prop:=∀j v,vs[j]?=some v→Nv h (a.add j)=some v
def Au.le {h h':U}(b:V h h'){a:Addr}{vs:Ao}(c:Au h a vs):Au h' a vs:=λj v e=>Ph b (c j v e)
def Yq (C:Bu) (Es:Am) (h:U) (T:TypeId) (a:Addr) (v:Value):Prop:=∀w,Bq C.w0 C.X0 C.h0 Es h w→(loadVar T a).run C.P w=.ok v w
theorem Aza {C:Bu}{T:TypeId}{t:Ay}{a:Addr}{vs:Ao}{v:Value}(hT:AM T C.ts=some t)(hv:EC 0 t.size t.agg vs=some v)
  (hc:∀w,Bq C.w0 C.X0 C.h0 Es h w→∀j u,vs[j]?=some u→w.cell? (a.add j)=some u):Yq C Es h T a v:=by
 intro w hp
 have c:=hc w hp
 simp only[loadVar,BK,C.ok.run_agg hT,B',RA]
 unfold EC at hv
 cases b:t.agg with
 |true=>
   rw[b]at hv
   simp only at hv
   split at hv
   · rename_i us d
     injection hv with hv;subst hv
     obtain⟨h1,h2⟩:=WK d
     simp only[J']at h1
     have f:us.length=t.size:=by rw[h1];simp;omega
     have:=run_loadCells_list (P:=C.P) w a us (λj u hj=>c j u (by rw[h1]at hj;rw[FF]at hj;split at hj;exact hj;cases hj))
     simp only[if_true,BK,C.ok.run_size hT,B']
     rw[←f,this];rfl
   · cases hv
 |false=>
   rw[b]at hv
   simp only at hv
   have h1:=c 0 v (UI hv)
   have e:a.add 0=a:=by simp[Addr.add]
   rw[e]at h1
   simp[h1]
def GC (b off j:Nat):(⟨b,off,none⟩:Addr).add j=⟨b,off+j,none⟩:=by unfold Addr.add;split<;>simp_all
def Aru {off n:Nat}{cs vs:Ao}(hc:cut off n cs=some vs):cut 0 n (cs.drop off)=some vs:=by induction off generalizing cs with|zero=>simpa using hc|succ o a=>cases cs with|nil=>(cases hc)|cons x r=>simpa using a (by simpa[cut]using hc)
def Amc {off:Nat}{cs:Ao}{v:Value}(hc:MC off cs=some v):MC 0 (cs.drop off)=some v:=by induction off generalizing cs with|zero=>simpa using hc|succ o a=>cases cs with|nil=>(cases hc)|cons x r=>simpa using a (by simpa[MC]using hc)
def bN {off n:Nat}{agg:Bool}{cs:Ao}{v:Value}(hv:EC off n agg cs=some v):EC 0 n agg (cs.drop off)=some v:=by unfold EC at hv ⊢;cases agg with|true=>simp only at hv ⊢;split at hv;{rename_i vs hc;rw[Aru hc];exact hv};{cases hv}|false=>exact Amc hv
def JS {C:Bu}{T e:TypeId}{t:Ay}{b off:Nat}{cs:Ao}{v:Value}(hT:AM T C.ts=some t)(hm:Ap b e cs∈Es)(hv:EC off t.size t.agg cs=some v):Yq C Es h T ⟨b,off,none⟩ v:=
 Aza hT (bN hv) λw hp j u hj=>by
  have a:=hp.blk hm
  rw[GC]
  simp only[World.cell?,a]
  rw[Nd]at hj
  simpa using hj
def VT {C:Bu}{t:TypeId}{x:Operand}{b:Addr}{v:Value}{d:Tmp}{ty:TypeId}{pos:String}{aft:Cw}{gd:Cq}
  (hx:AJ l x=some (.pointer (some b))) (hv:Yq C Es h t b v)
  (hg:Fe ops l gd=some true) (c:GI C.N (some d)=true) (g:Bz C ds ((d,v)::l) Es h ops os K):Bz C ds l Es h ops (⟨some d,.load t x,ty,pos,aft,gd⟩::os) K:=
 WH (o:=⟨some d,.load t x,ty,pos,aft,gd⟩) hg c rfl λa w hs hp=>.inl ⟨v,w,Es,h,by simp only[execOp,hs.eval hx,Instr.loadAt,Instr.sureAddr,BK,CV,B',hv w hp],hp,g⟩
def Ly:Ao→Bool
 |[]=>true
 |v::r=>bif v.oneCell' then Ly r else false
theorem En:∀{vs:Ao},Ly vs=true→∀v∈vs,v.oneCell'=true
 |[],_,_,hm=>by cases hm
 |v::r,h,u,hm=>by simp only[Ly]at h;cases hv:v.oneCell' with|false=>(rw[hv]at h;cases h)|true=>rw[hv]at h;rcases Bx.1 hm with rfl|hm;{exact hv};{exact En h u hm}
end ops
section ops
variable {C:Bu} {ds:CL} {l:AW} {Es:Am} {h:U} {K:CB} {ops:Dm} {os:Hc}
 {d:Tmp} {ty:TypeId} {pos:String} {aft:Cw} {gd:Cq}
def gW (b:Nat)(T:TypeId)(cs:Ao):∀m:U,m b=some (.cells cs.toArray T (0,0))→(Ap b T cs).holds [b] m:=λm e=>⟨rfl,e⟩
theorem vM (z:Ao):∀(n i:Nat),(List.replicate n z).flatten[i]?=if i<n*z.length then z[i%z.length]? else none
 |0,i=>by simp
 |n+1,i=>by rw[List.replicate_succ,Gk];by_cases h1:i<z.length;{rw[GK h1,if_pos (by rw[Na];omega),X' h1]};{rw[JZ J,vM z n];have e:(i-z.length)%z.length=i%z.length:=(Nat.mod_eq_sub_mod J).symm;rw[e];by_cases h2:i<(n+1)*z.length;{rw[if_pos h2,if_pos (by rw[Na]at h2;omega)]};{rw[if_neg h2,if_neg (by rw[Na]at h2;omega)]}}
def wC (z:Ao)(n:Nat)(b:z≠[]):((Array.range (n*z.length)).map λi=>z.toArray[i%z.toArray.size]!)=((List.replicate n z).flatten).toArray:=by have a:0<z.length:=xH.2 b;apply hZ;intro i;have h1:=vM z n i;simp only[eK]at h1 ⊢;rw[h1];by_cases h2:i<n*z.length;{rw[if_pos h2,OC (by simpa using h2)];have h3:i%z.length<z.length:=Nat.mod_lt _ a;simp[h3]};{rw[if_neg h2,Ad3 (by simpa using h2)]}
def repl (z:Ao):Nat→Ao
 |0=>[]
 |n+1=>z++repl z n
theorem Vf (z:Ao):∀n,repl z n=(List.replicate n z).flatten
 |0=>rfl
 |n+1=>by rw[repl,List.replicate_succ,Gk,Vf z n]
def Awu {o:Oper}{f:FuncId}{args:Ao}{Es0 Fs:Am}{Post:Value→Am→U→Prop}{G:Value→Am→U→Prop}
  (r:∀a w,Hl l a→(execOp a.eval o).run C.P w=.ok (.enter f args.toArray) w) (m:Es=Es0++Fs) (hf:AP C.P f args.toArray Es0 h Post)
  (g:∀v Es' h',V h h'→Post v Es' h'→G v (Es'++Fs) h'):Cd C l Es h o G:=λa w hs hp=>by
 subst m
 refine .inr (.inr (.inl ⟨f,args.toArray,w,r a w hs,?_⟩))
 obtain⟨s,p,hn,d⟩:=hp.own
 obtain⟨c,k,rfl,j,q⟩:=p.split
 have hb1:∀b∈c.flatten,b∈(c++k).flatten:=λb h1=>by rw[Ib,AO];exact .inl h1
 refine(hf w c.flatten hp.ro ⟨c,j,?_,λb h1=>⟨(d b (hb1 b h1)).1,h1,(d b (hb1 b h1)).2.2⟩⟩).mono ?_
 · rw[Ib,Fm]at hn;exact hn.1
 · rintro e w2 ⟨v,rfl,Es',h',n,i⟩
   exact⟨v,rfl,Es'++Fs,h',hp.call j q hn d i,g v Es' h' i.le n⟩
def nH {P:Program}{f:FuncId}{fn:Func}{args:Dx}(hf:P.funcs[f]?=some fn)(a:fn.body.isNone=false)(b:(fn.name== "runtime.NumGoroutine")=false)(w:World) :
  (callFunc f args).run P w=.ok (.enter f args) w:=by
 simp only[callFunc,BK,run_program,B',hf,b,a,Ir,if_false,CV]
def BP (P:Program) (f:FuncId):Prop:=∃fn,P.funcs[f]?=some fn∧fn.body.isNone=false∧(fn.name== "runtime.NumGoroutine")=false
def HT (P:Program) (fn:Func) (w0:World) (X0:BD) (h0:U) (Post:Value→Am→U→Prop):Exit→Act→World→Prop:=
 bodyPostM Fence.wide 0 P fn λe a=>∃v,e=.returned v∧∃Es h,Post v Es h∧Bq w0 X0 h0 Es h a
def NR (C:Bu) (l:AW) (Es:Am) (h:U):List ResultVar→Ao→Prop
 |[],[]=>True
 | .tmp t::r,v::vs=>CN t l=some v∧NR C l Es h r vs
 | .cell a T::r,v::vs=>(∃b,CN a l=some (.pointer (some b))∧Yq C Es h T b v)∧NR C l Es h r vs
 |_,_=>False
def SF:Ao→Value
 |[v]=>v
 |vs=>.tuple vs.toArray
def SE (tmps:Dx):ResultVar→Sem Value
 | .tmp t=>pure (tmps.getD t undef)
 | .cell c t=>do loadVar t (←asAddr (tmps.getD c undef))
theorem dQ {a:Act}{w:World}(hs:Hl l a)(hp:Bq C.w0 C.X0 C.h0 Es h w):∀{rs:List ResultVar} {vs:Ao},NR C l Es h rs vs→
  (rs.mapM (SE a.tmps):Sem (Ao)).run C.P w=.ok vs w
 |[],[],_=>rfl
 | .tmp t::r,v::vs,⟨h1,h2⟩=>by
   have e:a.tmps.getD t undef=v:=hs.eval (x:=.tmp t) h1
   simp only[xG,SE,BK,CV,B',e,dQ hs hp h2]
 | .cell c T::r,v::vs,⟨⟨b,h1,f⟩,h2⟩=>by
   have e:a.tmps.getD c undef=.pointer (some b):=hs.eval (x:=.tmp c) h1
   have h3:=dQ hs hp h2
   have d:=f w hp
   simp only[xG,SE,e,asAddr,BK,CV,B',d,h3]
 |[],_::_,h=>h.elim
 | .tmp _::_,[],h=>h.elim
 | .cell _ _::_,[],h=>h.elim
def Awg (fn:Func)(tmps:Dx):results fn tmps=(do
  let vs ←fn.results.mapM (SE tmps)
  pure (if h:vs.size=1 then vs[0]else .tuple vs):Sem Value):=by
 have:(λx=>match x with|ResultVar.tmp t=>pure (tmps.getD t undef)|.cell a t=>do loadVar t (←asAddr (tmps.getD a undef)):ResultVar→Sem Value)=SE tmps:=by
  funext x;cases x<;>rfl
 rw[←this]
 rfl
theorem WC {fn:Func}{a:Act}{w:World}{rs:List ResultVar}{vs:Ao}(hr:fn.results=rs.toArray)(hs:Hl l a)(hp:Bq C.w0 C.X0 C.h0 Es h w)(hv:NR C l Es h rs vs) :
  (results fn a.tmps).run C.P w=.ok (SF vs) w:=by
 have:=dQ hs hp hv
 have h2:(fn.results.mapM (SE a.tmps):Sem (Dx)).run C.P w=.ok vs.toArray w:=by
  rw[hr,List.mapM_toArray]
  simp only[Sem.run_map,this,B']
 rw[Awg]
 simp only[BK,h2,B',CV]
 match vs with
 |[]=>rfl
 |[v]=>rfl
 |v::u::r=>rfl
def FK {fn:Func}{Post:Value→Am→U→Prop}{rs:List ResultVar}{vs:Ao}(c:C.Q=HT C.P fn C.w0 C.X0 C.h0 Post)(hr:fn.results=rs.toArray)(hv:NR C l Es h rs vs)(b:Post (SF vs) Es h) :
  AI C [] l Es h []:=λa w s=>vY (by
 rw[c]
 show LeavesInM _ _ _ _ _ _ a.defers _ _
 rw[s.defers]
 exact⟨_,WC hr s.slots s.hp hv,_,rfl,Es,h,b,s.hp⟩)
end ops
def NH:Nat→Ao→AW
 |_,[]=>[]
 |k,v::r=>(k,v)::NH (k+1) r
theorem xX:∀{vs:Ao} {k i:Nat} {v:Value},CN i (NH k vs)=some v→k≤i∧vs[i-k]?=some v
 |[],_,_,_,h=>by cases h
 |u::r,k,i,v,h=>by simp only[NH,CN]at h;cases a:Nat.beq i k with|true=>rw[a]at h;simp only[cond_true,Eh]at h;have:=Mc a;subst this;subst h;simp|false=>rw[a]at h;obtain⟨h1,h2⟩:=xX (k:=k+1) h;refine⟨J,?_⟩;rw[show i-k=(i-(k+1))+1 by omega];simpa using h2
def PO (P:Program) (ts:ER) (ok:FZ P ts) (fn:Func) (w0:World) (X0:BD) (h0:U) (Post:Value→Am→U→Prop):Bu:=
 {P,ts,ok,ro:=none,N:=fn.ntmps,w0,X0,h0,Q:=HT P fn w0 X0 h0 Post}
def fA {P:Program}{ts:ER}(ok:FZ P ts){f:FuncId}{fn:Func}{c:Code}{args:Ao}{Es0:Am}{h0:U}{Post:Value→Am→U→Prop}
  (hf:P.funcs[f]?=some fn) (a:fn.body=some c) (hn:Nat.ble args.length fn.ntmps=true)
  (g:∀w0 X0,AI (PO P ts ok fn w0 X0 h0 Post) [] (NH 0 args) Es0 h0 [.code c]):AP P f args.toArray Es0 h0 Post:=by
 intro w X0 j ⟨h,l,k,d⟩
 refine A0e hf a (g w X0 _ w ⟨?_,rfl,?_,?_⟩)
 · have:=Oe hn
   simp[PO];omega
 · intro i v e
   obtain⟨_,h2⟩:=xX e
   have hi:i<args.length:=(Kx.1 h2).1
   simp only[JM]at h2
   rw[Rb (by simpa using hi)]
   simpa using h2
 · exact⟨rfl,rfl,rfl,BU _,BU _,λ_ _ _=>rfl,j,V.refl _,λi o e=>.inl e,h,l,k,λb a=>⟨(d b a).1,.inr (d b a).2.1,(d b a).2.2⟩⟩
def Pd {C:Bu}{ds:CL}{l:AW}{Es:Am}{h:U}{K:CB}{c:Code}{X:Type}(I:X→Prop)(d:X→Nat)(S:X→AW)(b:X→Am)(H:X→U)(a:X)
  (hi:I a) (hs:Qx (S a) l) (e:b a=Es) (f:H a=h)
  (round:∀x,I x→(∀y,I y→d y<d x→AI C ds (S y) (b y) (H y) (.inLoop c::K))→AI C ds (S x) (b x) (H x) (.code c::.inLoop c::K)) :
  AI C ds l Es h (.code (.loop c)::K):=by
 have key:∀n x,d x=n→I x→AI C ds (S x) (b x) (H x) (.code c::.inLoop c::K):=by
  intro n
  induction n using Nat.strongRecOn with
  |_ n j=>
    intro x hx g
    exact round x g λy hy i=>Wg (j (d y) (hx▸i) y rfl hy)
 subst e;subst f
 exact UU (Jz hs (key _ a rfl hi))
section
variable {C:Bu} {ds:CL} {l:AW} {Es:Am} {h:U} {K:CB}
variable {ops:Dm} {os:Hc} {o:Oper} {d:Nat} {b:Bool}
end
def RB (ops:Dm) (is:BD):Prop:=
 is.Nodup∧(∀i∈is,i<ops.size)∧∀p i q,is=p++i::q→∀o,ops[i]?=some o→∀e∈o.after.toList,Region.binds .any e=true→e.on∉i::q
def RB.tail {ops:Dm}{i:Nat}{is:BD}(h:RB ops (i::is)):RB ops is:=
 ⟨(Kv.1 h.1).2,λj hj=>h.2.1 j (.tail _ hj),λp j q e o a=>h.2.2 (i::p) j q (by rw[e];rfl) o a⟩
def Atz {m:Region.Mode}{e:Edge}(h:Region.binds .any e=true):Region.binds m e=true:=by unfold Region.binds at *;cases hg:e.ground<;>simp_all
def dB (m:Region.Mode) (ops:Dm) (L:BD):Prop:=
 (∀i,i<ops.size→i∈L)∧(∀i∈L,i<ops.size)∧∀p i q,L=p++i::q→∀o,ops[i]?=some o→∀e∈o.after.toList,Region.binds m e=true→e.on∈p
theorem nR (S:Nat→Bool):∀(L:BD),(∃i∈L,S i=false)→∃p i q,L=p++i::q∧S i=false∧∀j∈p,S j=true
 |[],⟨_,h,_⟩=>by cases h
 |x::L,h=>by
  cases hx:S x with
  |false=>exact⟨[],x,L,rfl,hx,λ_ h=>by cases h⟩
  |true=>
   obtain⟨i,hi,hs⟩:=h
   have a:i∈L:=by
    rcases Bx.1 hi with rfl|h;{rw[hx]at hs;cases hs};{exact h}
   obtain⟨p,j,q,e,h1,h2⟩:=nR S L ⟨i,a,hs⟩
   exact⟨x::p,j,q,by rw[e];rfl,h1,λk b=>by
    rcases Bx.1 b with rfl|h;{exact hx}
    ·exact h2 k h⟩
theorem dA:∀{l1 l2:BD},l1.Nodup→(∀x∈l1,x∈l2)→l1.length≤l2.length
 |[],_,_,_=>by simp
 |x::t,l2,hn,hs=>by have hx:=hs x (.head _);have a:=Kv.1 hn;have:=dA (l1:=t) (l2:=l2.erase x) a.2 (λy hy=>(List.mem_erase_of_ne (λ(e:y=x)=>a.1 (by rw[←e];exact hy))).2 (hs y (.tail _ hy)));rw[List.length_erase_of_mem hx]at this;have h0:0<l2.length:=Ayx hx;simp;omega
def QV (a:Array Bool){i:Nat}(h:i<a.size)(d:Bool):a.getD i d=a[i]:=by simp[Array.getD,h]
theorem kD {m:Region.Mode}{ops:Dm}{L:BD}(hL:dB m ops L):∀(fuel t:Nat) (b:Array Bool) (a:BD),
  fuel+a.length=ops.size→b.size=ops.size→(∀i,i<ops.size→(b.getD i true=true↔i∈a))→(∀i∈a,i<ops.size)→a.Nodup→
  (∀p i q,a.reverse=p++i::q→∀o,ops[i]?=some o→∀e∈o.after.toList,Region.binds .any e=true→e.on∈p)→
  (Region.linearise.go m ops fuel t b a).Nodup∧(∀i,i<ops.size→i∈Region.linearise.go m ops fuel t b a)∧(∀i∈Region.linearise.go m ops fuel t b a,i<ops.size)∧
  ∀p i q,Region.linearise.go m ops fuel t b a=p++i::q→∀o,ops[i]?=some o→∀e∈o.after.toList,Region.binds .any e=true→e.on∈p
 |0,t,b,a,hf,w,f,v,hn,z=>by
   unfold Region.linearise.go
   refine⟨by unfold List.Nodup;rw[List.pairwise_reverse];exact hn.imp KX,λi hi=>?_,λi hi=>v i (by simpa using hi),z⟩
   have g:a.length=ops.size:=by omega
   rcases gV (i∈a)with h|h
   · simpa using h
   · have:=dA (l1:=i::a) (l2:=List.range ops.size) (Kv.2 ⟨h,hn⟩) (λj hj=>by
      rcases Bx.1 hj with rfl|hj
      · exact JY.2 hi
      · exact JY.2 (v j hj))
     simp at this;omega
 |fuel+1,t,b,a,hf,w,f,v,hn,z=>by
   unfold Region.linearise.go
   simp only
   generalize ae:(List.range ops.size).filter (λi=> !b.getD i true&&((ops[i]?).map (·.after.all λe=> !Region.binds m e||b.getD e.on false)).getD false)=rs
   have ag:rs≠[]:=by
    have am:∃i∈L,b.getD i true=false:=by
     rcases gV (∃i∈L,b.getD i true=false)with h|h
     · exact h
     · exfalso
       have af:∀i,i<ops.size→i∈a:=λi hi=>by
        refine(f i hi).1 ?_
        cases hq:b.getD i true with
        |true=>rfl
        |false=>exact absurd ⟨i,hL.1 i hi,hq⟩ h
       have:(List.range ops.size).length≤a.length:=dA List.nodup_range λi hi=>af i (JY.1 hi)
       simp at this;omega
    obtain⟨p,i,q,e,hi,hp⟩:=nR (λi=>b.getD i true) L am
    have d:i<ops.size:=by
     rcases KY i ops.size with h|h
     · exact h
     · have:b.getD i true=true:=by simp[Array.getD,w,Nat.not_lt.2 h]
       rw[this]at hi;cases hi
    have ak:i∈rs:=by
     rw[←ae,DQ]
     refine⟨JY.2 d,?_⟩
     have k:ops[i]?=some ops[i]:=OC d
     rw[hi,k]
     simp only[hE,Adn,Hg,IQ,A1c]
     intro c s
     cases n:Region.binds m c with
     |false=>rfl
     |true=>
       have ac:=hL.2.2 p i q e _ k c (by simpa using s) n
       have h1:=hp _ ac
       have ad:c.on<ops.size:=by
        rcases KY c.on ops.size with h|h
        · exact h
        · exact hL.2.1 _ (by rw[e];exact AO.2 (.inl ac))
       have:b.getD c.on false=true:=by
        rw[QV b J];rw[QV b J]at h1;exact h1
       simp[this]
    exact List.ne_nil_of_mem ak
   have g:0<rs.length:=xH.2 ag
   have ah:rs[t%rs.length]?=some (rs[t%rs.length]'(Nat.mod_lt _ g)):=Bw _
   rw[ah]
   simp only
   generalize hi:rs[t%rs.length]'(Nat.mod_lt _ g)=i
   have ab:i∈rs:=hi▸Po _
   rw[←ae,DQ]at ab
   obtain⟨ai,u⟩:=ab
   have d:=JY.1 ai
   have k:ops[i]?=some ops[i]:=OC d
   rw[k]at u
   simp only[Hg,IQ,Hq,IE,A1c,Q']at u
   have al:i∉a:=λh=>by have:=(f i d).2 h;rw[u.1]at this;cases this
   refine kD hL fuel (t / rs.length) (b.setIfInBounds i true) (i::a) FC (by simpa using w) (λj hj=>?_) (λj hj=>?_) (Kv.2 ⟨al,hn⟩) ?_
   · rw[QV _ FC,Bx]
     by_cases y:j=i
     · subst y;simp
     · have:=f j hj
       rw[QV _ J]at this
       rw[Array.getElem_setIfInBounds_ne J (KX y),this]
       simp[y]
   · rcases Bx.1 hj with rfl|h
     · exact d
     · exact v j h
   · intro p j q e o l c s n
     rw[wZ]at e
     rcases KY p.length a.reverse.length with aj|hge
     · have h1:a.reverse=p++(a.reverse.drop p.length):=by
        have:=congrArg (List.take p.length) e
        rw[wX J,Yf]at this
        conv=>lhs;rw[←GW p.length a.reverse,this]
       have h2:a.reverse.drop p.length++[i]=j::q:=by
        have:=congrArg (List.drop p.length) e
        rwa [Ay5 J,List.drop_left]at this
       cases aa:a.reverse.drop p.length with
       |nil=>
         rw[aa]at h1
         have:=congrArg List.length h1
         simp at this aj;omega
       |cons x r=>
         rw[aa]at h2 h1
         simp only[FW,Kb]at h2
         obtain⟨rfl,h2⟩:=h2
         exact z p x r h1 o l c s n
     · have g:=congrArg List.length e
       simp only[Bt,Do,Jw]at g
       have hq:q=[]:=Fu J
       subst hq
       have:=List.append_inj' e rfl
       obtain⟨h1,h2⟩:=this
       simp only[Kb,and_true]at h2
       subst h2
       rw[k]at l;injection l with l;subst l
       rcases u.2 c (by simpa using s)with h3|h3
       · rw[Atz n]at h3;cases h3
       · have ad:c.on<ops.size:=by
          rcases KY c.on ops.size with h|h
          · exact h
          · simp[Array.getD,w,Nat.not_lt.2 h]at h3
         rw[QV _ J]at h3
         have:=(f c.on ad).1 (by rw[QV _ J];exact h3)
         rw[←h1];simpa using this
def bM {m:Region.Mode}{ops:Dm}{L:BD}(hL:dB m ops L)(t:Nat):RB ops (Region.linearise m ops t)∧∀i,i<ops.size→i∈Region.linearise m ops t:=by have:=kD hL ops.size t (Array.replicate ops.size false) [] An An (λi hi=>by rw[QV _ (by simpa using hi)];simp) An Yg (λp i q e=>by simp at e);obtain⟨h1,h2,h3,b⟩:=this;refine⟨⟨h1,h3,λp i q e o g a d c f=>?_⟩,h2⟩;have hp:=b p i q e o g a d c;have hn:(p++i::q).Nodup:=e▸h1;rw[Fm]at hn;exact hn.2.2 _ hp _ f rfl
def jL (m:Region.Mode) (a:BD) (o:Oper):Bool:=o.after.toList.all λe=> !Region.binds m e||a.contains e.on
def Rd (m:Region.Mode) (ops:Dm):BD→BD→Bool
 |_,[]=>true
 |a,i::r=>(match ops[i]? with|some o=>jL m a o|none=>false)&&Rd m ops (i::a) r
theorem Wp {m:Region.Mode}{ops:Dm}:∀{L c:BD},Rd m ops c L=true→(∀i∈L,i<ops.size)∧∀p i q,L=p++i::q→∀o,ops[i]?=some o→∀e∈o.after.toList,Region.binds m e=true→e.on∈c∨e.on∈p
 |[],c,_=>⟨An,λp i q e=>by simp at e⟩
 |x::L,c,h=>by simp only[Rd,Hq]at h;obtain⟨h1,h2⟩:=h;obtain⟨h3,k⟩:=Wp h2;cases hx:ops[x]? with|none=>(rw[hx]at h1;cases h1)|some l=>rw[hx]at h1;refine⟨λi hi=>?_,λp i q e o b f j g=>?_⟩;{rcases Bx.1 hi with rfl|h;{exact(JE.1 hx).1};{exact h3 i h}};{cases p with|nil=>(simp only[FE,Kb]at e;obtain⟨rfl,_⟩:=e;rw[hx]at b;injection b with b;subst b;simp only[jL,Kz,Q',IE,Ay6]at h1;rcases h1 f j with a|a;{rw[g]at a;cases a};{exact .inl a})|cons y p=>simp only[FW,Kb]at e;obtain⟨rfl,e⟩:=e;rcases k p i q e o b f j g with a|a;{rcases Bx.1 a with d|d;{exact .inr (by rw[d];exact .head _)};{exact .inl d}};{exact .inr (.tail _ a)}}
def WL (ops:Dm) (a:BD):Bool:=
 Rd .any ops [] (List.range ops.size)&&Rd .text ops [] (List.range ops.size)&&Rd .gc ops [] a&&(List.range ops.size).all λi=>a.contains i
def Ax7 {ops:Dm}{c:BD}(h:WL ops c=true)(mixed:Bool)(t:Nat):RB ops (Region.schedule mixed ops t)∧∀i,i<ops.size→i∈Region.schedule mixed ops t:=by simp only[WL,Hq,Kz,JY,Ay6]at h;obtain⟨⟨⟨h1,h2⟩,h3⟩,f⟩:=h;have mk:∀{m L},Rd m ops [] L=true→(∀i,i<ops.size→i∈L)→dB m ops L:=λ{m L} b hc=>⟨hc,(Wp b).1,λp i q e o k d j g=>by rcases(Wp b).2 p i q e o k d j g with a|a;simp at a;exact a⟩;unfold Region.schedule;split;{exact bM (mk h1 λi hi=>JY.2 hi) t};{split;{exact bM (mk h2 λi hi=>JY.2 hi) _};{exact bM (mk h3 f) _}}
def Ah5:Operand→Option Nat|.tmp t=>some t|_=>none
def GX (ops:Dm) (o:Oper):List Nat:=
 (match Om ops o.guard with|some p=>[p.1]|none=>[])++o.op.operands.toList.filterMap Ah5
def Kk:BD→AW→AW
 |[],_=>[]
 |s::r,l=>match CN s l with|some v=>(s,v)::Kk r l|none=>Kk r l
theorem aC:∀{a:BD} {l:AW} {s:Nat} {v:Value},CN s (Kk a l)=some v→s∈a∧CN s l=some v
 |[],_,_,_,h=>by cases h
 |x::r,l,s,v,h=>by simp only[Kk]at h;split at h;{rename_i u b;by_cases hs:s=x;{subst hs;rw[UN]at h;exact⟨.head _,by rw[b];exact h⟩};{rw[UF hs]at h;obtain⟨h1,h2⟩:=aC h;exact⟨.tail _ h1,h2⟩}};{obtain⟨h1,h2⟩:=aC h;exact⟨.tail _ h1,h2⟩}
def HJ (o:Oper):BD:=o.after.toList.filterMap λe=>if Region.binds .any e then some e.on else none
def Aam {o:Oper}{p:Nat}:p∈HJ o↔∃e∈o.after.toList,Region.binds .any e=true∧e.on=p:=by unfold HJ;rw[xD];constructor;{rintro⟨e,b,h⟩;split at h;{rename_i a;injection h with h;exact⟨e,b,a,h⟩};{cases h}};{rintro⟨e,b,a,h⟩;exact⟨e,b,by rw[if_pos a,h]⟩}
structure YQ where
 i:Nat
 d:HR
 v:Value
 nd:Am
 pr:Bool
abbrev ES:=List YQ
def sl:ES→AW→AW
 |[],l0=>l0
 |⟨_,d,v,_,_⟩::r,l0=>MA d v (sl r l0)
def iX (x:YQ)(r:ES)(l0:AW):sl (x::r) l0=MA x.d x.v (sl r l0):=rfl
def R' (C:Bu) (ops:Dm) (l:AW) (nd:Am) (h:U) (o:Oper) (v:Value):Prop:=
 ∀a w,Hl l a→(∀A∈nd,∃D,A.holds D (mem w))→V h (mem w)→
  (Region.wanted o (yielded ops a.tmps)=true∧LD o.op=false∧(execOp a.eval o).run C.P w=.ok (.value v) w)∨(Region.wanted o (yielded ops a.tmps)=false∧v=undef)
def R'.le {C:Bu}{ops:Dm}{l:AW}{nd:Am}{h h':U}{o:Oper}{v:Value}(p:R' C ops l nd h o v)(b:V h h'):R' C ops l nd h' o v:=
 λa w hs hn hm=>p a w hs hn (b.trans hm)
def LU (C:Bu) (ops:Dm) (l0:AW) (h:U):ES→Prop
 |[]=>True
 |x::r=>LU C ops l0 h r∧(∀y∈r,y.i≠x.i)∧∃o,ops[x.i]?=some o∧o.dst=x.d∧(∀p∈HJ o,∃y∈r,y.i=p)∧
    (x.pr=true→R' C ops (Kk (GX ops o) (sl r l0)) x.nd h o x.v)
theorem LU.le {C:Bu}{ops:Dm}{l0:AW}{h h':U}(a:V h h'):∀{Vs:ES},LU C ops l0 h Vs→LU C ops l0 h' Vs
 |[],_=>trivial
 |x::r,⟨h1,h2,o,h3,b,c,d⟩=>⟨h1.le a,h2,o,h3,b,c,λe=>(d e).le a⟩
def Axr (ops:Dm):Prop:=
 ∀i j b a s,ops[i]?=some b→ops[j]?=some a→b.dst=some s→i≠j→a.dst≠some s∧(s∈GX ops a→i∈HJ a∨j∈HJ b)
structure nT (N:Nat) (ops:Dm):Prop where
 inn:∀(i:Nat) (o:Oper),ops[i]?=some o→∀p∈HJ o,p<ops.size
 names:Axr ops
 dst:∀(i:Nat) (o:Oper),ops[i]?=some o→GI N o.dst=true
structure Mn (C:Bu) (ds:CL) (l0:AW) (Vs:ES) (Es:Am) (h:U) (ops:Dm) (is:BD) (a:Act) (w:World):Prop where
 reg:nT C.N ops
 sched:RB ops is
 all:∀i,i<ops.size→(∃x∈Vs,x.i=i)∨i∈is
 closed:∀(i:Nat) (o:Oper),ops[i]?=some o→i∉is→∀p∈HJ o,p∉is
 wf:LU C ops l0 h Vs
 real:∀x∈Vs,x.pr=false→x.i∉is
 nd:∀x∈Vs,x.i∈is→∀A∈x.nd,A∈Es
 size:a.tmps.size=C.N
 defers:a.defers=ds
 hp:Bq C.w0 C.X0 C.h0 Es h w
 slots0:∀s v,CN s l0=some v→(∀(i:Nat) (o:Oper),ops[i]?=some o→o.dst=some s→i∈is)→a.tmps[s]?=some v
 slots1:∀x∈Vs,x.i∉is→∀s,x.d=some s→a.tmps[s]?=some x.v
def Mo (C:Bu) (ds:CL) (l0:AW) (Vs:ES) (Es:Am) (h:U) (ops:Dm) (K:CB):Prop:=
 ∀is a w,Mn C ds l0 Vs Es h ops is a w→Dp C.P C.ro (.inRegion ops is::K) C.Q a w
section
variable {C:Bu} {ds:CL} {l0:AW} {Vs:ES} {Es:Am} {h:U} {ops:Dm} {K:CB} {is:BD} {a:Act} {w:World}
theorem YJ {s:Nat}{v:Value}:∀{Vs:ES},CN s (sl Vs l0)=some v→(∃x∈Vs,x.d=some s∧x.v=v)∨(CN s l0=some v∧∀x∈Vs,x.d≠some s)
 |[],e=>.inr ⟨e,λ_ h=>by cases h⟩
 |x::r,e=>by simp only[iX,MA]at e;cases a:x.d with|none=>(rw[a]at e;rcases YJ e with⟨y,h1,h2⟩|⟨h1,h2⟩;{exact .inl ⟨y,.tail _ h1,h2⟩};{refine .inr ⟨h1,λy hy=>?_⟩;rcases Bx.1 hy with rfl|hy;{simp[a]};{exact h2 y hy}})|some d=>rw[a]at e;simp only at e;by_cases hs:s=d;{subst hs;rw[UN]at e;injection e with e;exact .inl ⟨x,.head _,a,e⟩};{rw[UF hs]at e;rcases YJ e with⟨y,h1,h2⟩|⟨h1,h2⟩;{exact .inl ⟨y,.tail _ h1,h2⟩};{refine .inr ⟨h1,λy hy=>?_⟩;rcases Bx.1 hy with rfl|hy;{simp[a,KX hs]};{exact h2 y hy}}}
theorem LU.get:∀{Vs:ES},LU C ops l0 h Vs→∀x∈Vs,∃r,(∀y∈r,y∈Vs)∧LU C ops l0 h r∧(∀y∈r,y.i≠x.i)∧∃o,ops[x.i]?=some o∧o.dst=x.d∧(∀p∈HJ o,∃y∈r,y.i=p)∧
  (x.pr=true→R' C ops (Kk (GX ops o) (sl r l0)) x.nd h o x.v)
 |z::r,⟨h1,h2,h3⟩,x,hx=>by
   rcases Bx.1 hx with rfl|hx
   · exact⟨r,λy hy=>.tail _ hy,h1,h2,h3⟩
   · obtain⟨c,a,b⟩:=h1.get x hx
     exact⟨c,λy hy=>.tail _ (a y hy),b⟩
def Mn.reads (g:Mn C ds l0 Vs Es h ops is a w){r:ES}(hr:∀y∈r,y∈Vs)(q:LU C ops l0 h r){i:Nat}{o:Oper}(n:ops[i]?=some o)(hi:i∈is)(ac:∀p∈HJ o,∃y∈r,y.i=p)(m:∀y∈r,y.i≠i)
  (ab:∀p∈HJ o,p∉is):Hl (Kk (GX ops o) (sl r l0)) a:=by
 intro s v e
 obtain⟨hs,e⟩:=aC e
 rcases YJ e with⟨y,hy,f,hv⟩|⟨x,aa⟩
 · obtain⟨al,ae,ak,aj,u,b,c,ad,_⟩:=q.get y hy
   have af:y.i≠i:=m y hy
   rw[←hv]
   refine g.slots1 y (hr y hy) ?_ s f
   rcases(g.reg.names y.i i u o s b n (c.trans f) af).2 hs with h1|h1
   · exact ab _ h1
   · obtain⟨z,ah,ai⟩:=ad i h1
     exact absurd ai (m z (ae z ah))
 · refine g.slots0 s v x λj t d k=>?_
   by_cases l:j=i
   · rw[l];exact hi
   · rcases(g.reg.names j i t o s d n k l).2 hs with h1|h1
     · obtain⟨y,hy,ag⟩:=ac j h1
       obtain⟨_,_,_,_,u,b,c,_⟩:=q.get y hy
       rw[ag,d]at b
       injection b with b
       subst b
       exact absurd (c.symm.trans k) (aa y hy)
     · rcases gV (j∈is)with h2|h2
       · exact h2
       · exact absurd hi (g.closed j t d h2 i h1)
def Mn.free {i:Nat}(g:Mn C ds l0 Vs Es h ops (i::is) a w){o:Oper}(d:ops[i]?=some o):∀p∈HJ o,p∉i::is:=λp hp=>by
 obtain⟨e,c,b,rfl⟩:=Aam.1 hp
 exact g.sched.2.2 [] i is rfl o d e c b
def Mn.put {i:Nat}(g:Mn C ds l0 Vs Es h ops (i::is) a w){o:Oper}(c:ops[i]?=some o){v:Value}{ag:World}{Es':Am}{h':U}{Vs':ES}(ar:V h h')
  (hp:Bq C.w0 C.X0 C.h0 Es' h' ag) (t:∀x∈Vs',x∈Vs∨(x.i=i∧x.d=o.dst∧x.v=v)) (an:∀x∈Vs,x∈Vs') (aj:∃x∈Vs',x.i=i∧x.d=o.dst∧x.v=v)
  (ao:LU C ops l0 h' Vs') (al:∀x∈Vs,x.i∈is→∀A∈x.nd,A∈Es') (am:∀x∈Vs,x.i=i→x.v=v) :
  Mn C ds l0 Vs' Es' h' ops is (a.put o.dst v) ag:=by
 have r:i∉is:=(Kv.1 g.sched.1).1
 have ad:∀s u,o.dst≠some s→a.tmps[s]?=some u→(a.put o.dst v).tmps[s]?=some u:=by
  intro s u q ae
  cases m:o.dst with
  |none=>simpa[Act.put]using ae
  |some d=>
    have:d≠s:=λe=>q (by rw[m,e])
    simp[Act.put,this,ae]
 have ab:∀s,o.dst=some s→(a.put o.dst v).tmps[s]?=some v:=by
  intro s hs
  have h1:=g.reg.dst i o c
  rw[hs]at h1 ⊢
  have ak:s<a.tmps.size:=by rw[g.size];exact of_decide_eq_true (by simpa[GI,Pf]using h1)
  simp[Act.put,ak]
 refine⟨g.reg,g.sched.tail,λj hj=>?_,λj y b hj p hp=>?_,ao,λx hx ap=>?_,λx hx k=>?_,?_,?_,hp,λs u hs z=>?_,λx hx k s hs=>?_⟩
 · rcases g.all j hj with⟨x,hx,aq⟩|hj
   · exact .inl ⟨x,an x hx,aq⟩
   · rcases Bx.1 hj with rfl|hj
     · obtain⟨x,hx,h1,_⟩:=aj
       exact .inl ⟨x,hx,h1⟩
     · exact .inr hj
 · intro ac
   by_cases aa:j=i
   · subst aa
     rw[c]at b;injection b with b;subst b
     exact g.free c p hp (.tail _ ac)
   · exact g.closed j y b (λh1=>(Bx.1 h1).elim aa hj) p hp (.tail _ ac)
 · rcases t x hx with h1|⟨h1,_⟩
   · exactλh2=>g.real x h1 ap (.tail _ h2)
   · rw[h1];exact r
 · rcases t x hx with h1|⟨h1,_⟩
   · exact al x h1 k
   · rw[h1]at k;exact absurd k r
 · have:=g.size;cases m:o.dst<;>simp[Act.put,this]
 · have:=g.defers;cases m:o.dst<;>simp[Act.put,this]
 · have q:o.dst≠some s:=λe=>r (z i o c e)
   exact ad s u q (g.slots0 s u hs λj y b ah=>.tail _ (z j y b ah))
 · rcases t x hx with h1|⟨h1,h2,h3⟩
   · by_cases l:x.i=i
     · obtain⟨_,_,_,_,af,f,n,_⟩:=g.wf.get x h1
       rw[l,c]at f;injection f with f;subst f
       rw[ab s (n.trans hs),am x h1 l]
     · refine ad s x.v (λai=>?_) (g.slots1 x h1 (λh2=>(Bx.1 h2).elim l k) s hs)
       obtain⟨_,_,_,_,af,f,n,_⟩:=g.wf.get x h1
       exact(g.reg.names i x.i o af s c f ai (KX l)).1 (n.trans hs)
   · rw[h3];exact ab s (h2.symm.trans hs)
def Mn.prom {i:Nat}(g:Mn C ds l0 Vs Es h ops (i::is) a w){x:YQ}(hx:x∈Vs)(n:x.i=i)
  (k:∀j,Mn C ds l0 Vs Es h ops is j w→Dp C.P C.ro (.inRegion ops is::K) C.Q j w):Dp C.P C.ro (.inRegion ops (i::is)::K) C.Q a w:=by
 obtain⟨r,hr,af,aa,o,b,t,ac,s⟩:=g.wf.get x hx
 have ad:x.pr=true:=by
  cases hp:x.pr with
  |true=>rfl
  |false=>exact absurd (by rw[n];exact .head _) (g.real x hx hp)
 subst n
 have hs:=g.reads hr af b (.head _) ac aa (g.free b)
 have u:∀A∈x.nd,∃D,A.holds D (mem w):=λA q=>g.hp.get (g.nd x hx (.head _) A q)
 have ab:∀y∈Vs,y.i=x.i→y.v=x.v:=by
  have key:∀{Vs:ES},LU C ops l0 h Vs→∀x∈Vs,∀y∈Vs,y.i=x.i→y.v=x.v:=by
   intro Vs
   induction Vs with
   |nil=>intro _ x hx;cases hx
   |cons z r ai=>
     intro⟨h1,h2,_⟩ x hx y hy e
     rcases Bx.1 hx with ag|m
     · subst ag
       rcases Bx.1 hy with f|d
       · rw[f]
       · exact absurd e (h2 y d)
     · rcases Bx.1 hy with f|d
       · subst f;exact absurd e.symm (h2 x m)
       · exact ai h1 x m y d e
  exactλy hy e=>key g.wf x hx y hy e
 have p:=λv (hv:x.v=v)=>g.put b (v:=v) (Vs':=Vs) (V.refl h) g.hp (λy hy=>.inl hy) (λy hy=>hy) ⟨x,hx,rfl,t.symm,hv⟩ g.wf (λy hy ah=>g.nd y hy (.tail _ ah)) (λy hy e=>(ab y hy e).trans hv)
 rcases s ad a w hs u g.hp.ro with⟨hw,l,ae⟩|⟨hw,hv⟩
 · exact aJ b hw (λc e=>by rw[e]at l;cases l) ae (k _ (p _ rfl))
 · exact nP b hw (k _ (p _ hv))
def HN (Vs:ES) (p:Nat):Bool:=Vs.any λx=>Nat.beq x.i p
def YP {p:Nat}(e:HN Vs p=true):∃y∈Vs,y.i=p:=by simp only[HN,Uy]at e;obtain⟨y,hy,e⟩:=e;exact⟨y,hy,Mc e⟩
def dZ {p:Nat}(e:HN Vs p=false):∀y∈Vs,y.i≠p:=by intro y hy a;(have:HN Vs p=true:=by simp only[HN,Uy];exact⟨y,hy,by rw[a];exact Uq p⟩);rw[this]at e;cases e
def ML (Vs:ES) (i:Nat) (o:Oper):Bool:=(HJ o).all (HN Vs)&& !HN Vs i
def Aba {i:Nat}{o:Oper}{v:Value}{nd:Am}(c:ops[i]?=some o)(hc:ML Vs i o=true)(k:∀A∈nd,A∈Es)(d:R' C ops (Kk (GX ops o) (sl Vs l0)) nd h o v)
  (g:Mo C ds l0 (⟨i,o.dst,v,nd,true⟩::Vs) Es h ops K):Mo C ds l0 Vs Es h ops K:=by
 simp only[ML,Hq,Kz,IE]at hc
 intro is a w s
 have f:i∈is:=by
  rcases s.all i (JE.1 c).1 with⟨x,hx,e⟩|h1
  · exact absurd e (dZ hc.2 x hx)
  · exact h1
 refine g is a w ⟨s.reg,s.sched,λj hj=>(s.all j hj).imp (λ⟨x,hx,e⟩=>⟨x,.tail _ hx,e⟩) id,s.closed,⟨s.wf,dZ hc.2,o,c,rfl,λp hp=>YP (hc.1 p hp),λ_=>d⟩,λx hx e=>?_,λx hx b=>?_,s.size,s.defers,s.hp,s.slots0,λx hx b=>?_⟩
 · rcases Bx.1 hx with rfl|hx
   · cases e
   · exact s.real x hx e
 · rcases Bx.1 hx with rfl|hx
   · exact k
   · exact s.nd x hx b
 · rcases Bx.1 hx with rfl|hx
   · exact absurd f b
   · exact s.slots1 x hx b
def VO (ops:Dm):Nat→BD→BD
 |0,a=>a
 |j+1,a=>VO ops j (bif a.contains j then(match ops[j]? with|some o=>HJ o++a|none=>a)else a)
def PR (ops:Dm) (i:Nat):BD:=VO ops (i+1) [i]
theorem mH (P:Nat→Prop)(b:∀(j:Nat) (o:Oper),ops[j]?=some o→P j→∀p∈HJ o,P p):∀(n:Nat) (a:BD),(∀p∈a,P p)→∀p∈VO ops n a,P p
 |0,_,h=>h
 |j+1,a,h=>by unfold VO;refine mH P b j _ ?_;cases hc:a.contains j with|false=>exact h|true=>simp only[cond_true];cases c:ops[j]? with|none=>exact h|some o=>intro p hp;rcases AO.1 hp with h1|h1;{exact b j o c (h j (by simpa using hc)) p h1};{exact h p h1}
def Ji (Es:Am):Am→Prop
 |[]=>True
 |A::r=>A∈Es∧Ji Es r
theorem Ji.ok {Es:Am}:∀{r:Am},Ji Es r→∀A∈r,A∈Es
 |_::_,⟨h1,h2⟩,A,a=>(Bx.1 a).elim (λe=>e▸h1) (λh=>h2.ok A h)
def LB (ps:BD) (Es:Am):ES→Prop
 |[]=>True
 |x::r=>(bif x.pr then(bif ps.contains x.i then True else Ji Es x.nd)else True)∧LB ps Es r
theorem LB.ok {ps:BD}{Es:Am}:∀{Vs:ES},LB ps Es Vs→∀x∈Vs,x.pr=true→x.i∉ps→∀A∈x.nd,A∈Es
 |x::r,⟨h1,h2⟩,y,hy,hp,hn=>by rcases Bx.1 hy with rfl|hy;{(have:ps.contains y.i=false:=by{cases hc:ps.contains y.i with|false=>rfl|true=>exact absurd (by simpa using hc) hn});rw[hp,this]at h1;exact h1.ok};{exact h2.ok y hy hp hn}
def WF (C:Bu) (ds:CL) (l0:AW) (Vs:ES) (Es:Am) (h:U) (ops:Dm) (K:CB) (i:Nat):Prop:=
 ∃o,ops[i]?=some o∧Fe ops (Kk (GX ops o) (sl Vs l0)) o.guard=some true∧LD o.op=false∧
  Cd C (Kk (GX ops o) (sl Vs l0)) Es h o λv Es' h'=>V h h'∧LB (PR ops i) Es' Vs∧Mo C ds l0 (⟨i,o.dst,v,[],false⟩::Vs) Es' h' ops K
def Pk (Vs:ES) (cs:BD) (ops:Dm):Bool:=
 (List.range ops.size).all λj=>HN Vs j||cs.contains j||(match ops[j]? with|some o=> !(HJ o).all (HN Vs)|none=>true)
theorem fB {cs:BD}(u:Pk Vs cs ops=true)(ak:∃i∈cs,i<ops.size∧HN Vs i=false)(hr:∀i∈cs,WF C ds l0 Vs Es h ops K i):Mo C ds l0 Vs Es h ops K:=by
 intro is;induction is with
 |nil=>
  intro a w s;obtain⟨i,_,hi,hn⟩:=ak;rcases s.all i hi with⟨x,hx,e⟩|h1;{exact absurd e (dZ hn x hx)};{cases h1}
 |cons i is al=>
  intro a w s;rcases gV (∃x∈Vs,x.i=i)with⟨x,hx,e⟩|ac;{exact s.prom hx e λaf s'=>al af w s'}
  ·have z:=s.sched.2.1 i (.head _);have b:ops[i]?=some ops[i]:=OC z;have m:=s.free b
   have q:∀p∈HJ ops[i],∃y∈Vs,y.i=p:=λp hp=>by
    rcases s.all p (s.reg.inn i _ b p hp)with h1|h1;{exact h1};{exact absurd h1 (m p hp)}
   have aj:i∈cs:=by
    simp only[Pk,Kz,JY,Q']at u;rcases u i z with(h1|h1)|h1;{exact absurd (YP h1) ac};{simpa using h1};{rw[b]at h1;simp only[IE]at h1;(have:(HJ ops[i]).all (HN Vs)=true:=by{rw[Kz];intro p hp;obtain⟨y,hy,e⟩:=q p hp;simp only[HN,Uy];exact⟨y,hy,by rw[e];exact Uq p⟩});rw[this]at h1;cases h1}
   obtain⟨o,d,hg,hx,ah⟩:=hr i aj;rw[b]at d;injection d with d;rw[d]at b m q;clear d;have t:∀y∈Vs,y.i≠i:=λy hy e=>ac ⟨y,hy,e⟩;have hs:=s.reads (λy hy=>hy) s.wf b (.head _) q t m;have hw:=Um hs hg;(have l:∀c,o.op≠.defer c:=λc e=>by rw[e]at hx;cases hx)
   have ai:∀p∈PR ops i,p∉is:=by
    refine mH (λp=>p∉is) (λj am g hj p hp ad=>?_) _ _ (λp hp=>?_);{by_cases aa:j=i;{subst aa;rw[b]at g;injection g with g;subst g;exact m p hp (.tail _ ad)};{exact s.closed j am g (λh1=>(Bx.1 h1).elim aa hj) p hp (.tail _ ad)}};{rw[Bk]at hp;rw[hp];exact(Kv.1 s.sched.1).1}
   have fin:∀v k Es' h',Bq C.w0 C.X0 C.h0 Es' h' k→(V h h'∧LB (PR ops i) Es' Vs∧Mo C ds l0 (⟨i,o.dst,v,[],false⟩::Vs) Es' h' ops K)→
    Dp C.P C.ro (.inRegion ops is::K) C.Q (a.put o.dst v) k:=by
    rintro v k Es' h' hp ⟨ab,ag,hG⟩
    refine hG is _ _ (s.put b (Vs':=⟨i,o.dst,v,[],false⟩::Vs) ab hp (λx hx=>?_) (λx hx=>.tail _ hx) ⟨_,.head _,rfl,rfl,rfl⟩ ⟨s.wf.le ab,t,o,b,rfl,q,λe=>by cases e⟩ (λx hx ae=>?_) (λx hx e=>absurd e (t x hx)))
    · rcases Bx.1 hx with rfl|hx
      · exact .inr ⟨rfl,rfl,rfl⟩
      · exact .inl hx
    · cases hp:x.pr with
      |true=>exact ag.ok x hx hp λh1=>ai _ h1 ae
      |false=>exact absurd (.tail _ ae) (s.real x hx hp)
   rcases ah a w hs s.hp with⟨v,k,Es',h',hr,hp,hG⟩|⟨k,Es',h',hr,hp,hG⟩|⟨f,args,an,hr,hc⟩|⟨r,f,tmps,assign,body,an,n,hr,hc⟩;{exact aJ b hw l hr (fin _ _ _ _ hp hG)};{exact Aat b hw l hr (fin _ _ _ _ hp hG)};{exact Ade b hw l hr hc λv w2 ⟨Es',h',hp,hG⟩=>fin _ _ _ _ hp hG};{exact Adf b hw l hr hc λv w2 ⟨Es',h',hp,hG⟩=>fin _ _ _ _ hp hG}
def A0q {o:Oper}(i:Nat)(a:(Pk Vs [i] ops&&Nat.blt i ops.size&& !HN Vs i)=true)(c:ops[i]?=some o)(hg:Fe ops (Kk (GX ops o) (sl Vs l0)) o.guard=some true)(hx:LD o.op=false)
  (b:Cd C (Kk (GX ops o) (sl Vs l0)) Es h o λv Es' h'=>V h h'∧LB (PR ops i) Es' Vs∧Mo C ds l0 (⟨i,o.dst,v,[],false⟩::Vs) Es' h' ops K):Mo C ds l0 Vs Es h ops K:=by
 simp only[Hq,IE,Pf]at a
 refine fB (cs:=[i]) a.1.1 ⟨i,.head _,a.1.2,a.2⟩ λj hj=>?_
 rw[Bk]at hj;subst hj
 exact⟨o,c,hg,hx,b⟩
def A0p (i j:Nat)(a:(Pk Vs [i,j] ops&&Nat.blt i ops.size&& !HN Vs i)=true)(hi:WF C ds l0 Vs Es h ops K i)(hj:WF C ds l0 Vs Es h ops K j):Mo C ds l0 Vs Es h ops K:=by simp only[Hq,IE,Pf]at a;refine fB (cs:=[i,j]) a.1.1 ⟨i,.head _,a.1.2,a.2⟩ λq hq=>?_;rcases Bx.1 hq with rfl|hq;{exact hi};{rw[Bk]at hq;subst hq;exact hj}
def A0r (b:((List.range ops.size).all (HN Vs))=true)(g:AI C ds (sl Vs l0) Es h K):Mo C ds l0 Vs Es h ops K:=by intro is;induction is with|nil=>(intro a w s;refine uN (g a w ⟨s.size,s.defers,λt v e=>?_,s.hp⟩);rcases YJ e with⟨y,hy,l,hv⟩|⟨k,o⟩;{rw[←hv];exact s.slots1 y hy An t l};{refine s.slots0 t v k λj r d m=>?_;simp only[Kz,JY]at b;obtain⟨y,hy,p⟩:=YP (b j (JE.1 d).1);obtain⟨_,_,_,_,u,c,n,_⟩:=s.wf.get y hy;rw[p,d]at c;injection c with c;subst c;exact absurd (n.symm.trans m) (o y hy)})|cons i is q=>intro a w s;simp only[Kz,JY]at b;obtain⟨x,hx,e⟩:=YP (b i (s.sched.2.1 i (.head _)));exact s.prom hx e λf s'=>q f w s'
def UH:HR→Nat→Bool|some d,s=>Nat.beq d s|none,_=>false
def PP (x:Nat):BD→Bool|[]=>false|y::r=>Nat.beq x y||PP x r
theorem YG {x:Nat}:∀{l:BD},PP x l=true↔x∈l
 |[]=>by simp[PP]
 |y::r=>by rw[PP,Q',YG,Bx];exact or_congr ⟨Mc,λe=>by rw[e];exact Uq y⟩ Yu
def Zo (ops:Dm):List (HR×BD×BD):=ops.toList.map λo=>(o.dst,GX ops o,HJ o)
def RG (i:Nat) (a:HR) (e b:BD):Nat→List (HR×BD×BD)→Bool
 |_,[]=>true
 |j,(c,f,d)::r=>(Nat.beq i j||(match a with
    |some s=>(!UH c s)&&(!PP s f||PP i d||PP j b)
    |none=>true))&&RG i a e b (j+1) r
def Tq (L:List (HR×BD×BD)):Nat→List (HR×BD×BD)→Bool
 |_,[]=>true
 |i,(a,c,b)::r=>RG i a c b 0 L&&Tq L (i+1) r
theorem Ad2 {i:Nat}{d:HR}{m g:BD}:∀{L:List (HR×BD×BD)} {k j:Nat} {a:HR} {c b:BD},RG i d m g k L=true→L[j]?=some (a,c,b)→i≠k+j→∀s,d=some s→a≠some s∧(s∈c→i∈b∨k+j∈g)
 |(l,r0,AS)::r,k,0,a,c,b,h,e,f,s,hs=>by simp only[QN,Eh,Mb]at e;obtain⟨rfl,rfl,rfl⟩:=e;simp only[RG,hs,Hq,Q',IE]at h;rcases h.1 with h1|⟨h1,h2⟩;{exact absurd (Mc h1) (by simpa using f)};{refine⟨λe=>?_,λhm=>?_⟩;{rw[e]at h1;simp[UH,Uq]at h1};{rcases h2 with(h2|h2)|h2;{rw[YG.2 hm]at h2;cases h2};{exact .inl (YG.1 h2)};{exact .inr (by simpa using YG.1 h2)}}}
 |(l,r0,AS)::r,k,j+1,a,c,b,h,e,f,s,hs=>by simp only[RG,Hq]at h;have:=Ad2 (k:=k+1) (j:=j) h.2 (by simpa using e) J s hs;rwa [show k+1+j=k+(j+1) by omega]at this
theorem Ad1 {L:List (HR×BD×BD)}:∀{d:List (HR×BD×BD)} {k i:Nat} {a:HR} {c b:BD},Tq L k d=true→d[i]?=some (a,c,b)→RG (k+i) a c b 0 L=true
 |(f,r0,AS)::r,k,0,a,c,b,h,e=>by simp only[QN,Eh,Mb]at e;obtain⟨rfl,rfl,rfl⟩:=e;simp only[Tq,Hq]at h;exact h.1
 |(f,r0,AS)::r,k,i+1,a,c,b,h,e=>by simp only[Tq,Hq]at h;have:=Ad1 (k:=k+1) (i:=i) h.2 (by simpa using e);rwa [show k+1+i=k+(i+1) by omega]at this
def lV (N:Nat) (ops:Dm):Bool:=ops.toList.all λo=>GI N o.dst
def Ri (N:Nat) (ops:Dm) (a:BD):Bool:=WL ops a&&Tq (Zo ops) 0 (Zo ops)&&lV N ops
def Akp {N:Nat}{g:BD}(a:Ri N ops g=true):nT N ops:=by simp only[Ri,Hq]at a;obtain⟨⟨h1,h2⟩,h3⟩:=a;refine⟨λi o b p hp=>?_,λi j v w s t u h r=>?_,λi o b=>?_⟩;{simp only[WL,Hq]at h1;have hi:i<ops.size:=(JE.1 b).1;obtain⟨e,l,a,rfl⟩:=Aam.1 hp;have m:i∈List.range ops.size:=JY.2 hi;obtain⟨p,q,f⟩:=eQ m;rcases(Wp h1.1.1.1).2 p i q f o b e l a with c|c;{simp at c};{exact JY.1 (by rw[f];exact AO.2 (.inl c))}};{(have hL:∀(k:Nat) (o:Oper),ops[k]?=some o→(Zo ops)[k]?=some (o.dst,GX ops o,HJ o):=λk o n=>by{show(ops.toList.map λo=>(o.dst,GX ops o,HJ o))[k]?=_;rw[FG,Lk,n];rfl});have d:=Ad1 h2 (hL i v t);simp only[Dy]at d;have:=Ad2 (k:=0) (j:=j) d (hL j w u) (by simpa using r) s h;simpa using this};{simp only[lV,Kz]at h3;exact h3 o (hX.2 (YU b))}
def A0l {n:Nat}{os:Hc}(d:BD)(b:Ri C.N os.toArray d=true)(g:Mo C ds l0 [] Es h os.toArray K):AI C ds l0 Es h (.code (.region n os.toArray true)::K):=by intro a w s;refine Ah3 λt=>?_;have k:=Akp b;simp only[Ri,Hq]at b;obtain⟨f,c⟩:=Ax7 b.1.1 (C.P.follows .mixedOrders) t;exact g _ a _ ⟨k,f,λi hi=>.inr (c i hi),λi o j hi p hp=>absurd (c i (JE.1 j).1) hi,trivial,λx hx=>(by cases hx),λx hx=>(by cases hx),s.size,s.defers,s.hp.drew,λt v e _=>s.slots t v e,λx hx=>(by cases hx)⟩
end
def Iz {α:Type}:Nat→List α→Option α
 |_,[]=>none
 |0,x::_=>some x
 |n+1,_::r=>Iz n r
theorem kC {α:Type}:∀{n:Nat} {l:List α} {x:α},Iz n l=some x→l[n]?=some x
 |0,_::_,_,h=>by simpa[Iz]using h
 |n+1,_::r,_,h=>by simpa using kC (n:=n) (l:=r) (by simpa[Iz]using h)
def JI:BD→AW→Option AW
 |[],_=>some []
 |s::r,l=>match JI r l with
   |some t=>match CN s l with
     |some v=>some ((s,v)::t)
     |none=>some t
   |none=>none
theorem Pj:∀{b:BD} {l l':AW},JI b l=some l'→Kk b l=l'
 |[],_,_,h=>by injection h
 |s::r,l,l',h=>by simp only[JI]at h;cases hr:JI r l with|none=>(rw[hr]at h;cases h)|some t=>rw[hr]at h;have a:=Pj hr;simp only[Kk];cases hv:CN s l with|none=>rw[hv]at h;simp only[Eh]at h;rw[a,←h]|some v=>rw[hv]at h;simp only[Eh]at h;rw[←h,a]
def SP:ES→AW→Option AW
 |[],l0=>some l0
 |⟨_,d,v,_,_⟩::r,l0=>match SP r l0 with
   |some t=>match d with
     |some d=>some ((d,v)::t)
     |none=>some t
   |none=>none
theorem iY:∀{Vs:ES} {l0 l:AW},SP Vs l0=some l→sl Vs l0=l
 |[],_,_,h=>by injection h
 |⟨_,d,v,_,_⟩::r,l0,l,h=>by simp only[SP]at h;cases hr:SP r l0 with|none=>(rw[hr]at h;cases h)|some t=>rw[hr]at h;have a:=iY hr;cases d with|none=>simp only[Eh]at h;rw[←h,←a];rfl|some d=>simp only[Eh]at h;rw[←h,←a];rfl
def BV (_:IG) (C:Bu) (ds:CL) (l0:AW) (Vs:ES) (Es:Am) (h:U) (ops:Dm) (K:CB):Prop:=Mo C ds l0 Vs Es h ops K
def jU:ES→Bool
 |[]=>true
 |⟨_,_,_,[],_⟩::r=>jU r
 |_::_=>false
theorem wP {ps:BD}{Es:Am}:∀{Vs:ES},jU Vs=true→LB ps Es Vs
 |[],_=>trivial
 |⟨i,d,v,[],p⟩::r,h=>⟨by cases p<;>simp[Ji],wP (Vs:=r) h⟩
def Vr (ps:BD):ES→Am
 |[]=>[]
 |⟨i,_,_,nd,p⟩::r=>bif p&& !ps.contains i then nd++Vr ps r else Vr ps r
theorem Sw {Es:Am}:∀{a b:Am},Ji Es (a++b)→Ji Es a∧Ji Es b
 |[],_,h=>⟨trivial,h⟩
 |_::r,b,⟨h1,h2⟩=>⟨⟨h1,(Sw h2).1⟩,(Sw h2).2⟩
theorem Wh {ps:BD}{Es:Am}:∀{Vs:ES},Ji Es (Vr ps Vs)→LB ps Es Vs
 |[],_=>trivial
 |⟨i,d,v,nd,p⟩::r,h=>by unfold Vr at h;cases p with|false=>exact⟨trivial,Wh h⟩|true=>cases hc:ps.contains i with|true=>rw[hc]at h;exact⟨by show(bif ps.contains i then True else Ji Es nd);rw[hc];trivial,Wh h⟩|false=>rw[hc]at h;simp only[hE,Bool.and_self,cond_true]at h;exact⟨by simp only[hc,cond_false,cond_true];exact(Sw h).1,Wh (Sw h).2⟩
def ZI:ES→Am
 |[]=>[]
 |⟨_,_,_,nd,_⟩::r=>nd++ZI r
theorem uG {ps:BD}{Es:Am}:∀{Vs:ES},Ji Es (ZI Vs)→LB ps Es Vs
 |[],_=>trivial
 |⟨i,d,v,nd,p⟩::r,h=>by unfold ZI at h;have h1:=(Sw h).1;refine⟨?_,uG (Sw h).2⟩;cases p with|false=>trivial|true=>cases hc:ps.contains i<;>simp[hc,h1]
section
variable {C:Bu} {ds:CL} {l0 l':AW} {Vs:ES} {Es:Am} {h:U} {os:Hc} {K:CB} {pl:IG}
 {d:Tmp} {ty:TypeId} {pos:String} {aft:Cw} {gd:Cq} {i:Nat}
def Da {n:Nat}(a:BD)(pl:IG)(b:Ri C.N os.toArray a=true)(g:BV pl C ds l0 [] Es h os.toArray K):AI C ds l0 Es h (.code (.region n os.toArray true)::K):=A0l a b g
def XJ:BD→Bool→IG
 |[],_=>[]
 |i::r,s=>bif Nat.beq i 99 then XJ r (!s)else match s with|true=>(i,1)::XJ r s|false=>(i,0)::XJ r s
def AU {n:Nat}(m:Nat)(ps:BD)(a:Ri C.N os.toArray (List.range m)=true)(g:BV (XJ ps false) C ds l0 [] Es h os.toArray K):AI C ds l0 Es h (.code (.region n os.toArray true)::K):=Da _ _ a g
def YD {l:AW}(a:((List.range os.toArray.size).all (HN Vs))=true)(b:SP Vs l0=some l)(g:AI C ds l Es h K):BV [] C ds l0 Vs Es h os.toArray K:=A0r a (iY b▸g)
def XH {o:Oper}(a:Iz i os=some o):os.toArray[i]?=some o:=by simpa using kC a
def UP {b:Op}(e:Iz i os=some ⟨some d,b,ty,pos,aft,gd⟩)(hc:ML Vs i ⟨some d,b,ty,pos,aft,gd⟩=true)(c:JI (GX os.toArray ⟨some d,b,ty,pos,aft,gd⟩) (sl Vs l0)=some l')
  (hg:Fe os.toArray l' gd=some false) (g:BV pl C ds l0 (⟨i,some d,undef,[],true⟩::Vs) Es h os.toArray K):BV ((i,0)::pl) C ds l0 Vs Es h os.toArray K:=
 Aba (nd:=[]) (XH e) hc An (λa w hs _ _=>.inr ⟨Um (Pj c▸hs) hg,rfl⟩) g
def DN (C:Bu) (l:AW) (nd:Am) (h:U) (o:Oper) (v:Value):Prop:=
 LD o.op=false∧∀a w,Hl l a→(∀A∈nd,∃D,A.holds D (mem w))→V h (mem w)→(execOp a.eval o).run C.P w=.ok (.value v) w
def U' {b:Op}{nd:Am}{v:Value}(f:Iz i os=some ⟨some d,b,ty,pos,aft,gd⟩)(hc:ML Vs i ⟨some d,b,ty,pos,aft,gd⟩=true)(c:JI (GX os.toArray ⟨some d,b,ty,pos,aft,gd⟩) (sl Vs l0)=some l')
  (hg:Fe os.toArray l' gd=some true) (hv:DN C l' nd h ⟨some d,b,ty,pos,aft,gd⟩ v) (e:Ji Es nd) (g:BV pl C ds l0 (⟨i,some d,v,nd,true⟩::Vs) Es h os.toArray K):BV ((i,0)::pl) C ds l0 Vs Es h os.toArray K:=
 Aba (XH f) hc e.ok (λa w hs hn hm=>.inl ⟨Um (Pj c▸hs) hg,hv.1,hv.2 a w (Pj c▸hs) hn hm⟩) g
def Be {a:Op}{nd:Am}{v:Value}(H:Iz i os=some ⟨some d,a,ty,pos,aft,gd⟩∧ML Vs i ⟨some d,a,ty,pos,aft,gd⟩=true∧JI (GX os.toArray ⟨some d,a,ty,pos,aft,gd⟩) (sl Vs l0)=some l'∧Fe os.toArray l' gd=some true)(hv:DN C l' nd h ⟨some d,a,ty,pos,aft,gd⟩ v)(b:Ji Es nd)(g:BV pl C ds l0 (⟨i,some d,v,nd,true⟩::Vs) Es h os.toArray K):BV ((i,0)::pl) C ds l0 Vs Es h os.toArray K:=U' H.1 H.2.1 H.2.2.1 H.2.2.2 hv b g
def Bd {p:Prop}(h:p:=by exact⟨by exact F,by kernel_rfl,by exact F,by exact F⟩):p:=h
def YA {b:Op}{v:Value}(e:Iz i os=some ⟨some d,b,ty,pos,aft,gd⟩)(hc:ML Vs i ⟨some d,b,ty,pos,aft,gd⟩=true)(c:JI (GX os.toArray ⟨some d,b,ty,pos,aft,gd⟩) (sl Vs l0)=some l')
  (hg:Fe os.toArray l' gd=some true) (hv:Kg C.ts l' b=some v) (g:BV pl C ds l0 (⟨i,some d,v,[],true⟩::Vs) Es h os.toArray K):BV ((i,0)::pl) C ds l0 Vs Es h os.toArray K:=
 U' (nd:=[]) e hc c hg ⟨gI hv,λa w hs _ _=>Zj C.ok hs hv w⟩ trivial g
def OE (s:Nat) (u:Value):ES→Option (List YQ)
 |[]=>none
 |⟨i,d,v,nd,p⟩::r=>bif UH d s then some (⟨i,d,u,nd,p⟩::r)else match OE s u r with
   |some t=>some (⟨i,d,v,nd,p⟩::t)
   |none=>none
theorem dW {s:Nat}{u:Value}:∀{Vs Vs':ES},OE s u Vs=some Vs'→CN s (sl Vs l0)=some u→Vs'=Vs
 |⟨i,d,v,nd,p⟩::r,Vs',e,hv=>by unfold OE at e;rw[iX]at hv;cases a:UH d s with|true=>(rw[a]at e;simp only[cond_true,Eh]at e;cases d with|none=>(cases a)|some d=>have:d=s:=Mc a;subst this;simp only[MA,UN,Eh]at hv;rw[←e,hv])|false=>rw[a]at e;simp only[cond_false]at e;(have c:CN s (sl r l0)=some u:=by{cases d with|none=>exact hv|some d=>(have:s≠d:=λb=>by subst b;simp[UH,Uq]at a);simpa only[MA,UF this]using hv});cases hr:OE s u r with|none=>(rw[hr]at e;cases e)|some t=>rw[hr]at e;simp only[Eh]at e;rw[←e,dW hr c]
theorem A1a {o:Oper}{s:Nat}{b c:Bool}{d a:ES}(f:Iz i os=some o)(hg:Om os.toArray o.guard=some (s,b))(hc:CN s (sl Vs l0)=some (.bool c))
  (h1:OE s (.bool true) Vs=some d) (h2:OE s (.bool false) Vs=some a)
  (e:c=true→BV ((i,0)::pl) C ds l0 d Es h os.toArray K) (hf:c=false→BV ((i,0)::pl) C ds l0 a Es h os.toArray K):BV ((i,0)::pl) C ds l0 Vs Es h os.toArray K:=by
 cases c with
 |true=>exact dW h1 hc▸e rfl
 |false=>exact dW h2 hc▸hf rfl
def Db {o:Oper}{s:Nat}{b c:Bool}{e d:ES}{p q:Prop}(g:p→BV ((i,0)::pl) C ds l0 e Es h os.toArray K)(hf:q→BV ((i,0)::pl) C ds l0 d Es h os.toArray K)(f:Iz i os=some o:=by exact F)(hg:Om os.toArray o.guard=some (s,b):=by exact F)(hc:CN s (sl Vs l0)=some (.bool c):=by exact F)(h1:OE s (.bool true) Vs=some e:=by exact F)(h2:OE s (.bool false) Vs=some d:=by exact F)(hp:c=true→p:=by intro hc;first|(simp only[Jf,reduceCtorEq]at hc;exact hc)|exact(show False from by simp only[Jf,reduceCtorEq]at hc)|exact hc|fail)(hq:c=false→q:=by intro hc;first|(simp only[Jf,reduceCtorEq]at hc;exact hc)|exact(show False from by simp only[Jf,reduceCtorEq]at hc)|exact hc|fail):BV ((i,0)::pl) C ds l0 Vs Es h os.toArray K:=A1a f hg hc h1 h2 (λa=>g (hp a)) (λa=>hf (hq a))
def YW {dst:CK}{a:Op}(e:Iz i os=some ⟨dst,a,ty,pos,aft,gd⟩)(d:(Pk Vs [i] os.toArray&&Nat.blt i os.toArray.size&& !HN Vs i)=true)(b:JI (GX os.toArray ⟨dst,a,ty,pos,aft,gd⟩) (sl Vs l0)=some l')
  (hg:Fe os.toArray l' gd=some true) (hx:LD a=false)
  (c:Cd C l' Es h ⟨dst,a,ty,pos,aft,gd⟩ λv Es' h'=>V h h'∧LB (PR os.toArray i) Es' Vs∧BV pl C ds l0 (⟨i,dst,v,[],false⟩::Vs) Es' h' os.toArray K) :
  BV ((i,1)::pl) C ds l0 Vs Es h os.toArray K:=
 A0q i d (XH e) (Pj b▸hg) hx (Pj b▸c)
def Bn {dst:CK}{a:Op}(b:Cd C l' Es h ⟨dst,a,ty,pos,aft,gd⟩ λv Es' h'=>V h h'∧LB (PR os.toArray i) Es' Vs∧BV pl C ds l0 (⟨i,dst,v,[],false⟩::Vs) Es' h' os.toArray K)(e:Iz i os=some ⟨dst,a,ty,pos,aft,gd⟩:=by exact F)(c:(Pk Vs [i] os.toArray&&Nat.blt i os.toArray.size&& !HN Vs i)=true:=by kernel_rfl)(d:JI (GX os.toArray ⟨dst,a,ty,pos,aft,gd⟩) (sl Vs l0)=some l':=by exact F)(hg:Fe os.toArray l' gd=some true:=by exact F)(hx:LD a=false:=by exact F):BV ((i,1)::pl) C ds l0 Vs Es h os.toArray K:=YW e c d hg hx b
def RL (pl:IG) (C:Bu) (ds:CL) (l0:AW) (Vs:ES) (Es:Am) (h:U) (os:Hc) (K:CB) (i:Nat):Prop:=WF C ds l0 Vs Es h os.toArray K i
def HP {dst:CK}{a:Op}(d:Iz i os=some ⟨dst,a,ty,pos,aft,gd⟩)(b:JI (GX os.toArray ⟨dst,a,ty,pos,aft,gd⟩) (sl Vs l0)=some l')
 (hg:Fe os.toArray l' gd=some true) (hx:LD a=false)
 (c:Cd C l' Es h ⟨dst,a,ty,pos,aft,gd⟩ λv Es' h'=>V h h'∧LB (PR os.toArray i) Es' Vs∧BV pl C ds l0 (⟨i,dst,v,[],false⟩::Vs) Es' h' os.toArray K) :
 RL pl C ds l0 Vs Es h os K i:=⟨_,XH d,Pj b▸hg,hx,Pj b▸c⟩
def Vl:Nat→IG→Option (IG)
 |0,_=>some []
 |_+1,[]=>some []
 |n+1,x::r=>match Vl n r with|some t=>some (x::t)|none=>none
def VJ:Nat→IG→Option (IG)
 |0,l=>some l
 |_+1,[]=>some []
 |n+1,_::r=>VJ n r
def GQ {m j:Nat}{a b:IG}(c:(Pk Vs [i,j] os.toArray&&Nat.blt i os.toArray.size&& !HN Vs i)=true)(d:Vl m pl=some a)(e:VJ m pl=some b)
 (hi:RL a C ds l0 Vs Es h os K i) (hj:RL b C ds l0 Vs Es h os K j):BV ((i,2)::(m,j)::pl) C ds l0 Vs Es h os.toArray K:=A0p i j c hi hj
end
section
variable {C:Bu} {ds:CL} {l:AW} {Es:Am} {h:U} {K:CB} {G:Value→Am→U→Prop}
 {d:Tmp} {ty:TypeId} {pos:String} {aft:Cw} {gd:Cq}
def wE {o:Oper}{v:Value}(hv:Kg C.ts l o.op=some v):DN C l [] h o v:=⟨gI hv,λa w hs _ _=>Zj C.ok hs hv w⟩
def QI (C:Bu) (nd:Am) (h:U) (T:TypeId) (a:Addr) (v:Value):Prop:=∀w,(∀A∈nd,∃D,A.holds D (mem w))→V h (mem w)→(loadVar T a).run C.P w=.ok v w
theorem fU {nd:Am}{T:TypeId}{t:Ay}{a:Addr}{vs:Ao}{v:Value}(hT:AM T C.ts=some t)(hv:EC 0 t.size t.agg vs=some v)
  (hc:∀w,(∀A∈nd,∃D,A.holds D (mem w))→V h (mem w)→∀j u,vs[j]?=some u→w.cell? (a.add j)=some u):QI C nd h T a v:=by
 intro w hn hm
 have c:=hc w hn hm
 simp only[loadVar,BK,C.ok.run_agg hT,B',RA]
 unfold EC at hv
 cases b:t.agg with
 |true=>
   rw[b]at hv
   simp only at hv
   split at hv
   · rename_i us d
     injection hv with hv;subst hv
     obtain⟨h1,h2⟩:=WK d
     simp only[J']at h1
     have f:us.length=t.size:=by rw[h1];simp;omega
     have:=run_loadCells_list (P:=C.P) w a us (λj u hj=>c j u (by rw[h1]at hj;rw[FF]at hj;split at hj;exact hj;cases hj))
     simp only[if_true,BK,C.ok.run_size hT,B']
     rw[←f,this];rfl
   · cases hv
 |false=>
   rw[b]at hv
   simp only at hv
   have h1:=c 0 v (UI hv)
   have e:a.add 0=a:=by simp[Addr.add]
   rw[e]at h1
   simp[h1]
def Aym {T e:TypeId}{t:Ay}{b off:Nat}{cs:Ao}{v:Value}(hT:AM T C.ts=some t)(hv:EC off t.size t.agg cs=some v):QI C [Ap b e cs] h T ⟨b,off,none⟩ v:=
 fU hT (bN hv) λw hn hm j u hj=>by
  obtain⟨D,_,a⟩:=hn _ (.head _)
  have c:w.heap[b]?=some (.cells cs.toArray e (0,0)):=a
  rw[GC]
  simp only[World.cell?,c]
  rw[Nd]at hj
  simpa using hj
def BH {T:TypeId}{t:Ay}{a:Addr}{vs:Ao}{v:Value}(hT:AM T C.ts=some t)(hc:Au h a vs)(hv:EC 0 t.size t.agg vs=some v):QI C [] h T a v:=
 fU hT hv λw hn hm j u hj=>by rw[Ps];exact Ph hm (hc j u hj)
def BA {t:TypeId}{x:Operand}{b:Addr}{v:Value}{nd:Am}{dst:CK}(hx:AJ l x=some (.pointer (some b)))(hv:QI C nd h t b v):DN C l nd h ⟨dst,.load t x,ty,pos,aft,gd⟩ v:=
 ⟨rfl,λa w hs hn hm=>by simp only[execOp,hs.eval hx,Instr.loadAt,Instr.sureAddr,BK,CV,B',hv w hn hm]⟩
def MM {t e:TypeId}{x y:Operand}{f:Addr}{n c j:Nat}{k:IntKind}{i:Int}{T d:Ay}{dst:CK}(hT:AM t C.ts=some T)(o:T.desc=.slice e)(m:AM e C.ts=some d)
  (hx:AJ l x=some (.slice (some f) n c)) (hy:AJ l y=some (.int k i)) (hi:i=(j:Int)) (hj:j<n):DN C l [] h ⟨dst,.indexAddr t x y,ty,pos,aft,gd⟩ (.pointer (some (f.add (j*d.size)))):=
 ⟨rfl,λa w hs _ _=>by
  obtain⟨q,b,g⟩:=C.ok.run_und hT
  have b:=b w
  rw[o]at g
  rw[Ho g]at b
  subst hi
  have p:(0:Int)≤(j:Int)∧(j:Int)<(n:Int):=⟨J,J⟩
  simp only[execOp,hs.eval hx,hs.eval hy,Instr.indexAt,asIntOf,BK,CV,B',b,RA,p,and_self,if_true,C.ok.run_size m,UJ]⟩
def KB {t e m:TypeId}{x y:Operand}{d:Addr}{j:Nat}{k:IntKind}{i:Int}{T c:Ay}{dst:CK}(hT:AM t C.ts=some T)(n:T.desc=.array m e)(g:AM e C.ts=some c)
  (hx:AJ l x=some (.pointer (some d))) (hy:AJ l y=some (.int k i)) (hi:i=(j:Int)) (hj:j<m):DN C l [] h ⟨dst,.indexAddr t x y,ty,pos,aft,gd⟩ (.pointer (some (d.add (j*c.size)))):=
 ⟨rfl,λa w hs _ _=>by
  obtain⟨p,b,f⟩:=C.ok.run_und hT
  have b:=b w
  rw[n]at f
  rw[Ou f]at b
  subst hi
  have o:(0:Int)≤(j:Int)∧(j:Int)<(m:Int):=⟨J,J⟩
  simp only[execOp,hs.eval hx,hs.eval hy,Instr.indexAt,Instr.sureAddr,asIntOf,BK,CV,B',b,RA,o,and_self,if_true,C.ok.run_size g,UJ]⟩
def UB {a:BinOp}{t ty':TypeId}{x y:Operand}{k:IntKind}{p q:Int}{v:Value}{T:Ay}{dst:CK}
  (hT:AM t C.ts=some T) (hx:AJ l x=some (.int k p)) (hy:AJ l y=some (.int k q)) (hv:JK T.desc a (.int k p) (.int k q)=some v):DN C l [] h ⟨dst,.binOp a t x y ty',ty,pos,aft,gd⟩ v:=
 wE (by simp only[Kg,hT,hx,hy];exact hv)
def dH {t ty':TypeId}{x y:Operand}{p q:Int}{T:Ay}{dst:CK}
  (hT:AM t C.ts=some T) (hx:AJ l x=some (O p)) (hy:AJ l y=some (O q)) (a : -9223372036854775808≤p+q∧p+q≤9223372036854775807):DN C l [] h ⟨dst,.binOp .add t x y ty',ty,pos,aft,gd⟩ (O (p+q)):=
 UB hT hx hy (by simp[JK,NO _ a])
def Awz {t ty':TypeId}{x y:Operand}{p q:Int}{T:Ay}{dst:CK}
  (hT:AM t C.ts=some T) (hx:AJ l x=some (O p)) (hy:AJ l y=some (O q)) (a : -9223372036854775808≤p-q∧p-q≤9223372036854775807):DN C l [] h ⟨dst,.binOp .sub t x y ty',ty,pos,aft,gd⟩ (O (p-q)):=
 UB hT hx hy (by simp[JK,NO _ a])
def Awr {o:Oper}{nd:Am}{v:Value}(hv:DN C l nd h o v)(c:Ji Es nd)(g:G v Es h):Cd C l Es h o G:=
 λa w hs hp=>.inl ⟨v,w,Es,h,hv.2 a w hs (λA b=>hp.get (c.ok A b)) hp.ro,hp,g⟩
def Mm {t e:TypeId}{x y:Operand}{b off:Nat}{v:Value}{cs cs':Ao}{Es':Am}{T:Ay}{ty:TypeId}{pos:String}{aft:Cw}{gd:Cq}
  (hT:AM t C.ts=some T) (hx:AJ l x=some (.pointer (some ⟨b,off,none⟩))) (hy:AJ l y=some v) (d:Ei Es (Ap b e cs) (Ap b e cs') Es') (ac:JR off (BX v) cs=some cs')
  (u:Nat.beq (BX v).length T.size=true) (h1:Ly (BX v)=true) (g:G undef Es' h):Cd C l Es h ⟨none,.store t x y,ty,pos,aft,gd⟩ G:=by
 intro a w hs hp
 have p:=Mc u
 obtain⟨af,ad,ab,ah⟩:=hp.own
 obtain⟨D,⟨ag,s⟩,o,aj,_⟩:=d.own ad ab
 have f:w.heap[b]?=some (.cells cs.toArray e (0,0)):=s
 have j:=Vd ac
 by_cases c:BX v=[]
 · have hc:cs'=cs:=by
    have:=j.1;rw[c]at this;simpa using this
   subst hc
   have k:(storeVar t ⟨b,off,none⟩ v).run C.P w=.ok () w:=by
    have h0:T.size=0:=by rw[←p,c];rfl
    simp only[storeVar,BK,C.ok.run_size hT,B',Ni,c,h0]
    rfl
   exact .inr (.inl ⟨w,Es',h,by simp only[execOp,hs.eval hx,hs.eval hy,Instr.storeAt,Instr.sureAddr,BK,CV,B',k],hp.asn d λD m hm=>hm,g⟩)
 · have z:=j.2 c
   have k:(storeVar t ⟨b,off,none⟩ v).run C.P w=.ok () (w.setRow b cs'.toArray):=by
    have ae:=run_storeCells_at (P:=C.P) b off e (BX v) 0 cs.toArray w f (by simpa using z) (En h1)
    simp only[storeVar,BK,C.ok.run_size hT,B',Ni,Nb,p,ne_eq,not_true,if_false]
    rw[ae]
    simp only[Sg,List.toList_toArray]
    rw[←j.1]
   have ai:b<w.heap.size:=(JE.1 f).1
   refine .inr (.inl ⟨w.setRow b cs'.toArray,Es',h,by simp only[execOp,hs.eval hx,hs.eval hy,Instr.storeAt,Instr.sureAddr,BK,CV,B',k],?_,g⟩)
   refine hp.repl d rfl rfl rfl (by simp[World.setRow]) λD n o r=>⟨D,⟨n.1,?_⟩,o,λq hq=>⟨.inl hq,by have:=r q hq;simpa[World.setRow]using this⟩,λi hi aa=>?_⟩
   · show(w.setRow b cs'.toArray).heap[b]?=_
     exact setRow_heap w b cs.toArray cs'.toArray e (0,0) f
   · have:b≠i:=λe=>aa (by rw[n.1,e];simp)
     simp[World.setRow,Is,this]
def Ci {e:TypeId}{x:Operand}{v:Value}
  (hx:AJ l x=some v) (g:∀b,G ((AD b)) (Ap b e (BX v)::Es) h):Cd C l Es h ⟨some d,.box e x,ty,pos,aft,gd⟩ G:=
 λa w hs hp=>
  .inl ⟨_,_,_,h,by simp only[execOp,hs.eval hx,Instr.box,newVar,newRow,newObj,BK,CV,Sem.run,B',Ni],
   hp.alloc (.cells (BX v).toArray e) (Ap w.heap.size e (BX v)) (gW _ _ _),g _⟩
def Bo {e:TypeId}{T:Ay}(hT:AM e C.ts=some T)(g:∀b,G ((AD b)) (Ap b e (BX T.zero)::Es) h):Cd C l Es h ⟨some d,.alloc e,ty,pos,aft,gd⟩ G:=
 λa w hs hp=>
  .inl ⟨_,_,_,h,by simp only[execOp,Instr.alloc,C.ok.run_zero hT,newVar,newRow,newObj,BK,CV,Sem.run,B',Ni],
   hp.alloc (.cells (BX T.zero).toArray e) (Ap w.heap.size e (BX T.zero)) (gW _ _ _),g _⟩
def nZ {t e n:Nat}{j:YZ}{ps:PK}{T c:Ay}{cs:Ao}(hT:AM t C.ts=some T)(q:T.desc=.slice e)(k:AM e C.ts=some c)
  (o:BX c.zero≠[]) (p:(BX c.zero).length=c.size) (hn:Nat.ble (n*c.size) 16777216=true) (hp:ND l j.toList=some ps) (hc:Nx (λi=>some (i*c.size,c.size)) ps (repl (BX c.zero) n)=some cs) (g:∀b,G ((.slice (some (Av b)) n n)) (Ap b e cs::Es) h):Cd C l Es h ⟨some d,.buildSlice t n j,ty,pos,aft,gd⟩ G:=
 λa w hs u=>
  .inl ⟨.slice (some (Av w.heap.size)) n n,{w with heap:=w.heap.push (.cells cs.toArray e)},_,h,by
   obtain⟨aa,f,m⟩:=C.ok.run_und hT
   have f:=f w
   rw[q]at m
   rw[Ho m]at f
   have e1:=dX hs hp
   have z:(j.map λx=>match x with|(i,x)=>(i,a.eval x))=ps.toArray:=by rw[←e1];apply Rc;simp
   have hf:=V' hc
   have r:¬(n*c.size>2^24):=by have:=Oe hn;omega
   have y:((Array.range (n*c.size)).map λi=>(BX c.zero).toArray[i%(BX c.zero).toArray.size]!)=(repl (BX c.zero) n).toArray:=by
    rw[Vf,←p];exact wC _ _ o
   have ab:0<c.size:=by rw[←p];exact xH.2 o
   simp only[execOp,Instr.buildSlice,BK,f,C.ok.run_size k,B',RA,r,if_false,z]
   by_cases h0:n*c.size=0
   · have s:n=0:=by rcases Nat.mul_eq_zero.1 h0 with h1|h1<;>omega
     subst s
     simp only[Uo,if_true,CV,B']
     have v:((Array.range 0).map λi=>(#[]:Dx)[i%(#[]:Dx).size]!)=(repl (BX c.zero) 0).toArray:=by simp[repl]
     rw[v,hf]
     rfl
   · simp only[h0,if_false,C.ok.run_zero k,BK,B',CV,Ni,y,hf]
     rfl,u.alloc (.cells cs.toArray e) (Ap w.heap.size e cs) (gW _ _ _),g _⟩
def LN {d:CK}{c:Operand}{xs:KI}{tys:Kf}{f:FuncId}{fs cs vs:Ao}{Es0 Fs:Am}{Post:Value→Am→U→Prop}
  (hc:AJ l c=some (.func (.func f) fs.toArray cs.toArray)) (e:Il l xs.toList=some vs) (b:Es=Es0++Fs) (hh:BP C.P f) (hf:AP C.P f (fs++vs++cs).toArray Es0 h Post)
  (g:∀v Es' h',V h h'→Post v Es' h'→G v (Es'++Fs) h'):Cd C l Es h ⟨d,.call ⟨.value c,xs,tys⟩,ty,pos,aft,gd⟩ G:=by
 refine Awu (λa w hs=>?_) b hf g
 obtain⟨fn,h1,h2,h3⟩:=hh
 have e1:=PT hs e
 have i:xs.map a.eval=vs.toArray:=by rw[←e1];apply Rc;simp
 simp only[execOp,resolve,hs.eval hc,Deferred.ofValue,BK,CV,B',invoke,i]
 rw[show fs.toArray++vs.toArray++cs.toArray=(fs++vs++cs).toArray by simp]
 exact nH h1 h2 h3 w
def Ww {d:CK}{xs:KI}{tys:Kf}{f:FuncId}{vs:Ao}{Es0 Fs:Am}{Post:Value→Am→U→Prop}
  (b:Il l xs.toList=some vs) (a:Es=Es0++Fs) (hh:BP C.P f) (hf:AP C.P f vs.toArray Es0 h Post)
  (g:∀v Es' h',V h h'→Post v Es' h'→G v (Es'++Fs) h'):Cd C l Es h ⟨d,.call ⟨.value (.func f),xs,tys⟩,ty,pos,aft,gd⟩ G:=
 LN (f:=f) (fs:=[]) (cs:=[]) rfl b a hh (by simpa using hf) g
def Adv {x y:Operand}{t e:TypeId}{v:Value}{n m c:Nat}{xs q:Ao}{z:Addr}{T f:Ay}{Es':Value→Am}(hT:AM t C.ts=some T)(ar:T.desc=.slice e)(aq:AM e C.ts=some f)
  (a':f.zero.cells.size=f.size) (a9:0<f.size)
  (hx:AJ l x=some v) (hy:AJ l y=some (.slice (some z) m c)) (ad:∀k,Ei Es (Ar e f.size v n xs) (Ar e f.size k (n+m) (xs++q)) (Es' k))
  (a2:q.length=m*f.size) (a0:∀w,Bq C.w0 C.X0 C.h0 Es h w→∀j u,q[j]?=some u→w.cell? (z.add j)=some u) (h1:∀u∈q,u.oneCell'=true)
  (an:n+m≤maxLen) (av:(n+m)*f.bytes≤140737488355328)
  (g:∀k,(k=.slice none 0 0↔v=.slice none 0 0∧m=0)→G k (Es' k) h):Cd C l Es h ⟨some d,.call ⟨.builtin .append,#[x,y],#[t,t]⟩,ty,pos,aft,gd⟩ G:=by
 intro a w hs hp
 obtain⟨i,hi,aw,ax,ay⟩:=C.ok.info aq
 obtain⟨bb,ai,ae⟩:=C.ok.und hT
 rw[ar]at ae
 rw[Ho ae]at ai
 obtain⟨bc,a4,a3,bh⟩:=hp.own
 obtain⟨D,aa,ap,bi,_⟩:=(ad v).own a4 a3
 have a8:w.ownsRow 0 e f.size v n xs:=by
  obtain⟨af,hr⟩:=aa
  refine⟨af,hr.imp (λ⟨h1,h2,_⟩=>⟨h1,h2⟩) λ⟨g,r,s,h1,h2,h3,ak,al,am,ao⟩=>⟨g,r,s,h1,GT _,h3,ak,al,am,ao⟩⟩
 obtain⟨k,ba,ah,a5,p,a1,au⟩:=run_append_own_at (P:=C.P) w 0 t ty e i f.zero f.size f.bytes ai hi ay aw ax a' a9 v n xs a8 z m c q a2 (a0 w hp) h1 an av (GT _)
 refine .inl ⟨k,ba,Es' k,h,?_,?_,g k a1⟩
 · simp only[execOp,resolve,invoke,builtin,BK,CV,B',QM,CW,Jv,hs.eval hx,hs.eval hy,ah]
 · refine hp.repl (ad k) p.os p.tape p.output p.size (hdr:=Io _ ah) λD aa ap bg=>?_
   obtain⟨af,hr⟩:=aa
   obtain⟨ag,a6⟩:=a5
   have aj:∀i,i∉D→some i≠v.ownBlock:=by
    intro i hi ab
    rcases hr with⟨rfl,_,_⟩|⟨g,r,s,rfl,rfl,_⟩
    · simp[Value.ownBlock]at ab
    · simp only[Value.ownBlock,Eh]at ab;subst ab;exact hi An
   rcases a6 with⟨rfl,az⟩|⟨g,r,s,rfl,_,hh,a7⟩
   · refine⟨[],⟨ag,.inl ⟨rfl,az,rfl⟩⟩,Yg,An,λi hi ac=>p.block i hi (aj i ac)⟩
   · refine⟨[g],⟨ag,.inr ⟨g,r,s,rfl,rfl,hh,a7⟩⟩,An,λb o=>?_,λi hi ac=>p.block i hi (aj i ac)⟩
     simp only[Bk]at o
     subst o
     refine⟨?_,(JE.1 hh).1⟩
     rcases au with o|o
     · left
       rcases hr with⟨rfl,_,_⟩|⟨bf,bd,be,rfl,rfl,_⟩
       · simp[Value.ownBlock]at o
       · simp only[Value.ownBlock,Eh]at o;subst o;simp
     · right
       simp only[Value.ownBlock,Eh]at o;omega
end
def AQ (n:Int):Ao:=[O n]
structure Ai {α:Type} (enc:α→Ao) (sz:Nat) (h:U) (A:At) (n:Nat) (xs:List α):Prop where
 len:xs.length=n
 at_:0<n→∃ad,A=some ad∧∀j x,xs[j]?=some x→Au h (ad.add (j*sz)) (enc x)
section sl
variable {α:Type} {enc:α→Ao} {sz:Nat} {h:U} {A:At} {n:Nat} {xs:List α}
def Ai.cells {a:Addr}(s:Ai enc sz h (some a) n xs)(d:α){k:Nat}(c:k<n):Au h (a.add (k*sz)) (enc (xs.getD k d)):=by obtain⟨b,e,hc⟩:=s.at_ J;injection e with e;subst e;exact hc k _ (by have:=s.len;simp[List.getD,Bw (show k<xs.length by omega)])
def Ai.addr (s:Ai enc sz h A n xs)(c:0<n):∃a,A=some a:=by obtain⟨b,e,hc⟩:=s.at_ c;exact⟨b,e⟩
def Ai.le {h':U}(s:Ai enc sz h A n xs)(b:V h h'):Ai enc sz h' A n xs:=
 ⟨s.len,λhn=>let⟨a,e,hc⟩:=s.at_ hn;⟨a,e,λj x hx=>(hc j x hx).le b⟩⟩
def Ai.nil:Ai enc sz h A 0 []:=⟨rfl,λh=>absurd h J⟩
end sl
def BG {κ α:Type} (ek:κ→Value) (ev:α→Value) (b:Nat) (l:List (κ×α)):EQ:=
 ⟨λD m=>D=[b]∧∃a c,m b=some (.map a c)∧a.toList.map (λe=>(e.key,e.val))=l.map (λp=>(ek p.1,ev p.2))∧(∀x∈a.toList,x.born<c)∧(a.toList.map (·.born)).Nodup,
  λD m f h ⟨d,r⟩=>⟨d,by rw[←h b (by simp[d])];exact r⟩⟩
def Co {κ α:Type} [DecidableEq κ] (x:κ):List (κ×α)→Option α
 |[]=>none
 |(y,a)::r=>if y=x then some a else Co x r
def Dk {κ α:Type} [DecidableEq κ] (x:κ) (a:α):List (κ×α)→List (κ×α)
 |[]=>[(x,a)]
 |(y,b)::r=>if y=x then(y,a)::r else(y,b)::Dk x a r
section maps
variable {κ α:Type} [DecidableEq κ] {ek:κ→Value} {ev:α→Value} {P:Program} {k:TypeId} {d:TypeDesc}
def Gq (x:κ):List (κ×α)→Nat→Option (Nat×α)
 |[],_=>none
 |(y,a)::r,i=>if y=x then some (i,a)else Gq x r (i+1)
theorem Adq (x:κ):∀(l:List (κ×α)) (i:Nat),(Gq x l i=none∧Co x l=none∧∀a,Dk x a l=l++[(x,a)])∨
  ∃j a,Gq x l i=some (i+j,a)∧Co x l=some a∧(∃p,l[j]?=some p∧p.1=x)∧∀b,Dk x b l=l.set j (x,b)
 |[],i=>.inl ⟨rfl,rfl,λ_=>rfl⟩
 |(y,a)::r,i=>by
   by_cases h:y=x
   · exact .inr ⟨0,a,by simp[Gq,h],by simp[Co,h],⟨(y,a),rfl,h⟩,λb=>by simp[Dk,h]⟩
   · rcases Adq x r (i+1)with⟨h1,h2,h3⟩|⟨j,b,h1,h2,h3,d⟩
     · exact .inl ⟨by simp[Gq,h,h1],by simp[Co,h,h2],λb=>by simp[Dk,h,h3 b]⟩
     · exact .inr ⟨j+1,b,by simp[Gq,h,h1];omega,by simp[Co,h,h2],by simpa using h3,λc=>by simp[Dk,h,d c]⟩
structure Gw (P:Program) (k:TypeId) (ek:κ→Value):Prop where
 check:∀(w:World) (em:Bool) (x:κ),(Instr.checkKey em 10000 k (ek x)).run P w=.ok () w
 find:∀(w:World) (x:κ) (ev:Nat→Value) (es:List MapEntry) (l:List (κ×Nat)),es.map (fun e=>(e.key,e.val))=l.map (fun p=>(ek p.1,ev p.2))→(Instr.findKey k (ek x) es).run P w=.ok ((Gq x l 0).map fun p=>(p.1,ev p.2)) w
 stays:∀(w:World) (x:κ),(Instr.keyThatStays (ek x) (ek x)).run P w=.ok (ek x) w
 inj:∀x y,ek x=ek y→x=y
theorem ZY {b:Type}(x:κ)(f:α→b):∀(l:List (κ×α)) (i:Nat),Gq x (l.map λp=>(p.1,f p.2)) i=(Gq x l i).map λp=>(p.1,f p.2)
 |[],_=>rfl
 |(y,a)::r,i=>by simp only[CW,Gq];split;{rfl};{exact ZY x f r (i+1)}
def Gw.find' (K:Gw P k ek)(w:World)(x:κ){b:List MapEntry}{l:List (κ×α)}(h:b.map (λe=>(e.key,e.val))=l.map (λp=>(ek p.1,ev p.2))) :
  (Instr.findKey k (ek x) b).run P w=.ok ((Gq x l 0).map λp=>(p.1,ev p.2)) w:=by
 let L:List (κ×Nat):=l.zipIdx.map λp=>(p.1.1,p.2)
 let a:Nat→Value:=λi=>match l[i]? with|some p=>ev p.2|none=>undef
 have e1:L.map (λp=>(ek p.1,a p.2))=l.map λp=>(ek p.1,ev p.2):=by
  apply K'
  intro i
  simp only[L,Nc,FG,List.getElem?_zipIdx,Option.map_map]
  cases hi:l[i]? with
  |none=>rfl
  |some p=>simp[a,hi]
 have e2:(Gq x L 0).map (λp=>(p.1,a p.2))=(Gq x l 0).map λp=>(p.1,ev p.2):=by
  rw[←ZY x a L 0,←ZY x ev l 0]
  congr 1
  apply K'
  intro i
  simp only[L,Nc,FG,List.getElem?_zipIdx,Option.map_map]
  cases hi:l[i]? with
  |none=>rfl
  |some p=>simp[a,hi]
 rw[←e2]
 exact K.find w x a b L (by rw[h,e1])
def lK (K:Gw P k ek)(w:World)(x:κ){c:List MapEntry}{l:List (κ×α)}(h:c.map (λe=>(e.key,e.val))=l.map (λp=>(ek p.1,ev p.2))) :
  ((Instr.findKey k (ek x) c).run P w=.ok none w∧Co x l=none∧∀a,Dk x a l=l++[(x,a)])∨
  ∃j a e,(Instr.findKey k (ek x) c).run P w=.ok (some (j,ev a)) w∧Co x l=some a∧c[j]?=some e∧e.key=ek x∧∀b,Dk x b l=l.set j (x,b):=by
 have hf:=K.find' w x h
 rcases Adq x l 0 with⟨h1,h2,h3⟩|⟨j,a,h1,h2,⟨p,h3,g⟩,f⟩
 · rw[h1]at hf
   exact .inl ⟨hf,h2,h3⟩
 · rw[h1,Dy]at hf
   have hj:=congrArg (λq=>q[j]?) h
   simp only[FG,h3,Hg]at hj
   cases d:c[j]? with
   |none=>rw[d]at hj;cases hj
   |some e=>
     rw[d]at hj
     simp only[Hg,Eh,Mb]at hj
     exact .inr ⟨j,a,e,hf,h2,d,by rw[hj.1,g],f⟩
def Gw.plain {d:TypeDesc}(f:P.underlying k=some d)(b:∀x,MapKept.IsKey d (ek x))(hi:∀x y,ek x=ek y→x=y):Gw P k ek where
 check:=λw g x=>wT f (b x) g 9999
 stays:=λw x=>MapKept.run_keyThatStays (b x)
 inj:=hi
 find:=λw x ev a l h=>by
  refine MapKept.run_findKey f ?_
  suffices H:∀(a:List MapEntry) (l:List (κ×Nat)) (i:Nat),a.map (λe=>(e.key,e.val))=l.map (λp=>(ek p.1,ev p.2))→Instr.findNow d (ek x) a i=some ((Gq x l i).map λp=>(p.1,ev p.2))from H a l 0 h
  intro a
  induction a with
  |nil=>intro l i h;cases l with
    |nil=>rfl
    |cons p l=>cases h
  |cons e a j=>
    intro l i h
    cases l with
    |nil=>cases h
    |cons p l=>
      simp only[CW,Kb,Mb]at h
      obtain⟨r,hr,c⟩:=MapKept.sameNow_of_keys (b x) (show MapKept.IsKey d e.key by rw[h.1.1];exact b _)
      rw[h.1.1]at c
      unfold Instr.findNow
      rw[hr]
      by_cases hq:p.1=x
      · rw[c.2 (by rw[hq])]
        simp[Gq,hq,h.1.2]
      · have:r=false:=by
         cases r with
         |false=>rfl
         |true=>exact absurd (hi _ _ (c.1 rfl)).symm hq
        rw[this]
        simp only[Gq,hq,if_false]
        exact j l (i+1) h.2
def Gw.int {k:TypeId}{q:IntKind}(h:P.underlying k=some (.int q)):Gw P k (λi:Int=>.int q i):=
 Gw.plain h (λx=>rfl) (λx y e=>by injection e)
def VA (c:Bool) (ev:α→Value) (z:Value):Option α→Value
 |some a=>if c then .tuple #[ev a,.bool true]else ev a
 |none=>if c then .tuple #[z,.bool false]else z
def Ax3 (K:Gw P k ek){t e:TypeId}(g:P.underlying t=some (.map k e)){z:Value}{w:World}(m:(zeroValue e).run P w=.ok z w){b:Nat}{l:List (κ×α)}(d:(BG ek ev b l).holds [b] (mem w))(x:κ)(c:Bool) :
  (Instr.lookup t (.map (some b)) (ek x) c).run P w=.ok (VA c ev z (Co x l)) w:=by
 obtain⟨_,f,h,d,i,o,p⟩:=d
 have d:w.heap[b]?=some (.map f h):=d
 have hck:=K.check w f.isEmpty x
 rcases lK K w x i with⟨hf,h2,_⟩|⟨j,a,n,hf,h2,_⟩
 · simp only[Instr.lookup,BK,run_underlying g,Result.andThen,Yd d,CV,hck,hf,m,h2,VA]
 · simp only[Instr.lookup,BK,run_underlying g,Result.andThen,Yd d,CV,hck,hf,h2,VA]
def Ax4 (K:Gw P k ek){t e:TypeId}(u:P.underlying t=some (.map k e)){w:World}{b:Nat}{l:List (κ×α)}(c:(BG ek ev b l).holds [b] (mem w))(x:κ)(a:α) :
  ∃f,(Instr.mapUpdate t (.map (some b)) (ek x) (ev a)).run P w=.ok () f∧(BG ek ev b (Dk x a l)).holds [b] (mem f)∧f.os=w.os∧f.tape=w.tape∧f.output=w.output∧f.heap.size=w.heap.size∧∀i,i≠b→f.heap[i]?=w.heap[i]?:=by
 obtain⟨_,d,g,c,m,h,s⟩:=c
 have c:w.heap[b]?=some (.map d g):=c
 have hck:=K.check w false x
 rcases lK K w x m with⟨hf,h2,h3⟩|⟨j,a0,v,hf,h2,h3,z,aa⟩
 · refine⟨ChangeMaps.setBlock w b (.map (d.push ⟨ek x,ev a,g⟩) (g+1)),?_,⟨rfl,_,_,A07 c _,?_,?_,?_⟩,rfl,rfl,rfl,by simp[ChangeMaps.setBlock],λi hi=>A08 c _ hi⟩
   · simp[Instr.mapUpdate,run_underlying u,Yd c,hck,hf,Ax9 _ c,Result.andThen,ChangeMaps.setBlock]
   · simp[h3,m]
   · intro y hy
     simp only[Array.toList_push,AO,Bk]at hy
     rcases hy with hy|rfl
     · exact Nat.lt_succ_of_lt (h y hy)
     · exact Nat.lt_succ_self _
   · simp only[Array.toList_push,DI,CW,Jv]
     refine Fm.2 ⟨s,An,?_⟩
     intro p hp q hq
     simp only[Bk]at hq
     subst hq
     obtain⟨y,hy,rfl⟩:=CZ.1 hp
     exact Nat.ne_of_lt (h y hy)
 · have ab:=K.stays w x
   have n:d[j]?=some v:=by simpa using h3
   refine⟨ChangeMaps.setBlock w b (.map (d.modify j λe=>{e with key:=ek x,val:=ev a}) g),?_,⟨rfl,_,_,A07 c _,?_,?_,?_⟩,rfl,rfl,rfl,by simp[ChangeMaps.setBlock],λi hi=>A08 c _ hi⟩
   · simp[Instr.mapUpdate,run_underlying u,Yd c,hck,hf,n,z,ab,Ax9 _ c,Result.andThen,ChangeMaps.setBlock]
   · rw[aa a]
     apply K'
     intro i
     have hi:=congrArg (λq=>q[i]?) m
     simp only[FG,Lk,Is,List.getElem?_set]at hi ⊢
     by_cases o:j=i
     · subst o
       rw[n]at hi ⊢
       cases r:l[j]? with
       |none=>rw[r]at hi;cases hi
       |some p=>
         have:j<l.length:=(Kx.1 r).1
         simp[this]
     · simp only[o,if_false];exact hi
   · intro y hy
     obtain⟨i,hy⟩:=List.getElem?_of_mem hy
     simp only[Lk,Is]at hy
     split at hy
     · cases hi:d[i]? with
       |none=>rw[hi]at hy;cases hy
       |some e1=>
         rw[hi]at hy;simp only[Hg,Eh]at hy
         rw[←hy]
         exact h e1 (hX.2 (YU hi))
     · exact h y (hX.2 (YU hy))
   · have:(d.modify j λe=>{e with key:=ek x,val:=ev a}).toList.map (·.born)=d.toList.map (·.born):=by
      apply K'
      intro i
      simp only[FG,Lk,Is]
      split
      · cases d[i]?<;>rfl
      · rfl
     rw[this];exact s
variable {C:Bu} {l:AW} {Es:Am} {h:U} {G:Value→Am→U→Prop} {ty:TypeId} {pos:String} {aft:Cw} {gd:Cq}
omit [DecidableEq κ] in
theorem Nn {t:TypeId}{dst:CK}(ek:κ→Value)(ev:α→Value)(g:∀b,G (.map (some b)) (BG ek ev b []::Es) h):Cd C l Es h ⟨dst,.makeMap t none,ty,pos,aft,gd⟩ G:=λa w hs hp=>
 .inl ⟨.map (some w.heap.size),_,_,h,by simp only[execOp];rw[BK];rfl,hp.alloc (.map #[] 0) (BG ek ev w.heap.size []) (λm hm=>⟨rfl,#[],0,hm,rfl,An,An⟩),g _⟩
def On {t e:TypeId}{x y:Operand}{b:Nat}{key:κ}{m:List (κ×α)}{c:Bool}{T d:Ay}{r:Option α}{dst:CK}(K:Gw C.P k ek)(hT:AM t C.ts=some T)(o:T.desc=.map k e)(n:AM e C.ts=some d)
  (hx:AJ l x=some (.map (some b))) (hy:AJ l y=some (ek key)) (hr:Co key m=r):DN C l [BG ek ev b m] h ⟨dst,.lookup t x y c,ty,pos,aft,gd⟩ (VA c ev d.zero r):=
 ⟨rfl,λa w hs hn hm=>by
  obtain⟨D,f⟩:=hn _ (.head _)
  obtain⟨p,j,i⟩:=C.ok.und hT
  rw[o]at i
  rw[QE i]at j
  have g:=f
  rw[f.1]at g
  have:=Ax3 K j (C.ok.run_zero n w) g key c
  rw[hr]at this
  simp only[execOp,hs.eval hx,hs.eval hy,BK,this,B',CV]⟩
def Nq {t e:TypeId}{x y v:Operand}{b:Nat}{key:κ}{u:α}{m:List (κ×α)}{T:Ay}{Es':Am}{dst:CK}{val:Value}(K:Gw C.P k ek)(hT:AM t C.ts=some T)(z:T.desc=.map k e)
  (hx:AJ l x=some (.map (some b))) (hy:AJ l y=some (ek key)) (hv:AJ l v=some val) (ad:val=ev u) (j:Ei Es (BG ek ev b m) (BG ek ev b (Dk key u m)) Es') (g:G undef Es' h) :
  Cd C l Es h ⟨dst,.mapUpdate t x y v,ty,pos,aft,gd⟩ G:=λa w hs hp=>by
 subst ad
 obtain⟨aj,q,o⟩:=C.ok.und hT
 rw[z]at o
 rw[QE o]at q
 obtain⟨ak,ac,ab,al⟩:=hp.own
 obtain⟨D,c,f,am,_⟩:=j.own ac ab
 have d:=c
 rw[c.1]at d
 obtain⟨ai,p,r,ae,af,ag,an,ah⟩:=Ax4 K q d key u
 refine .inr (.inl ⟨ai,Es',h,?_,hp.repl j ae af ag J (hdr:=Io _ p) λD c f s=>⟨D,?_,f,λb n=>⟨.inl n,by have:=s b n;omega⟩,λi hi aa=>ah i (λe=>aa (by rw[c.1,e];simp))⟩,g⟩)
 · simp only[execOp,hs.eval hx,hs.eval hy,hs.eval hv,BK,p,B',CV]
 · have:=c.1;subst this;exact r
def XG {t e:TypeId}{x y v:Operand}{b:Nat}{key:κ}{u:α}{m:List (κ×α)}{T:Ay}{Es':Am}{dst:CK}{val:Value}(K:Gw C.P k ek)(hT:AM t C.ts=some T)(c:T.desc=.map k e)
  (hx:AJ l x=some (.map (some b))) (hy:AJ l y=some (ek key)) (hv:AJ l v=some val) (d:val=ev u) (a:Ei Es (BG ek ev b m) (BG ek ev b (Dk key u m)) Es') (g:G undef Es' h) :
  Cd C l Es h ⟨dst,.insert t x y v,ty,pos,aft,gd⟩ G:=
 (Nq K hT c hx hy hv d a g:Cd C l Es h ⟨dst,.mapUpdate t x y v,ty,pos,aft,gd⟩ G)
end maps
def Lh {κ α:Type} (ek:κ→Value) (ev:α→Value) (b r:Nat) (l rem:List (κ×α)) (d:Option (κ×α)):EQ:=
 ⟨λD m=>D=[b,r]∧∃(a:Array MapEntry) (clock since:Nat) (seen:Array Nat) (c0:Nat),m b=some (.map a clock)∧a.toList.map (λe=>(e.key,e.val))=l.map (λp=>(ek p.1,ev p.2))∧(∀x∈a.toList,x.born<clock)∧(a.toList.map (·.born)).Nodup∧
  m r=some (.mapIter (some b) since seen c0)∧(∀x∈a.toList,x.born<since)∧since≤c0∧since≤clock∧(leftOf a seen).toList.map (λe=>(e.key,e.val))=rem.map (λp=>(ek p.1,ev p.2))∧
  ∀p,d=some p→∃e∈a.toList,(e.key,e.val)=(ek p.1,ev p.2)∧c0=clock∧∃s:Array Nat,seen=s.push e.born,
  λD m f h ⟨c,q⟩=>⟨c,by rw[←h b (by simp[c]),←h r (by simp[c])];exact q⟩⟩
section
variable {κ α:Type} {ek:κ→Value} {ev:α→Value} {C:Bu} {l:AW} {Es:Am} {h:U} {G:Value→Am→U→Prop} {ty:TypeId} {pos:String} {aft:Cw} {gd:Cq} {dst:CK}
def Abh {t k e:TypeId}{x:Operand}{b:Nat}{m:List (κ×α)}{T:Ay}{Es':Nat→Am}(hT:AM t C.ts=some T)(z:T.desc=.map k e)
  (hx:AJ l x=some (.map (some b))) (j:∀r,Ei Es (BG ek ev b m) (Lh ek ev b r m m none) (Es' r)) (g:∀r,G (AD r) (Es' r) h) :
  Cd C l Es h ⟨dst,.range t x,ty,pos,aft,gd⟩ G:=λa w hs hp=>by
 obtain⟨af,s,n⟩:=C.ok.und hT
 rw[z]at n
 rw[QE n]at s
 obtain⟨ag,ad,ac,ai⟩:=hp.own
 obtain⟨D,⟨ah,d,c,f,p,o,ab⟩,y,aj,_⟩:=(j 0).own ad ac
 have f:w.heap[b]?=some (.map d c):=f
 have ae:=run_range_map (P:=C.P) w t k e b d c s f
 refine .inl ⟨_,_,Es' w.heap.size,h,by simp only[execOp,hs.eval hx,BK,ae,B'];rfl,?_,g _⟩
 refine hp.repl (j w.heap.size) rfl rfl rfl (by show _≤(w.heap.push _).size;simp) λD u y v=>?_
 obtain⟨rfl,_⟩:=u
 have aa:b<w.heap.size:=v b An
 have h1:(w.alloc (.mapIter (some b) c #[] c)).heap[b]?=some (.map d c):=by
  show(w.heap.push _)[b]?=_
  rw[Yc aa];exact f
 refine⟨[b,w.heap.size],⟨rfl,d,c,c,#[],c,h1,p,o,ab,?_,o,BU _,BU _,?_,An⟩,FC,?_,?_⟩
 · show(w.heap.push _)[w.heap.size]?=_
   simp
 · have:leftOf d #[]=d:=by simp[leftOf]
   rw[this];exact p
 · intro q hq
   simp only[Bx,JX,or_false]at hq
   rcases hq with rfl|rfl
   · exact⟨.inl An,by show _<(w.heap.push _).size;simp;omega⟩
   · exact⟨.inr (BU _),by show _<(w.heap.push _).size;simp⟩
 · intro i hi _
   exact Yc hi
def Anl {a:Array MapEntry}{b:Array Nat}{QP QO:List MapEntry}{e:MapEntry}(d:(a.toList.map (·.born)).Nodup)(hL:(leftOf a b).toList=QP++e::QO) :
  (leftOf a (b.push e.born)).toList=QP++QO:=by
 have e1:(leftOf a (b.push e.born)).toList=(leftOf a b).toList.filter λx=> !(x.born==e.born):=by
  simp only[leftOf,Array.toList_filter,eO]
  congr 1
  funext x
  rw[contains_push]
  cases b.contains x.born<;>cases hx:(x.born==e.born)<;>simp_all
 have hs:((QP++e::QO).map (·.born)).Nodup:=by
  rw[←hL]
  simp only[leftOf,Array.toList_filter]
  exact(xS _ xM).nodup d
 rw[e1,hL,Gl,Ky]
 simp only[DI,CW,Fm,Kv]at hs
 have k1:QP.filter (λx=> !(x.born==e.born))=QP:=xN.2 λx hx=>by
  have:=hs.2.2 x.born (CZ.2 ⟨x,hx,rfl⟩) e.born An
  simpa using this
 have k2:QO.filter (λx=> !(x.born==e.born))=QO:=xN.2 λx hx=>by
  have:x.born≠e.born:=λc=>hs.2.1.1 (CZ.2 ⟨x,hx,c⟩)
  simpa using this
 rw[k1,k2];simp
def yM {x:Operand}{b r:Nat}{m rem:List (κ×α)}{z:Option (κ×α)}{Es':List (κ×α)→Option (κ×α)→Am}
  (hx:AJ l x=some (AD r)) (ab:∀ah aa,Ei Es (Lh ek ev b r m rem z) (Lh ek ev b r m ah aa) (Es' ah aa))
  (ai:rem=[]→G (.tuple #[.bool false]) Es h) (g1:∀p k r2,rem=k++p::r2→G (.tuple #[.bool true,ek p.1,ev p.2]) (Es' (k++r2) (some p)) h) :
  Cd C l Es h ⟨dst,.next x false,ty,pos,aft,gd⟩ G:=λa w hs hp=>by
 obtain⟨a4,aw,av,a6⟩:=hp.own
 obtain⟨D,⟨a5,g,d,f,c,c0,j,ao,am,ad,hr,af,hsc,ag,o,a7⟩,al,a8,_⟩:=(ab rem z).own aw av
 have j:w.heap[b]?=some (.map g d):=j
 have hr:w.heap[r]?=some (.mapIter (some b) f c c0):=hr
 rcases run_next_at (P:=C.P) w ty r b f c0 c g d hr j af hsc with⟨h0,y⟩|⟨e,ac,s,u,y⟩
 · have au:rem=[]:=by
    have:(leftOf g c)=#[]:=Array.eq_empty_of_size_eq_zero h0
    rw[this]at o
    cases rem with
    |nil=>rfl
    |cons p q=>cases o
   exact .inl ⟨_,w,Es,h,by simp only[execOp,hs.eval hx,BK,y,B'];rfl,hp,ai au⟩
 · obtain⟨QP,QO,hL⟩:=eQ ac
   have an:=(mem_left ac).1
   rw[hL,DI,CW]at o
   obtain⟨k,a9,a0,ap,aq⟩:=Ayw.1 o.symm
   obtain⟨p,r2,rfl,ay,az⟩:=List.map_eq_cons_iff.1 aq
   subst a0
   have n:ek p.1=e.key∧ev p.2=e.val:=by injection ay with a2 a3;exact⟨a2,a3⟩
   have v:s.heap[r]?=some (.mapIter (some b) f c c0):=by rcases u with rfl|rfl<;>exact hr
   have ae:r≠b:=λt=>by rw[t,j]at hr;cases hr
   have ax:Bq C.w0 C.X0 C.h0 Es h s:=by rcases u with rfl|rfl;exact hp;exact hp.drew
   have a1:s.heap=w.heap:=by rcases u with rfl|rfl<;>rfl
   refine .inl ⟨.tuple #[.bool true,ek p.1,ev p.2],_,Es' (k++r2) (some p),h,by simp only[execOp,hs.eval hx,BK,y,B',n.1,n.2];rfl,?_,g1 p k r2 rfl⟩
   refine ax.repl (ab _ _) rfl rfl rfl (by simp[ChangeMaps.setBlock]) λD aj al ak=>?_
   obtain⟨rfl,_⟩:=aj
   have hb1:(ChangeMaps.setBlock s r (.mapIter (some b) f (c.push e.born) d)).heap[b]?=some (.map g d):=by
    have q:=(wU (o':=.mapIter (some b) f (c.push e.born) d) v).2 b (KX ae)
    exact q.trans (by rw[a1];exact j)
   refine⟨[b,r],⟨rfl,g,d,f,c.push e.born,d,hb1,ao,am,ad,(wU v).1,af,ag,ag,?_,?_⟩,by simpa using KX ae,λq hq=>⟨.inl hq,by have:=ak q hq;simpa[ChangeMaps.setBlock]using this⟩,λi hi ar=>?_⟩
   · rw[Anl ad hL,DI,DI,ap,az]
   · rintro q hq
     injection hq with hq
     subst hq
     exact⟨e,an,by rw[n.1,n.2],rfl,c,rfl⟩
   · exact(wU v).2 i (λt=>ar (by simp[t]))
def uH {x:Operand}{b r:Nat}{m rem:List (κ×α)}{p:κ×α}(hx:AJ l x=some (AD r)) :
  DN C l [Lh ek ev b r m rem (some p)] h ⟨dst,.entry x,ty,pos,aft,gd⟩ (.tuple #[ek p.1,ev p.2]):=
 ⟨rfl,λa w hs hn hm=>by
  obtain⟨D,t,c,q,o,ab,c0,d,v,u,j,hr,z,hsc,aa,y,f⟩:=hn _ (.head _)
  obtain⟨e,g,i,rfl,s,rfl⟩:=f p rfl
  injection i with k n
  have:=run_entry_at (P:=C.P) w r b o s c c0 e hr d g j
  simp only[execOp,hs.eval hx,BK,this,B',k,n]
  rfl⟩
end
def Bq.shrink {w0 w:World}{X0:BD}{h0 h h':U}{Es:Am}(H:Bq w0 X0 h0 Es h' w)(a:V h h')(f:V h0 h):Bq w0 X0 h0 Es h w:=
 ⟨H.os,H.tape,H.output,H.size,H.dr,H.old,a.trans H.ro,f,λi o e=>H.new i o (a i o e),by
  obtain⟨d,g,hn,c⟩:=H.own
  refine⟨d,g,hn,λb h1=>⟨?_,(c b h1).2⟩⟩
  cases e:h b with
  |none=>rfl
  |some o=>have:=a b o e;rw[(c b h1).1]at this;cases this⟩
def N' (v0:Value):Value→Am→U→Prop:=λu Es _=>u=v0∧Es=[]
def Aq (P:Program) (f:FuncId) (args:Dx) (h:U) (v:Value):Prop:=AP P f args [] h (N' v)
def Aur {P:Program}{ts:ER}(ok:FZ P ts){f:FuncId}{fn:Func}{c:Code}{args:Ao}{h0:U}{v:Value}
 (hf:P.funcs[f]?=some fn) (a:fn.body=some c) (hn:Nat.ble args.length fn.ntmps=true)
 (g:∀w0 X0,AI (PO P ts ok fn w0 X0 h0 (N' v)) [] (NH 0 args) [] h0 [.code c]):Aq P f args.toArray h0 v:=fA ok hf a hn g
section
variable {C:Bu} {ds:CL} {l:AW} {Es:Am} {h:U} {K:CB} {ops:Dm} {os:Hc} {G:Value→Am→U→Prop}
 {ty:TypeId} {pos:String} {aft:Cw} {gd:Cq} {dst:CK}
def Aw {xs:KI}{tys:Kf}{f:FuncId}{vs:Ao}{v:Value}
  (m:Il l xs.toList=some vs) (hh:BP C.P f) (hf:Aq C.P f vs.toArray h v) (g:G v Es h):Cd C l Es h ⟨dst,.call ⟨.value (.func f),xs,tys⟩,ty,pos,aft,gd⟩ G:=λa w hs hp=>by
 have:=Ww (C:=C) (l:=l) (Es:=Es) (h:=h) (d:=dst) (tys:=tys) (ty:=ty) (pos:=pos) (aft:=aft) (gd:=gd) (Fs:=Es) (G:=λb Es' h'=>b=v∧Es'=Es∧V h h') m (by rfl) hh hf
  (λb Es' h' k ⟨e1,e2⟩=>⟨e1,by rw[e2];rfl,k⟩) a w hs hp
 have fin:∀b c Es' h',Bq C.w0 C.X0 C.h0 Es' h' c→(b=v∧Es'=Es∧V h h')→Bq C.w0 C.X0 C.h0 Es h c∧G b Es h:=λb c Es' h' H ⟨e1,e2,j⟩=>by
  subst e1;subst e2;exact⟨H.shrink j hp.le,g⟩
 rcases this with⟨b,c,Es',h',hr,H,q⟩|⟨c,Es',h',hr,H,q⟩|⟨f,args,i,hr,hc⟩|⟨r,f,tmps,assign,body,i,n,hr,hc⟩
 · exact .inl ⟨b,c,Es,h,hr,fin _ _ _ _ H q⟩
 · exact .inr (.inl ⟨c,Es,h,hr,fin _ _ _ _ H q⟩)
 · exact .inr (.inr (.inl ⟨f,args,i,hr,hc.mono λ_ _ ⟨b,e,Es',h',H,q⟩=>⟨b,e,Es,h,fin _ _ _ _ H q⟩⟩))
 · exact .inr (.inr (.inr ⟨r,f,tmps,assign,body,i,n,hr,hc.mono λ_ _ ⟨b,e,Es',h',H,q⟩=>⟨b,e,Es,h,fin _ _ _ _ H q⟩⟩))
def Hb {c:Operand}{xs:KI}{tys:Kf}{f:FuncId}{fs cs vs:Ao}{v:Value}
  (hc:AJ l c=some (.func (.func f) fs.toArray cs.toArray)) (o:Il l xs.toList=some vs) (hh:BP C.P f) (hf:Aq C.P f (fs++vs++cs).toArray h v) (g:G v Es h):Cd C l Es h ⟨dst,.call ⟨.value c,xs,tys⟩,ty,pos,aft,gd⟩ G:=λa w hs hp=>by
 have:=LN (C:=C) (l:=l) (Es:=Es) (h:=h) (d:=dst) (tys:=tys) (ty:=ty) (pos:=pos) (aft:=aft) (gd:=gd) (Fs:=Es) (G:=λb Es' h'=>b=v∧Es'=Es∧V h h') hc o (by rfl) hh hf
  (λb Es' h' m ⟨e1,e2⟩=>⟨e1,by rw[e2];rfl,m⟩) a w hs hp
 have fin:∀b e Es' h',Bq C.w0 C.X0 C.h0 Es' h' e→(b=v∧Es'=Es∧V h h')→Bq C.w0 C.X0 C.h0 Es h e∧G b Es h:=λb e Es' h' H ⟨e1,e2,k⟩=>by
  subst e1;subst e2;exact⟨H.shrink k hp.le,g⟩
 rcases this with⟨b,e,Es',h',hr,H,q⟩|⟨e,Es',h',hr,H,q⟩|⟨f,args,j,hr,hc⟩|⟨r,f,tmps,assign,body,j,n,hr,hc⟩
 · exact .inl ⟨b,e,Es,h,hr,fin _ _ _ _ H q⟩
 · exact .inr (.inl ⟨e,Es,h,hr,fin _ _ _ _ H q⟩)
 · exact .inr (.inr (.inl ⟨f,args,j,hr,hc.mono λ_ _ ⟨b,i,Es',h',H,q⟩=>⟨b,i,Es,h,fin _ _ _ _ H q⟩⟩))
 · exact .inr (.inr (.inr ⟨r,f,tmps,assign,body,j,n,hr,hc.mono λ_ _ ⟨b,i,Es',h',H,q⟩=>⟨b,i,Es,h,fin _ _ _ _ H q⟩⟩))
def AE {a:Op}(hg:Fe ops l gd=some true)(b:GI C.N dst=true)(hx:LD a=false)
  (g:Cd C l Es h ⟨dst,a,ty,pos,aft,gd⟩ λv Es' h'=>Bz C ds (MA dst v l) Es' h' ops os K):Bz C ds l Es h ops (⟨dst,a,ty,pos,aft,gd⟩::os) K:=
 WH (o:=⟨dst,a,ty,pos,aft,gd⟩) hg b hx g
def LP {a:Op}{d:Tmp}{nd:Am}{v:Value}(hg:Fe ops l gd=some true)(b:GI C.N (some d)=true)(hv:DN C l nd h ⟨some d,a,ty,pos,aft,gd⟩ v)(c:Ji Es nd)
  (g:Bz C ds ((d,v)::l) Es h ops os K):Bz C ds l Es h ops (⟨some d,a,ty,pos,aft,gd⟩::os) K:=
 WH (o:=⟨some d,a,ty,pos,aft,gd⟩) hg b hv.1 (Awr hv c g)
def Z {a:Op}{d:Tmp}{nd:Am}{v:Value}(hv:DN C l nd h ⟨some d,a,ty,pos,aft,gd⟩ v)(g:Bz C ds ((d,v)::l) Es h ops os K)(hg:Fe ops l gd=some true:=by exact F)(b:GI C.N (some d)=true:=by exact F)(c:Ji Es nd:=by exact AX):Bz C ds l Es h ops (⟨some d,a,ty,pos,aft,gd⟩::os) K:=LP hg b hv c g
end
section
variable {C:Bu} {ds:CL} {l l0 l':AW} {Es:Am} {h:U} {K:CB} {os:Hc} {Vs:ES} {pl:IG}
 {d:Tmp} {ty:TypeId} {pos:String} {aft:Cw} {gd:Cq} {i:Nat}
def VU {t e:TypeId}{x:Operand}{b off:Nat}{cs:Ao}{T:Ay}{v:Value}(c:Iz i os=some ⟨some d,.load t x,ty,pos,aft,gd⟩)(hc:ML Vs i ⟨some d,.load t x,ty,pos,aft,gd⟩=true)
  (a:JI (GX os.toArray ⟨some d,.load t x,ty,pos,aft,gd⟩) (sl Vs l0)=some l')
  (hg:Fe os.toArray l' gd=some true) (hx:AJ l' x=some (.pointer (some ⟨b,off,none⟩))) (hm:Ap b e cs∈Es) (hT:AM t C.ts=some T) (hv:EC off T.size T.agg cs=some v)
  (g:BV pl C ds l0 (⟨i,some d,v,[Ap b e cs],true⟩::Vs) Es h os.toArray K):BV ((i,0)::pl) C ds l0 Vs Es h os.toArray K:=
 U' c hc a hg (BA hx (Aym hT hv)) ⟨hm,trivial⟩ g
def WI {t ty':TypeId}{x y:Operand}{p q:Int}{T:Ay}(c:Iz i os=some ⟨some d,.binOp .add t x y ty',ty,pos,aft,gd⟩)(hc:ML Vs i ⟨some d,.binOp .add t x y ty',ty,pos,aft,gd⟩=true)
 (b:JI (GX os.toArray ⟨some d,.binOp .add t x y ty',ty,pos,aft,gd⟩) (sl Vs l0)=some l') (hg:Fe os.toArray l' gd=some true)
 (hT:AM t C.ts=some T) (hx:AJ l' x=some (O p)) (hy:AJ l' y=some (O q)) (a : -9223372036854775808≤p+q∧p+q≤9223372036854775807)
 (g:BV pl C ds l0 (⟨i,some d,O (p+q),[],true⟩::Vs) Es h os.toArray K):BV ((i,0)::pl) C ds l0 Vs Es h os.toArray K:=U' (nd:=[]) c hc b hg (dH hT hx hy a) trivial g
def WJ {t ty':TypeId}{x y:Operand}{p q:Int}{T:Ay}(c:Iz i os=some ⟨some d,.binOp .sub t x y ty',ty,pos,aft,gd⟩)(hc:ML Vs i ⟨some d,.binOp .sub t x y ty',ty,pos,aft,gd⟩=true)
 (b:JI (GX os.toArray ⟨some d,.binOp .sub t x y ty',ty,pos,aft,gd⟩) (sl Vs l0)=some l') (hg:Fe os.toArray l' gd=some true)
 (hT:AM t C.ts=some T) (hx:AJ l' x=some (O p)) (hy:AJ l' y=some (O q)) (a : -9223372036854775808≤p-q∧p-q≤9223372036854775807)
 (g:BV pl C ds l0 (⟨i,some d,O (p-q),[],true⟩::Vs) Es h os.toArray K):BV ((i,0)::pl) C ds l0 Vs Es h os.toArray K:=U' (nd:=[]) c hc b hg (Awz hT hx hy a) trivial g
def Yv {fn:Func}{v0:Value}{rs:List ResultVar}{vs:Ao}(c:C.Q=HT C.P fn C.w0 C.X0 C.h0 (N' v0))(hr:fn.results=rs.toArray)(hv:NR C l Es h rs vs)(b:SF vs=v0) :
  AI C [] l Es h (.code .ret::K):=λa w s=>We (by
 rw[c]
 show LeavesInM _ _ _ _ _ _ a.defers _ _
 rw[s.defers]
 refine⟨_,WC hr s.slots s.hp hv,_,rfl,[],h,⟨b,rfl⟩,?_⟩
 have:∀{Es:Am},Bq C.w0 C.X0 C.h0 Es h w→Bq C.w0 C.X0 C.h0 [] h w:=by
  intro Es
  induction Es with
  |nil=>exact id
  |cons A Es d=>exactλH=>d (H.drop C'.here)
 exact this s.hp)
def BS {fn:Func}{v0 v:Value}{t:Nat}(b:C.Q=HT C.P fn C.w0 C.X0 C.h0 (N' v0))(hr:fn.results=#[.tmp t])(hv:CN t l=some v)(a:v=v0):AI C [] l Es h (.code .ret::K):=
 Yv (rs:=[.tmp t]) (vs:=[v]) b hr ⟨hv,trivial⟩ a
def Bm {fn:Func}{v0 v:Value}{t:Nat}(a:v=v0)(b:C.Q=HT C.P fn C.w0 C.X0 C.h0 (N' v0):=by exact F)(hr:fn.results=#[.tmp t]:=by exact F)(hv:CN t l=some v:=by exact F):AI C [] l Es h (.code .ret::K):=BS b hr hv a
def VS {fn:Func}{v0 v u:Value}{t s:Nat}(b:C.Q=HT C.P fn C.w0 C.X0 C.h0 (N' v0))(hr:fn.results=#[.tmp t,.tmp s])(hv:CN t l=some v)(c:CN s l=some u)(a : .tuple #[v,u]=v0):AI C [] l Es h (.code .ret::K):=
 Yv (rs:=[.tmp t,.tmp s]) (vs:=[v,u]) b hr ⟨hv,c,trivial⟩ a
def Ha {fn:Func}{v0 v:Value}{t T b off e:Nat}{cs:Ao}{Ay:Ay}(c:C.Q=HT C.P fn C.w0 C.X0 C.h0 (N' v0))(hr:fn.results=#[.cell t T])(d:CN t l=some (.pointer (some ⟨b,off,none⟩)))(hm:Ap b e cs∈Es)(hT:AM T C.ts=some Ay)
  (hv:EC off Ay.size Ay.agg cs=some v) (a:v=v0):AI C [] l Es h (.code .ret::K):=
 Yv (rs:=[.cell t T]) (vs:=[v]) c hr ⟨⟨_,d,JS hT hm hv⟩,trivial⟩ a
def Qi {fn:Func}{v0 v u:Value}{t T b off e s:Nat}{cs:Ao}{Ay:Ay}(c:C.Q=HT C.P fn C.w0 C.X0 C.h0 (N' v0))(hr:fn.results=#[.cell t T,.tmp s])(d:CN t l=some (.pointer (some ⟨b,off,none⟩)))(hm:Ap b e cs∈Es)(hT:AM T C.ts=some Ay)
  (hv:EC off Ay.size Ay.agg cs=some v) (f:CN s l=some u) (a : .tuple #[v,u]=v0):AI C [] l Es h (.code .ret::K):=
 Yv (rs:=[.cell t T,.tmp s]) (vs:=[v,u]) c hr ⟨⟨_,d,JS hT hm hv⟩,f,trivial⟩ a
end
def bS {C:Bu}{ds:CL}{l:AW}{Es:Am}{h:U}{K:CB}{c:Operand}{x y:Code}{t:Bool}(g:AI C ds l Es h (.code x::K))(hc:AJ l c=some (.bool t):=by exact F)(hp:t=true:=by simp only[Jf,reduceCtorEq]<;>fail):AI C ds l Es h (.code (.cond c x y)::K):=dD hc (λ_=>g) (λa=>by rw[hp]at a;cases a)
def bT {C:Bu}{ds:CL}{l:AW}{Es:Am}{h:U}{K:CB}{c:Operand}{x y:Code}{t:Bool}(g:AI C ds l Es h (.code y::K))(hc:AJ l c=some (.bool t):=by exact F)(hp:t=false:=by simp only[Jf,reduceCtorEq]<;>fail):AI C ds l Es h (.code (.cond c x y)::K):=dD hc (λa=>by rw[hp]at a;cases a) (λ_=>g)
def Awi {C:Bu}{ds:CL}{l:AW}{Es:Am}{h:U}{K:CB}{ops:Dm}{os:Hc}{o:Oper}{d:Nat}{b t:Bool}(g:Bz C ds ((d,.bool true)::l) Es h ops (o::os) K)(hg:Om ops o.guard=some (d,b):=by exact F)(hc:CN d l=some (.bool t):=by exact F)(hp:t=true:=by simp only[Jf,reduceCtorEq]<;>fail):Bz C ds l Es h ops (o::os) K:=gZ hg hc (λ_=>g) (λa=>by rw[hp]at a;cases a)
def Awj {C:Bu}{ds:CL}{l:AW}{Es:Am}{h:U}{K:CB}{ops:Dm}{os:Hc}{o:Oper}{d:Nat}{b t:Bool}(g:Bz C ds ((d,.bool false)::l) Es h ops (o::os) K)(hg:Om ops o.guard=some (d,b):=by exact F)(hc:CN d l=some (.bool t):=by exact F)(hp:t=false:=by simp only[Jf,reduceCtorEq]<;>fail):Bz C ds l Es h ops (o::os) K:=gZ hg hc (λa=>by rw[hp]at a;cases a) (λ_=>g)
def Y {C:Bu}{ds:CL}{l:AW}{Es:Am}{h:U}{K:CB}{c:Operand}{x y:Code}{t:Bool}{p q:Prop}(b:p→AI C ds l Es h (.code x::K))(hf:q→AI C ds l Es h (.code y::K))(hc:AJ l c=some (.bool t):=by exact F)(hp:t=true→p:=by intro hc;first|(simp only[Jf,reduceCtorEq]at hc;exact hc)|exact(show False from by simp only[Jf,reduceCtorEq]at hc)|exact hc|fail)(hq:t=false→q:=by intro hc;first|(simp only[Jf,reduceCtorEq]at hc;exact hc)|exact(show False from by simp only[Jf,reduceCtorEq]at hc)|exact hc|fail):AI C ds l Es h (.code (.cond c x y)::K):=dD hc (λa=>b (hp a)) (λa=>hf (hq a))
def bV {C:Bu}{ds:CL}{l:AW}{Es:Am}{h:U}{K:CB}(g:AI C ds l Es h K):AI C ds l Es h K:=g
def TO {C:Bu}{ds:CL}{l:AW}{Es:Am}{h:U}{K:CB}{ops:Dm}{os:Hc}(g:Bz C ds l Es h ops os K):Bz C ds l Es h ops os K:=g
def WT {pl:IG}{C:Bu}{ds:CL}{l:AW}{Vs:ES}{Es:Am}{h:U}{K:CB}{ops:Dm}(g:BV pl C ds l Vs Es h ops K):BV pl C ds l Vs Es h ops K:=g
def AG {C:Bu}{ds:CL}{l:AW}{Es:Am}{h:U}{K:CB}{ops:Dm}{os:Hc}{o:Oper}{d:Nat}{b t:Bool}{p q:Prop}(c:p→Bz C ds ((d,.bool true)::l) Es h ops (o::os) K)(hf:q→Bz C ds ((d,.bool false)::l) Es h ops (o::os) K)(hg:Om ops o.guard=some (d,b):=by exact F)(hc:CN d l=some (.bool t):=by exact F)(hp:t=true→p:=by intro hc;first|(simp only[Jf,reduceCtorEq]at hc;exact hc)|exact(show False from by simp only[Jf,reduceCtorEq]at hc)|exact hc|fail)(hq:t=false→q:=by intro hc;first|(simp only[Jf,reduceCtorEq]at hc;exact hc)|exact(show False from by simp only[Jf,reduceCtorEq]at hc)|exact hc|fail):Bz C ds l Es h ops (o::os) K:=gZ hg hc (λa=>c (hp a)) (λa=>hf (hq a))
def Ac {C:Bu}{ds:CL}{l:AW}{Es:Am}{h:U}{K:CB}{ops:Dm}{os:Hc}{dst:CK}{a:Op}{ty:TypeId}{pos:String}{aft:Cw}{gd:Cq}(g:Cd C l Es h ⟨dst,a,ty,pos,aft,gd⟩ λv Es' h'=>Bz C ds (MA dst v l) Es' h' ops os K)(hg:Fe ops l gd=some true:=by exact F)(b:GI C.N dst=true:=by exact F)(hx:LD a=false:=by exact F):Bz C ds l Es h ops (⟨dst,a,ty,pos,aft,gd⟩::os) K:=AE hg b hx g
end Go.Hw