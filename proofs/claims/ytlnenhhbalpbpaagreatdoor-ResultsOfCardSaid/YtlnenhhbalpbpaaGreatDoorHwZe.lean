import Derived.Test.YtlnenhhbalpbpaaGreatDoorHC
import Derived.Test.YtlnenhhbalpbpaaGreatDoorHB
set_option linter.all false
namespace Go.Hw
open Go
theorem F0a (s:List UInt8)(lo hi:Nat):(str s).extract lo hi=str ((s.take hi).drop lo):=by
 apply ByteArray.ext
 rw [ByteArray.data_extract]
 unfold str
 simp [List.extract_toArray,List.take_drop]
 by_cases h:lo≤hi
 · rw [show lo+(hi-lo)=hi by omega]
 · rw [List.drop_eq_nil_of_le QFf,List.drop_eq_nil_of_le QFf]
section
variable {C:Ctx} {l:Sl} {h:Ro} {ty:TypeId} {pos:String} {aft:Array Edge} {gd:Option (Nat×Bool)} {dst:Option Tmp}
theorem L9a {t:TypeId}{x y z:Operand}{k k':IntKind}{i j:Int}{lo hi:Nat}{s:List UInt8}{T:Ty}(hT:By t C.ts=some T)(hTd:T.desc=.string)(hx:evl l x=some (.string (str s)))(hy:evl l y=some (.int k i))(hz:evl l z=some (.int k' j))
  (hi1:i=(lo:Int)) (hj1:j=(hi:Int)) (hlo:lo≤hi) (hhi:hi≤s.length):OV C l [] h ⟨dst,.slice t x (some y) (some z) none,ty,pos,aft,gd⟩ (.string (str ((s.take hi).drop lo))) :=
 ⟨rfl,fun a w hsl _ _=>by
  obtain ⟨D0,hu,hb0⟩:=C.ok.und hT
  rw [hTd] at hb0
  rw [Et hb0] at hu
  have e1:a.eval x=.string (str s):=hsl.eval hx
  have e2:a.eval y=.int k i:=hsl.eval hy
  have e3:a.eval z=.int k' j:=hsl.eval hz
  have b1:=Fq (P:=C.P) (w:=w) (k:=k') (code:=.sliceAlen) hj1 (show hi≤(str s).size from hhi)
  have b2:=Fq (P:=C.P) (w:=w) (k:=k) (code:=.sliceB) hi1 hlo
  simp only [execOp,Instr.sliceAt,Sem.run_bind,run_underlying hu,Result.andThen_ok,Instr.slice,e1,e2,e3,Option.map_some,Option.map_none,Instr.sliceBounds,Sem.run_pure,b1,b2,Bool.false_eq_true,if_false,Option.isSome_none,F0a]⟩
end
section
variable {C:Ctx} {ds:List Deferred} {l:Sl} {Es:List Asn} {h:Ro} {ops:Array Oper} {os:List Oper} {K:List Item}
theorem u64_in {p:Int}(hb:0≤p∧p≤18446744073709551615):IntKind.u64.wrap p=p:=by simp [IntKind.wrap,IntKind.bits,IntKind.signed];omega
theorem Fma {t ty':TypeId}{x y:Operand}{u:Nat}{d:Tmp}{ty:TypeId}{pos:String}{aft:Array Edge}{gd:Option (Nat×Bool)}{T:Ty}
  (hT:By t C.ts=some T) (hx:evl l x=some (.int .u64 (u:Int))) (hy:evl l y=some (.int .u64 10))
  (hg:Ci ops l gd=some true) (hd:Jk C.N (some d)=true) (g:GOl C ds ((d,(.int .u64 ((u % 10:Nat):Int)))::l) Es h ops os K):GOl C ds l Es h ops (⟨some d,.binOp .rem t x y ty',ty,pos,aft,gd⟩::os) K :=
 Xm hT hx hy (by
  simp only [Sb,if_true]
  rw [if_neg QAd,Int.tmod_eq_emod_of_nonneg QAd];rfl) hg hd g
theorem GOl_quo10 {t ty':TypeId}{x y:Operand}{u:Nat}{d:Tmp}{ty:TypeId}{pos:String}{aft:Array Edge}{gd:Option (Nat×Bool)}{T:Ty}
  (hT:By t C.ts=some T) (hx:evl l x=some (.int .u64 (u:Int))) (hy:evl l y=some (.int .u64 10)) (hb:u≤18446744073709551615)
  (hg:Ci ops l gd=some true) (hd:Jk C.N (some d)=true) (g:GOl C ds ((d,(.int .u64 ((u / 10:Nat):Int)))::l) Es h ops os K):GOl C ds l Es h ops (⟨some d,.binOp .quo t x y ty',ty,pos,aft,gd⟩::os) K :=
 Xm hT hx hy (by
  simp only [Sb,if_true]
  rw [if_neg QAd,Int.tdiv_eq_ediv_of_nonneg QAd,u64_in QAd];rfl) hg hd g
theorem Cga {t ty':TypeId}{x y:Operand}{p q:Int}{d:Tmp}{ty:TypeId}{pos:String}{aft:Array Edge}{gd:Option (Nat×Bool)}{T:Ty}
  (hT:By t C.ts=some T) (hx:evl l x=some (.int .u64 p)) (hy:evl l y=some (.int .u64 q)) (hb:0≤p+q∧p+q≤18446744073709551615)
  (hg:Ci ops l gd=some true) (hd:Jk C.N (some d)=true) (g:GOl C ds ((d,(.int .u64 (p+q)))::l) Es h ops os K):GOl C ds l Es h ops (⟨some d,.binOp .add t x y ty',ty,pos,aft,gd⟩::os) K :=
 Xm hT hx hy (by simp [Sb,u64_in hb]) hg hd g
theorem GOl_neg {t ty:TypeId}{x:Operand}{p:Int}{d:Tmp}{pos:String}{aft:Array Edge}{gd:Option (Nat×Bool)}(hx:evl l x=some (.int .i64 p))(hb : -9223372036854775808≤0-p∧0-p≤9223372036854775807)
  (hg:Ci ops l gd=some true) (hd:Jk C.N (some d)=true) (g:GOl C ds ((d,(.int .i64 (0-p)))::l) Es h ops os K):GOl C ds l Es h ops (⟨some d,.unOp .neg t x,ty,pos,aft,gd⟩::os) K :=
 Rq (by simp only [pv,hx,pvUn,Wf _ hb]) hg hd g
end
end Go.Hw
