import Derived.Test.YtlnenhhbalpbpabGreatDoorFE
import Derived.Test.YtlnenhhbalpbpabGreatDoorFD
import Derived.Test.YtlnenhhbalpbpabGreatDoorGA
import Derived.Test.YtlnenhhbalpbpabGreatDoorHB
import Derived.Test.YtlnenhhbalpbpabGreatDoorFA
set_option linter.all false
namespace Go.Hw
open Go Go.Lib
theorem ofF_ruled {L:List Fct}{g:Bl}(hg:Fd g){r:Iz}{d:Int}(h:Hk (Da L) g=(r,d,true)):ofF L g=Dra g r d:=by
 unfold ofF
 rw [if_pos hg,h];rfl
theorem Lya {L:List Fct}{g:Bl}(hg:Fd g)(h:(Hk (Da L) g).2.2=false):ofF L g=Jq L g:=by
 unfold ofF
 rw [if_pos hg,h];rfl
open Classical in
theorem openK_at (L:List Fct)(s c:Int)(hs aa:List Int){i k:Nat}(hi:i<hs.length)(hk:k<aa.length) :
  G0a L s c hs aa=(G0a L s c (hs.take i) aa++D9a L s c (hs.getD i 0) (aa.take k))++((if isOpen L s c (hs.getD i 0) (aa.getD k 0) then [⟨s,c,hs.getD i 0,aa.getD k 0⟩] else [])++(D9a L s c (hs.getD i 0) (aa.drop (k+1))++G0a L s c (hs.drop (i+1)) aa)):=by
 have e1:hs=hs.take i++(hs.getD i 0::hs.drop (i+1)):=by
  conv=>lhs;rw [← List.take_append_drop i hs,List.drop_eq_getElem_cons hi]
  rw [List.getD_eq_getElem?_getD,List.getElem?_eq_getElem hi,Option.getD_some]
 have e2:aa=aa.take k++(aa.getD k 0::aa.drop (k+1)):=by
  conv=>lhs;rw [← List.take_append_drop k aa,List.drop_eq_getElem_cons hk]
  rw [List.getD_eq_getElem?_getD,List.getElem?_eq_getElem hk,Option.getD_some]
 have e3:∀ h,D9a L s c h aa=D9a L s c h (aa.take k)++((if isOpen L s c h (aa.getD k 0) then [⟨s,c,h,aa.getD k 0⟩] else [])++D9a L s c h (aa.drop (k+1))):=fun h=>by
  conv=>lhs;rw [e2]
  unfold D9a
  rw [List.flatMap_append,List.flatMap_cons]
 conv=>lhs;rw [e1]
 have e4:G0a L s c (hs.take i++(hs.getD i 0::hs.drop (i+1))) aa=G0a L s c (hs.take i) aa++(D9a L s c (hs.getD i 0) aa++G0a L s c (hs.drop (i+1)) aa):=by
  unfold G0a
  rw [List.flatMap_append,List.flatMap_cons]
 rw [e4,e3]
 simp only [List.append_assoc]
end Go.Hw
namespace Go.Hw
open Go Go.Lib
def gR:Bl:=⟨0,0,1,2⟩
structure LisR (L:List Fct):Prop where
 in32:Kd L
 sheets:∀ x∈L,x.kind=3→x.sh.g=gR
 moves:∀ x∈L,x.kind≠6
end Go.Hw
namespace Go.Hw
open Go
theorem mentS_pre (s c:Int)(o:List Bl)(f:Fct):∃ r,Bpa s c o f=o++r:=by
 unfold Bpa
 split
 · exact ⟨_,rfl⟩
 · exact ⟨[],(List.append_nil _).symm⟩
theorem mentL_pre (A B:List Fct)(s c:Int):∃ r,He (A++B) s c=He A s c++r:=by
 unfold He
 rw [List.foldl_append]
 generalize A.foldl (Bpa s c) []=o
 induction B generalizing o with
 | nil=>exact ⟨[],(List.append_nil _).symm⟩
 | cons f r ih =>
   rw [List.foldl_cons]
   obtain ⟨r1,e1⟩:=mentS_pre s c o f
   obtain ⟨r2,e2⟩:=ih (Bpa s c o f)
   exact ⟨r1++r2,by rw [e2,e1,List.append_assoc]⟩
def L0a (o:List Bl):List (Bl×Bool):=o.map fun g=>(g,true)
theorem Efa (g:Bl):∀ o:List Bl,(Cv g (L0a o)).getD false=decide (g∈o)
 | []=>by simp [L0a,Cv]
 | x::r=>by
   have ih:=Efa g r
   unfold L0a at ih ⊢
   rw [List.map_cons]
   unfold Cv
   by_cases h:x=g
   · rw [if_pos h];subst h;simp
   · rw [if_neg h,ih]
     rw [decide_eq_decide,List.mem_cons]
     exact ⟨.inr,fun w=>w.resolve_left (fun e=>h e.symm)⟩
theorem Jra {g:Bl}:∀ {o:List Bl},g ∉ o→Jo g true (L0a o)=L0a (o++[g])
 | [],_=>rfl
 | x::r,h=>by
   have ih:=Jra (g:=g) (o:=r) (fun w=>h (List.mem_cons_of_mem _ w))
   unfold L0a at ih ⊢
   rw [List.cons_append,List.map_cons,List.map_cons]
   unfold Jo
   rw [if_neg (fun e=>h (by rw [← e];exact List.mem_cons_self)),ih]
open Classical in
theorem entL_snoc (L:List Fct)(s c:Int)(f:Fct):entL (L++[f]) s c=if Iwa s c f then entL L s c++[f] else entL L s c:=by
 unfold entL
 rw [List.filter_append]
 by_cases q:Iwa s c f <;> simp [q]
open Classical in
theorem entF_snoc (L:List Fct)(s c:Int)(f:Fct):J6a (L++[f]) s c=if Iwa s c f then Qn (J6a L s c) f else J6a L s c:=by
 unfold J6a
 rw [entL_snoc]
 split
 · rw [List.foldl_append];rfl
 · rfl
def LastI (l:List (Fsh×Fct)) (o:Option Fct) (z:Fsh×Fct) (ok:Bool):Prop:=(o=none∧z=(Nv,Jp)∧ok=false)∨(o=some z.2∧z∈l∧Cg z.2∧ok=true)
theorem ent_clubs {f:Fct}(h:Cg f)(hk:f.kind=1):f.eClubs.length≤24∧Cva f.eClubs:=by
 have:=h.2.2.1
 unfold Fb at this
 rw [if_pos hk] at this
 exact ⟨this.2.2.1.2.1,this.2.2.2.1⟩
end Go.Hw
namespace Go.Hw
open Go Go.Lib
end Go.Hw
namespace Go.Hw
end Go.Hw
