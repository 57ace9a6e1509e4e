import Derived.Test.YtgbamiehiokacaaGreatDoorFD
set_option linter.all false
namespace Go.Hw
open Go Go.Lib
theorem Pj {α:Type}:∀ {a b:List α},a.Nodup→b.Nodup→(∀ x,x∈a↔x∈b)→a.Perm b
 | [],b,_,_,h=>by
   cases b with
   | nil=>exact .nil
   | cons y r=>exact absurd ((h y).2 List.mem_cons_self) (by simp)
 | x::a,b,ha,hb,h=>by
   obtain ⟨p,q,rfl⟩:=List.append_of_mem ((h x).1 List.mem_cons_self)
   rw [List.nodup_cons] at ha
   have hb2:(x::(p++q)).Nodup:=(List.perm_middle (a:=x) (l₁:=p) (l₂:=q)).nodup_iff.1 hb
   rw [List.nodup_cons] at hb2
   refine (List.Perm.cons x (Pj ha.2 hb2.2 fun y => ?_)).trans List.perm_middle.symm
   have:=h y
   rw [List.mem_cons,List.mem_append,List.mem_cons] at this
   rw [List.mem_append]
   constructor
   · intro hy
     rcases this.1 (.inr hy) with w|w|w
     · exact .inl w
     · subst w;exact absurd hy ha.1
     · exact .inr w
   · intro hy
     have hy2:y∈p∨y=x∨y∈q:=hy.elim .inl fun w=>.inr (.inr w)
     rcases this.2 hy2 with w|w
     · subst w;exact absurd (List.mem_append.2 hy) hb2.1
     · exact w
theorem IsDec.perm {L:List Fct}{s c:Int}{ds xs:List FScore}(h:IsDec L s c ds)(hn:xs.Nodup)(hx:∀ x,x∈xs↔∃ g:FGame,g.s=s∧g.c=c∧scoreF L g=x∧x.kind=2):xs.Perm ds :=
 Pj hn (h.1.imp fun {a b} hab e=>by subst e;exact LtS.irrefl _ hab) fun x=>(hx x).trans (h.2 x).symm
theorem offL_len {L:List Fct}(h32:In32 L)(g:FGame):(offL L g).1.length≤40∧(offL L g).2.length≤40:=by
 unfold offL
 split
 · rename_i hk
   obtain ⟨f,m,ok,k,e,eg,d⟩:=Cu h32 hk
   have:=ok.2.2.1
   unfold ContOk at this
   rw [if_neg (by omega),if_neg (by omega),if_pos k,e] at this
   have h1:=this.2.2.2.2.2.1.1
   have h2:=this.2.2.2.2.2.2.1.1
   exact ⟨Nat.le_trans (Jl _ _ _ _ _ _) h1,Nat.le_trans (Jl _ _ _ _ _ _) h2⟩
 · exact ⟨Nat.zero_le _,Nat.zero_le _⟩
end Go.Hw
