import Derived.Test.YtbmffdagfjepgaaGreatDoorFA
set_option linter.all false
namespace Go.Hw
open Go Go.Lib
section
variable {α:Type} (p:α→Al)
variable {p}
variable (p)
def Jm:α→List α→List α
 |_,[]=>[]
 |x,y::r=>if CO (p y) (p x)=0 then Jm y r else y::Jm y r
def LL:List α→List α
 |[]=>[]
 |x::r=>x::Jm p x r
variable {p}
theorem Acc (y:α):∀(r:List α) (x:α),Jm p x (r++[y])=Jm p x r++(if CO (p y) (p ((x::r).getLast (by simp)))=0 then[]else[y])
 |[],x=>rfl
 |z::r,x=>by have a:=Acc y r z;rw[FW,Jm,Jm,a];have e:(x::z::r).getLast (by simp)=(z::r).getLast (by simp):=List.getLast_cons (by simp);rw[e];split<;>rfl
def A0f {l:List α}(a:l≠[])(y:α):LL p (l++[y])=LL p l++(if CO (p y) (p (l.getLast a))=0 then[]else[y]):=by cases l with|nil=>exact absurd rfl a|cons x r=>rw[FW,LL,LL,Acc];rfl
theorem zD:∀(r:List α) (x:α),(Jm p x r).length≤r.length
 |[],x=>BU _
 |y::r,x=>by have:=zD r y;unfold Jm;split<;>simp<;>omega
def Azq (l:List α):(LL p l).length≤l.length:=by cases l with|nil=>exact BU _|cons x r=>have:=zD (p:=p) r x;simp[LL];omega
theorem hS:∀(r:List α) (x:α),(Jm p x r).Sublist r
 |[],x=>.slnil
 |y::r,x=>by unfold Jm;split;{exact(hS r y).cons _};{exact(hS r y).cons_cons _}
def Azr (l:List α):(LL p l).Sublist l:=by cases l with|nil=>exact .slnil|cons x r=>exact(hS r x).cons_cons _
def Qj (l:Ax):Prop:=l.Pairwise λa b=>¬Fa b a
theorem zE (f:Al):∀(r:List α) (x:α),(∀z∈x::r,Iu (p z))→(f∈(x::Jm p x r).map p↔f∈(x::r).map p)
 |[],x,_=>Yu
 |y::r,x,h=>by have a:=zE f r y λz b=>h z (Ey _ b);have hx:=h x DX;have hy:=h y (by simp);unfold Jm;split;{rename_i c;have e:=(Wm hy.1 hx.1 (by rw[hx.2,hy.2])).1 c;simp only[CW,Bx]at a ⊢;rw[←a,e];grind};{simp only[CW,Bx]at a ⊢;rw[←a]}
theorem nG:∀(r:List α) (x:α),(∀z∈x::r,Iu (p z))→Qj ((x::r).map p)→Gn ((x::Jm p x r).map p)
 |[],x,_,_=>by simp[Gn,Jm]
 |y::r,x,h,hs=>by
  have hx:=h x DX;have hy:=h y (by simp);have h2:=λz b=>h z (Ey _ b);unfold Qj at hs;simp only[CW,FD]at hs;have a:=nG r y h2 (by unfold Qj;simp only[CW,FD];exact hs.2);unfold Jm;split;{rename_i c;have e:=(Wm hy.1 hx.1 (by rw[hx.2,hy.2])).1 c;simp only[CW]at a ⊢;rw[←e];exact a}
  ·rename_i c
   have d:Fa (p x) (p y):=by
    rcases Fa.tri hx.1 hy.1 (by rw[hx.2,hy.2])with q|q|q;{exact q};{exact absurd ((Wm hy.1 hx.1 (by rw[hx.2,hy.2])).2 q.symm) c};{exact absurd q (hs.1 _ DX)}
   unfold Gn at a ⊢;simp only[CW]at a ⊢;rw[FD];refine⟨λz b=>?_,a⟩;rw[FD]at a;rcases Bx.1 b with q|q;{subst q;exact d};{exact d.trans (a.1 z q)}
def A02 {l ys:List α}(hp:ys.Perm l)(h:∀z∈l,Iu (p z))(hs:Qj (ys.map p)):(LL p ys).map p=BR (l.map p):=by have hy:∀z∈ys,Iu (p z):=λz a=>h z (hp.mem_iff.1 a);(obtain⟨c1,c2⟩:=Ip (l.map p) λf hf=>by obtain⟨x,h1,rfl⟩:=CZ.1 hf;exact(h x h1).2);(have key:Gn ((LL p ys).map p)∧∀f,f∈(LL p ys).map p↔f∈ys.map p:=by{cases ys with|nil=>exact⟨by simp[LL,Gn],λf=>Yu⟩|cons x r=>exact⟨nG r x hy hs,λf=>zE f r x hy⟩});refine Ws key.1 c1 λf=>?_;rw[key.2,c2,(hp.map p).mem_iff];constructor;{intro hf;refine⟨hf,?_⟩;obtain⟨x,h1,rfl⟩:=CZ.1 hf;exact(h x h1).1};{exactλh=>h.1}
end
open Classical in
noncomputable def VB (l:Ax):Int:=if 65536<l.length then 2 else if∃f∈l,¬BT f then 70 else if Gn l then 0 else 80
open Classical in
noncomputable def An1 (l:Ax) (k:Int):Ax:=l.filter λf=>decide (f.known≤k)
def Auq (I:Al→Bj) (l:Ax) (known:Int) (f:Al):Prop:=∃v∈l,v.kind=8∧v.known≤known∧v.void=I f
def Aaa (I:Al→Bj) (l:Ax) (day known:Int) (f:Al):Prop:=f.known≤known∧f.kind≠8∧f.day≤day∧¬Auq I l known f
open Classical in
noncomputable def Ae1 (I:Al→Bj) (l:Ax) (day known:Int):Ax:=l.filter λf=>decide (Aaa I l day known f)
def A0a {l:Ax}(h:Gn l)(q:Al→Bool):Gn (l.filter q):=Yo q h
def Aze {l:Ax}(h:Gn l):l.Nodup:=by unfold Gn at h;refine h.imp λ{a b} c e=>?_;subst e;exact Fa.irrefl _ c
theorem TI {α:Type}:∀{a b:List α},a.Nodup→(∀x∈a,x∈b)→a.length≤b.length
 |[],b,_,_=>GT _
 |x::a,b,hn,hs=>by
  rw[Kv]at hn;obtain⟨p,q,rfl⟩:=eQ (hs x DX)
  have:=TI (a:=a) (b:=p++q) hn.2 λy hy=>by
   have h1:=hs y (Ey _ hy);rw[AO,Bx]at h1;rw[AO];rcases h1 with h|h|h;{exact .inl h};{subst h;exact absurd hy hn.1};{exact .inr h}
  simp only[Bt,Do]at this ⊢;omega
def D' (l:Ax):Prop:=∀f∈l,f.void.length=32
def Sk {l:Ax}(a:D' l):(BR l).length≤l.length:=by obtain⟨c1,c2⟩:=Ip l a;exact TI (Aze c1) λx hx=>((c2 x).1 hx).1
end Go.Hw