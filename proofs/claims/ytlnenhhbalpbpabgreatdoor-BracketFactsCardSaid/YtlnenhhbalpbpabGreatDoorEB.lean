import Derived.Test.YtlnenhhbalpbpabGreatDoorEA
import Derived.Test.YtlnenhhbalpbpabGreatDoorHD
import Derived.Test.YtlnenhhbalpbpabGreatDoorLSh
set_option linter.all false
set_option maxRecDepth 100000
set_option maxHeartbeats 8000000
namespace Go.Hw
open Go
attribute [local irreducible] GO GOl GDp Val Fn Res At Fx Blk By Dk Cl Has Yl
open Go.Proofs (Tryz.prog)
theorem ltOfF {h:Ro}(x y : {p:Fsh×Fct // FGd h p}):Go.Proofs.ltOf (fun (x y : {p:Fsh×Fct // FGd h p})=>Jv x.1.2 y.1.2) x y=decide (Jv x.1.2 y.1.2<0):=rfl
theorem FGd.tri {h:Ro}(x y : {p:Fsh×Fct // FGd h p}):LtF x.1.2 y.1.2∨x.1.2=y.1.2∨LtF y.1.2 x.1.2:=LtF.tri x.2.2.2 y.2.2.2 (by rw [x.2.1.void,y.2.1.void])
theorem cmpF_swo {h:Ro}:Go.Sort.SWO (Go.Proofs.ltOf fun (x y : {p:Fsh×Fct // FGd h p})=>Jv x.1.2 y.1.2) where
 irrefl x:=by rw [ltOfF,decide_eq_false_iff_not,It];exact LtF.irrefl _
 trans x y z h1 h2:=by rw [ltOfF,decide_eq_true_eq,It] at *;exact h1.trans h2
 ntrans x y z h1 h2:=by
  rw [ltOfF,decide_eq_false_iff_not,It] at *
  intro h3
  rcases FGd.tri x y with q|q|q
  · exact h1 q
  · rw [q] at h3;exact h2 h3
  · exact h2 (q.trans h3)
theorem Ra {α:Type}{P:α→Prop}(e:α→List Value):∀ (l:List {x:α // P x}),l.flatMap (fun a=>e a.1)=(l.map (·.1)).flatMap e
 | []=>rfl
 | x::r=>by rw [List.map_cons,List.flatMap_cons,List.flatMap_cons,Ra e r]
theorem Pn {α:Type}{P:α→Prop}:∀ (l:List α) (h:∀ x∈l,P x),(l.attachWith P h).map (·.1)=l:=fun l h=>List.attachWith_map_subtype_val h
theorem sortF_c (h:Ro)(hG:Kg h)(v:Value)(xs:List (Fsh×Fct))(n:Nat)(hn:n≤1000000)(hx:xs.length=n)(hg:∀ p∈xs,FGd h p) :
  Fn Tryz.prog 200 #[v,.func (.func 47) #[] #[]] [By 57 82 v n (xs.flatMap Bx)] h fun u Es _=>u=.tuple #[]∧∃ ys:List (Fsh×Fct),ys.Perm xs∧Nh (ys.map (·.2))∧Es=[By 57 82 v n (ys.flatMap Bx)]:=by
 have hN:∀ (p:Option Addr) (cap:Nat) (w:World),Calls Tryz.prog 200 #[.slice p 0 cap,.func (.func 47) #[] #[]] w fun e w'=>e=.returned (.tuple #[])∧w'=w:=fun p cap w=>Go.Proofs.AnyF.slices_SortFunc_none Go.Proofs.Tryz.sortFacts p cap _ w
 haveI:Inhabited {p:Fsh×Fct // FGd h p∨True}:=⟨⟨p0,.inr trivial⟩⟩
 cases xs with
 | nil =>
   simp only [List.length_nil] at hx
   subst hx
   unfold Fn
   intro w X0 hl ⟨Ds,ho,hnd,hb⟩
   have H0:=Hp.start (w:=w) (X0:=X0) (h0:=h) hl ⟨Ds,ho,hnd,hb⟩
   obtain ⟨D,hD⟩:=H0.get (List.Mem.head _)
   obtain ⟨A,c,hvv⟩:=Ou hD
   subst hvv
   refine (hN A c w).mono ?_
   rintro e' w' ⟨rfl,rfl⟩
   exact ⟨_,rfl,_,h,⟨rfl,[],.refl _,by simp [Nh],rfl⟩,H0⟩
 | cons x r =>
   have hgx:=hg x List.mem_cons_self
   haveI:Inhabited {p:Fsh×Fct // FGd h p}:=⟨⟨x,hgx⟩⟩
   have hC:∀ (blk off cap:Nat) (d:Array {p:Fsh×Fct // FGd h p}) (w:World),Go.Proofs.CmpLays Tryz.prog 47 #[] (fun a : {p:Fsh×Fct // FGd h p}=>Bx a.1) 82 (fun x y=>Jv x.1.2 y.1.2) blk off d.size w→Go.Sort.HoldsK (fun a : {p:Fsh×Fct // FGd h p}=>Bx a.1) 82 w blk off d→blk<w.heap.size→d.size<4611686018427387904 →
    Calls Tryz.prog 200 #[.slice (some ⟨blk,off,none⟩) d.size cap,.func (.func 47) #[] #[]] w fun e w'=>e=.returned (.tuple #[])∧∃ d' n os,Go.Sort.PermIn 0 d.size d d'∧Go.Sort.SortedIn (Go.Proofs.ltOf fun (x y : {p:Fsh×Fct // FGd h p})=>Jv x.1.2 y.1.2) 0 d.size d'∧w'=Go.Proofs.sortWorldK (fun a : {p:Fsh×Fct // FGd h p}=>Bx a.1) 82 w blk off n d' os:=fun blk off cap d w hc hH hb hs =>
    Go.Proofs.AnyQ.slices_SortFunc Go.Proofs.Tryz.sortFacts 82 (fun w=>ts_ok.run_agg (n:=57) rfl w) (fun w=>ts_ok.run_size (n:=57) rfl w) (fun a : {p:Fsh×Fct // FGd h p}=>Bx a.1) (fun a=>Bv a.1) (fun a=>Ft a.1) (fun x y=>Jv x.1.2 y.1.2) cmpF_swo 47 #[] blk off cap d w (Go.Proofs.enters_of Go.Proofs.Tryz.func47 (by kernel_rfl) rfl) hc hH hb hs
   have hcmp:∀ x y : {p:Fsh×Fct // FGd h p},Res Tryz.prog 47 (#[.agg (Bx x.1).toArray,.agg (Bx y.1).toArray]++#[]) h fun u _=>u=.int .i64 (Jv x.1.2 y.1.2):=fun x y=>by
    rw [Array.append_empty]
    exact cmp_c h hG x.1 y.1 x.2 y.2
   have key:=Bba (α:={p:Fsh×Fct // FGd h p}) (P:=Tryz.prog) (f:=200) (gf:=47) (cb:=#[]) (fun a=>Bx a.1) 82 (fun a=>Bv a.1) (by decide) (fun x y=>Jv x.1.2 y.1.2) h hC hN hcmp 57 v ((x::r).attachWith (FGd h) hg) n (by omega) (by rw [List.length_attachWith];exact hx)
   rw [Ra Bx,Pn] at key
   refine key.mono ?_
   rintro u Es h' hle ⟨rfl,ys,hp,hso,rfl⟩
   refine ⟨rfl,ys.map (·.1),?_,?_,by rw [Ra Bx]⟩
   · rw [← Pn (x::r) hg];exact hp.map _
   · unfold Nh
     refine List.pairwise_map.2 (List.pairwise_map.2 (hso.imp fun {a b} hab => ?_))
     rw [ltOfF,decide_eq_false_iff_not,It] at hab
     exact hab
theorem clone_c (h:Ro)(A:Option Addr)(n c:Nat)(l:List (Fsh×Fct))(hx:Cc Bx 82 h A n l)(hn:n≤1000000):Fn Tryz.prog 199 #[.slice A n c] [] h fun u Es _=>Es=[By 57 82 u n (l.flatMap Bx)]:=by
 refine Bo (args:=[_]) ts_ok Go.Proofs.Tryz.func199 rfl rfl fun w0 X0 => ?_
 have hxl:=hx.len
 refine Eh 57 82 ?_
 cases A with
 | none =>
   have hn0:n=0:=by
    rcases Nat.eq_zero_or_pos n with q|q
    · exact q
    · have:=hx.addrD q;cases this
   have hl0:l=[]:=List.eq_nil_of_length_eq_zero (by omega)
   subst hn0;subst hl0
   repeat' (first|apply Ac|apply Au|apply Aa|apply Ab|(apply Ad;(iterate 3 exact J))|(apply Aj;exact J;all_goals (intro hc;try simp only [hcS,reduceCtorEq] at hc;try (exfalso;omega))))
   · exact Ca rfl rfl rfl (List.Sublist.refl _) rfl
   · exfalso;simp at hc
 | some ad =>
   repeat' (first|apply Ac|apply Au|apply Aa|apply Ab|(apply Ad;(iterate 3 exact J))|(apply Af;(iterate 3 exact J);(first|(apply Cz (n:=0);(iterate 3 exact J);exact List.cons_ne_nil _ _;(iterate 6 exact J);intro bo;skip)|(apply Bk (enc:=Bx) (xs:=[]) (ys:=l);(iterate 7 exact J);exact hx;exact Bv;exact Ft;intro v1;exact QR;omega;exact J;intro A3 c3;skip)))|(apply Aj;exact J;all_goals (intro hc;try simp only [hcS,reduceCtorEq] at hc;try (exfalso;omega))))
   all_goals
    rw [List.nil_append,Nat.zero_add]
    exact Ca rfl rfl rfl (.cons_cons _ (List.nil_sublist _)) rfl
theorem addE (b m:Nat):(⟨b,0,none⟩:Addr).add m=⟨b,m,none⟩:=by rw [Fu,Nat.zero_add]
theorem addE2 (b k j:Nat):(⟨b,k * 82,none⟩:Addr).add (j * 82)=⟨b,(k+j) * 82,none⟩:=by rw [Fu,← Nat.add_mul]
theorem Wn {b c lo sz:Nat}(h:lo<c):Nn (some ⟨b,0,none⟩) c lo sz=some ⟨b,lo * sz,none⟩:=by
 unfold Nn
 rw [if_neg (by omega),Option.map_some,Fu,Nat.zero_add]
theorem Zu (A:Option Addr)(c sz:Nat):Nm A c sz=A:=by
 unfold Nm
 split
 · rfl
 · cases A <;> simp [Addr.add]
abbrev Ka:=Ht (α:=Fsh×Fct) (·.2)
theorem Sj {ys:List (Fsh×Fct)}{k:Nat}(h0:1≤k)(hk:k<ys.length){x y:Fsh×Fct}(hx:ys[k]? = some x)(hy:ys[k-1]? = some y):Ka (ys.take (k+1))=Ka (ys.take k)++(if Jv x.2 y.2=0 then [] else [x]):=by
 have hne:ys.take k≠[]:=fun e=>by
  have:=congrArg List.length e
  rw [List.length_take,List.length_nil] at this
  omega
 have e1:ys.take (k+1)=ys.take k++[x]:=by
  rw [List.take_add_one,hx];rfl
 have e2:(ys.take k).getLast hne=y:=by
  rw [List.getLast_eq_getElem]
  have:(ys.take k).length-1=k-1:=by rw [List.length_take];omega
  have h3:(ys.take k)[(ys.take k).length-1]? = some y:=by rw [this,List.getElem?_take,if_pos (by omega)];exact hy
  rw [List.getElem?_eq_getElem (by rw [List.length_take];omega)] at h3
  exact Option.some.inj h3
 have:=Cda (p:=fun a:Fsh×Fct=>a.2) hne x
 rw [e2] at this
 rw [e1];exact this
theorem Ut {ys:List (Fsh×Fct)}(h:ys.length<2):Ka ys=ys:=by
 cases ys with
 | nil=>rfl
 | cons x r =>
   cases r with
   | nil=>rfl
   | cons y r=>simp at h;omega
end Go.Hw
namespace Go.Hw
open Go
attribute [local irreducible] GO GOl GDp Val Fn Res At Fx Blk By Dk Cl Has Yl
open Go.Proofs (Tryz.prog)
abbrev fcs (l:List (Fsh×Fct)):List Fct:=l.map (·.2)
end Go.Hw
namespace Go.Hw
open Go
structure LedIn (h:Ro) (A:Option Addr) (n c:Nat) (l:List (Fsh×Fct)):Prop where
 row:Cc Bx 82 h A n l
 fat:∀ p∈l,FAt h p.1 p.2∧FSm p.2
 cap:n≤c
 small:n≤9223372036854775807
end Go.Hw
