import Derived.Test.YtlnenhhbalpbpaaGreatDoorEA
import Derived.Test.YtlnenhhbalpbpaaGreatDoorHD
import Derived.Test.YtlnenhhbalpbpaaGreatDoorMSh
set_option linter.all false
set_option maxRecDepth 100000
set_option maxHeartbeats 8000000
namespace Go.Hw
open Go
attribute [local irreducible] GO GOl GDp Val Fn Res Ab Du Blk Bd Cd Bf Has Yl
open Go.Proofs.Tryz (prog)
theorem ltOfF {h:Ro}(x y : {p:Fsh×Fct // FGd h p}):Go.Proofs.ltOf (fun (x y : {p:Fsh×Fct // FGd h p})=>Gp x.1.2 y.1.2) x y=decide (Gp x.1.2 y.1.2<0):=rfl
theorem FGd.tri {h:Ro}(x y : {p:Fsh×Fct // FGd h p}):LtF x.1.2 y.1.2∨x.1.2=y.1.2∨LtF y.1.2 x.1.2:=LtF.tri x.2.2.2 y.2.2.2 (by rw [x.2.1.void,y.2.1.void])
theorem cmpF_swo {h:Ro}:Go.Sort.SWO (Go.Proofs.ltOf fun (x y : {p:Fsh×Fct // FGd h p})=>Gp x.1.2 y.1.2) where
 irrefl x:=by rw [ltOfF,decide_eq_false_iff_not,Gw];exact LtF.irrefl _
 trans x y z h1 h2:=by rw [ltOfF,decide_eq_true_eq,Gw] at *;exact h1.trans h2
 ntrans x y z h1 h2:=by
  rw [ltOfF,decide_eq_false_iff_not,Gw] at *
  intro h3
  rcases FGd.tri x y with q|q|q
  · exact h1 q
  · rw [q] at h3;exact h2 h3
  · exact h2 (q.trans h3)
theorem Pq {α:Type}{P:α→Prop}(e:α→List Value):∀ (l:List {x:α // P x}),l.flatMap (fun a=>e a.1)=(l.map (·.1)).flatMap e
 | []=>rfl
 | x::r=>by rw [List.map_cons,List.flatMap_cons,List.flatMap_cons,Pq e r]
theorem Of {α:Type}{P:α→Prop}:∀ (l:List α) (h:∀ x∈l,P x),(l.attachWith P h).map (·.1)=l:=fun l h=>List.attachWith_map_subtype_val h
theorem sortF_c (h:Ro)(hG:Iv h)(v:Value)(xs:List (Fsh×Fct))(n:Nat)(hn:n≤1000000)(hx:xs.length=n)(hg:∀ p∈xs,FGd h p) :
  Fn prog 180 #[v,.func (.func 41) #[] #[]] [Bd 57 82 v n (xs.flatMap Aq)] h fun u Es _=>u=.tuple #[]∧∃ ys:List (Fsh×Fct),ys.Perm xs∧Lz (ys.map (·.2))∧Es=[Bd 57 82 v n (ys.flatMap Aq)]:=by
 have hN:∀ (p:Option Addr) (cap:Nat) (w:World),Calls prog 180 #[.slice p 0 cap,.func (.func 41) #[] #[]] w fun e w'=>e=.returned (.tuple #[])∧w'=w:=fun p cap w=>Go.Proofs.AnyF.slices_SortFunc_none Go.Proofs.Tryz.sortFacts p cap _ w
 haveI:Inhabited {p:Fsh×Fct // FGd h p∨True}:=⟨⟨p0,.inr trivial⟩⟩
 cases xs with
 | nil =>
   simp only [List.length_nil] at hx
   subst hx
   unfold Fn
   intro w X0 hl ⟨Ds,ho,hnd,hb⟩
   have H0:=Hp.start (w:=w) (X0:=X0) (h0:=h) hl ⟨Ds,ho,hnd,hb⟩
   obtain ⟨D,hD⟩:=H0.get (List.Mem.head _)
   obtain ⟨A,c,hvv⟩:=Rk hD
   subst hvv
   refine (hN A c w).mono ?_
   rintro e' w' ⟨rfl,rfl⟩
   exact ⟨_,rfl,_,h,⟨rfl,[],.refl _,by simp [Lz],rfl⟩,H0⟩
 | cons x r =>
   have hgx:=hg x List.mem_cons_self
   haveI:Inhabited {p:Fsh×Fct // FGd h p}:=⟨⟨x,hgx⟩⟩
   have hC:∀ (blk off cap:Nat) (d:Array {p:Fsh×Fct // FGd h p}) (w:World),Go.Proofs.CmpLays prog 41 #[] (fun a : {p:Fsh×Fct // FGd h p}=>Aq a.1) 82 (fun x y=>Gp x.1.2 y.1.2) blk off d.size w→Go.Sort.HoldsK (fun a : {p:Fsh×Fct // FGd h p}=>Aq a.1) 82 w blk off d→blk<w.heap.size→d.size<4611686018427387904 →
    Calls prog 180 #[.slice (some ⟨blk,off,none⟩) d.size cap,.func (.func 41) #[] #[]] w fun e w'=>e=.returned (.tuple #[])∧∃ d' n os,Go.Sort.PermIn 0 d.size d d'∧Go.Sort.SortedIn (Go.Proofs.ltOf fun (x y : {p:Fsh×Fct // FGd h p})=>Gp x.1.2 y.1.2) 0 d.size d'∧w'=Go.Proofs.sortWorldK (fun a : {p:Fsh×Fct // FGd h p}=>Aq a.1) 82 w blk off n d' os:=fun blk off cap d w hc hH hb hs =>
    Go.Proofs.AnyQ.slices_SortFunc Go.Proofs.Tryz.sortFacts 82 (fun w=>ts_ok.run_agg (n:=57) rfl w) (fun w=>ts_ok.run_size (n:=57) rfl w) (fun a : {p:Fsh×Fct // FGd h p}=>Aq a.1) (fun a=>Bc a.1) (fun a=>Kz a.1) (fun x y=>Gp x.1.2 y.1.2) cmpF_swo 41 #[] blk off cap d w (Go.Proofs.enters_of Go.Proofs.Tryz.func41 QBq rfl) hc hH hb hs
   have hcmp:∀ x y : {p:Fsh×Fct // FGd h p},Res prog 41 (#[.agg (Aq x.1).toArray,.agg (Aq y.1).toArray]++#[]) h fun u _=>u=.int .i64 (Gp x.1.2 y.1.2):=fun x y=>by
    rw [Array.append_empty]
    exact cmp_c h hG x.1 y.1 x.2 y.2
   have key:=F5a (α:={p:Fsh×Fct // FGd h p}) (P:=prog) (f:=180) (gf:=41) (cb:=#[]) (fun a=>Aq a.1) 82 (fun a=>Bc a.1) QAs (fun x y=>Gp x.1.2 y.1.2) h hC hN hcmp 57 v ((x::r).attachWith (FGd h) hg) n QAd (by rw [List.length_attachWith];exact hx)
   rw [Pq Aq,Of] at key
   refine key.mono ?_
   rintro u Es h' hle ⟨rfl,ys,hp,hso,rfl⟩
   refine ⟨rfl,ys.map (·.1),?_,?_,by rw [Pq Aq]⟩
   · rw [← Of (x::r) hg];exact hp.map _
   · unfold Lz
     refine List.pairwise_map.2 (List.pairwise_map.2 (hso.imp fun {a b} hab => ?_))
     rw [ltOfF,decide_eq_false_iff_not,Gw] at hab
     exact hab
theorem clone_c (h:Ro)(A:Option Addr)(n c:Nat)(l:List (Fsh×Fct))(hx:Ar Aq 82 h A n l)(hn:n≤1000000):Fn prog 179 #[.slice A n c] [] h fun u Es _=>Es=[Bd 57 82 u n (l.flatMap Aq)]:=by
 refine QXF Proofs.Tryz.func179 fun w0 X0=>?_
 have hxl:=hx.len
 refine Fg 57 82 ?_
 cases A with
 | none =>
   have hn0:n=0:=by
    rcases Nat.eq_zero_or_pos n with q|q
    · exact q
    · have:=hx.addrD q;cases this
   have hl0:l=[]:=List.eq_nil_of_length_eq_zero QAd
   subst hn0;subst hl0
   repeat' (first|refine QF ?_|(refine QH ?_ ?_<;>intro hc<;>try omega)|fail)
   · exact Bi rfl rfl rfl (List.Sublist.refl _) rfl
   · exfalso;simp at hc
 | some ad =>
   repeat' (first|refine QF ?_|(refine QG ?_;first|(refine QAj ?_;intro bo)|(apply Ap (enc:=Aq) (xs:=[]) (ys:=l);(iterate 7 exact J);exact hx;exact Bc;exact Kz;intro v1;exact QR;omega;exact J;intro A3 c3))|(refine QH ?_ ?_<;>intro hc<;>try omega)|fail)
   all_goals
    rw [List.nil_append,Nat.zero_add]
    exact Bi rfl rfl rfl (.cons_cons _ (List.nil_sublist _)) rfl
theorem addE (b m:Nat):(⟨b,0,none⟩:Addr).add m=⟨b,m,none⟩:=by rw [Ft,Nat.zero_add]
theorem addE2 (b k j:Nat):(⟨b,k * 82,none⟩:Addr).add (j * 82)=⟨b,(k+j) * 82,none⟩:=by rw [Ft,← Nat.add_mul]
theorem Vj {b c lo sz:Nat}(h:lo<c):Tj (some ⟨b,0,none⟩) c lo sz=some ⟨b,lo * sz,none⟩:=by
 unfold Tj
 rw [if_neg QAd,Option.map_some,Ft,Nat.zero_add]
theorem Yo (A:Option Addr)(c sz:Nat):Qh A c sz=A:=by
 unfold Qh
 split
 · rfl
 · cases A <;> simp [Addr.add]
abbrev Is:=Gg (α:=Fsh×Fct) (·.2)
theorem Rb {ys:List (Fsh×Fct)}{k:Nat}(h0:1≤k)(hk:k<ys.length){x y:Fsh×Fct}(hx:ys[k]? = some x)(hy:ys[k-1]? = some y):Is (ys.take (k+1))=Is (ys.take k)++(if Gp x.2 y.2=0 then [] else [x]):=by
 have hne:ys.take k≠[]:=fun e=>by
  have:=congrArg List.length e
  rw [List.length_take,List.length_nil] at this
  omega
 have e1:ys.take (k+1)=ys.take k++[x]:=by
  rw [List.take_add_one,hx];rfl
 have e2:(ys.take k).getLast hne=y:=by
  rw [List.getLast_eq_getElem]
  have:(ys.take k).length-1=k-1:=by rw [List.length_take];omega
  have h3:(ys.take k)[(ys.take k).length-1]? = some y:=by rw [this,List.getElem?_take,if_pos QAd];exact hy
  rw [List.getElem?_eq_getElem QFf] at h3
  exact Option.some.inj h3
 have:=Bua (p:=fun a:Fsh×Fct=>a.2) hne x
 rw [e2] at this
 rw [e1];exact this
theorem To {ys:List (Fsh×Fct)}(h:ys.length<2):Is ys=ys:=by
 cases ys with
 | nil=>rfl
 | cons x r =>
   cases r with
   | nil=>rfl
   | cons y r=>simp at h;omega
end Go.Hw
namespace Go.Hw
open Go
attribute [local irreducible] GO GOl GDp Val Fn Res Ab Du Blk Bd Cd Bf Has Yl
open Go.Proofs.Tryz (prog)
def ledV (A:Option Addr) (n c:Nat):Value:=.agg #[.slice A n c]
abbrev fcs (l:List (Fsh×Fct)):List Fct:=l.map (·.2)
end Go.Hw
namespace Go.Hw
open Go
structure LedIn (h:Ro) (A:Option Addr) (n c:Nat) (l:List (Fsh×Fct)):Prop where
 row:Ar Aq 82 h A n l
 fat:∀ p∈l,FAt h p.1 p.2∧FSm p.2
 cap:n≤c
 small:n≤9223372036854775807
end Go.Hw
namespace Go.Hw
open Go
attribute [local irreducible] GO GOl GDp Val Fn Res Ab Du Blk Bd Cd Bf Has Yl
open Go.Proofs.Tryz (prog)
def Fka (h:Ro) (v:Value) (L:List Fct):Prop:=∃ A k c l,v=ledV A k c∧k≤c∧Yb h A k l∧fcs l=L
theorem Fka.le {h h':Ro}{v:Value}{L:List Fct}(a:Fka h v L)(hl:Le h h'):Fka h' v L:=by
 obtain ⟨A,k,c,l,e1,e2,e3,e4⟩:=a
 exact ⟨A,k,c,l,e1,e2,e3.le hl,e4⟩
theorem Fka.nil (h:Ro):Fka h (ledV none 0 0) []:=⟨none,0,0,[],rfl,Nat.le_refl _,Yb.nil h,rfl⟩
end Go.Hw
