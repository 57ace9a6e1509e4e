import Derived.Test.YtlnenhhbalpbpaaGreatDoorHwZe
import Derived.Test.YtlnenhhbalpbpaaGreatDoorHB
import Derived.Test.YtlnenhhbalpbpaaGreatDoorHwUs
import Derived.Test.YtlnenhhbalpbpaaGreatDoorHC
set_option linter.all false
namespace Go.Hw
open Go
abbrev B64:=BitVec 64
section
variable {C:Ctx} {l:Sl} {h:Ro} {ty:TypeId} {pos:String} {aft:Array Edge} {gd:Option (Nat×Bool)} {dst:Option Tmp} {t ty':TypeId} {x y:Operand} {a b:B64} {T:Ty}
end
section
variable {C:Ctx} {l:Sl} {h:Ro} {ty:TypeId} {pos:String} {aft:Array Edge} {gd:Option (Nat×Bool)} {dst:Option Tmp} {s t:TypeId} {x:Operand} {S:Ty} {sz by':Nat} {z:Value}
end
end Go.Hw
namespace Go.Hw
open Go
theorem tk_all:∀ (cs:List Value),tk cs.length cs=some cs
 | []=>rfl
 | x::r=>by
   have:=tk_all r
   simp only [List.length_cons,tk,this]
theorem A4a:∀ (o:Nat) (v:Value) (cs:List Value),o<cs.length→Gea o [v] cs=some (cs.set o v)
 | _,v,[],h=>absurd h QAn
 | 0,v,x::r,_=>by
   have:Gea 0 [] r=some r:=by unfold Gea;cases r <;> exact tk_all _
   simp only [Gea,this,List.set_cons_zero]
 | o+1,v,x::r,h=>by
   have:=A4a o v r (by simpa using h)
   simp only [Gea,this,List.set_cons_succ]
theorem Eja {α:Type}{enc:α→List Value}{sz:Nat}(hl:∀ x,(enc x).length=sz):∀ (xs:List α) (k j:Nat) (x:α) (u:Value),xs[k]? = some x→(enc x)[j]? = some u→(xs.flatMap enc)[k * sz+j]? = some u
 | [],k,j,x,u,h,_=>by simp at h
 | y::r,0,j,x,u,h,hu=>by
   rw [List.getElem?_cons_zero,Option.some.injEq] at h
   subst h
   have hj:=(List.getElem?_eq_some_iff.1 hu).1
   rw [Nat.zero_mul,Nat.zero_add,List.flatMap_cons,List.getElem?_append_left hj];exact hu
 | y::r,k+1,j,x,u,h,hu=>by
   rw [List.getElem?_cons_succ] at h
   have:=Eja hl r k j x u h hu
   rw [List.flatMap_cons,List.getElem?_append_right (by rw [hl,Nat.succ_mul];omega),hl,Nat.succ_mul,show k * sz+sz+j-sz=k * sz+j by omega]
   exact this
theorem Eia {α:Type}{enc:α→List Value}{sz:Nat}(hl:∀ x,(enc x).length=sz):∀ (xs:List α) (k:Nat) (x:α),k<xs.length→(xs.set k x).flatMap enc=(xs.flatMap enc).take (k * sz)++enc x++(xs.flatMap enc).drop (k * sz+sz)
 | [],k,x,h=>by simp at h
 | y::r,0,x,h=>by
   simp only [List.set_cons_zero,List.flatMap_cons,Nat.zero_mul,List.take_zero,List.nil_append,Nat.zero_add]
   rw [List.drop_left' (hl y)]
 | y::r,k+1,x,h=>by
   have ih:=Eia hl r k x (by simpa using h)
   have h1:(enc y).length=sz:=hl y
   simp only [List.set_cons_succ,List.flatMap_cons,ih]
   have t1:=List.take_length_add_append (l₁:=enc y) (l₂:=r.flatMap enc) (k * sz)
   have t2:=List.drop_length_add_append (l₁:=enc y) (l₂:=r.flatMap enc) (k * sz+sz)
   rw [h1] at t1 t2
   rw [show (k+1) * sz=sz+k * sz by rw [Nat.succ_mul];omega,show sz+k * sz+sz=sz+(k * sz+sz) by omega,t1,t2]
   simp only [List.append_assoc]
section
variable {C:Ctx} {ds:List Deferred} {l:Sl} {Es:List Asn} {h:Ro} {K:List Item} {G:Value→List Asn→Ro→Prop} {ty:TypeId} {pos:String} {aft:Array Edge} {gd:Option (Nat×Bool)} {dst:Option Tmp} {d:Tmp}
theorem Lv_own {T:TypeId}{t:Ty}{e sz b off n c:Nat}{cs vs:List Value}{v:Value}(hT:By T C.ts=some t)(hv:Da 0 t.size t.agg vs=some v)(hc:∀ j u,vs[j]? = some u→cs[off+j]? = some u) :
  Lv C [Bd e sz (.slice (some ⟨b,0,none⟩) n c) n cs] h T ⟨b,off,none⟩ v :=
 Cca hT hv fun w hn hm j u hj=>by
  obtain ⟨D,hl,hr⟩:=hn _ (.head _)
  rcases hr with ⟨h0,_⟩|⟨g',cap,cur,h2,h3,h4,h5,h6,h7,h8⟩
  · cases h0
  · injection h2 with h2 _ h23
    injection h2 with h2;injection h2 with h2
    subst h2
    have hb':w.heap[b]? = some (.cells cur e (0,0)):=h4
    have h9:=hc j u hj
    rw [← h8,List.getElem?_take] at h9
    split at h9
    · rw [Ft]
      simp only [World.cell?,hb']
      simpa using h9
    · cases h9
theorem Tz {α:Type}{enc:α→List Value}{t e sz:Nat}{x:Operand}{b off k n c:Nat}{xs:List α}{ad:Addr}{y:α}{v:Value}{T:Ty}(hT:By t C.ts=some T)(hx:evl l x=some (.pointer (some ad)))(had:ad=⟨b,k * sz,none⟩)(hl:∀ x,(enc x).length=sz)
  (hy:xs[k]? = some y) (hv:Da 0 T.size T.agg (enc y)=some v):OV C l [Bd e sz (.slice (some ⟨b,0,none⟩) n c) n (xs.flatMap enc)] h ⟨dst,.load t x,ty,pos,aft,gd⟩ v:=by
 subst had
 exact Aw hx (Lv_own hT hv fun j u hj=>Eja hl xs k j y u hy hj)
theorem J3a {α:Type}{enc:α→List Value}{t e sz:Nat}{x y:Operand}{b k n c:Nat}{v:Value}{xs:List α}{ad:Addr}{z:α}{Es':List Asn}{T:Ty}
  (hT:By t C.ts=some T) (hx:evl l x=some (.pointer (some ad))) (had:ad=⟨b,k * sz,none⟩) (hy:evl l y=some v) (hl:∀ x,(enc x).length=sz) (hp:Bz v=enc z)
  (hR:Lx Es (Bd e sz (.slice (some ⟨b,0,none⟩) n c) n (xs.flatMap enc)) (Bd e sz (.slice (some ⟨b,0,none⟩) n c) n ((xs.set k z).flatMap enc)) Es') (hk:k<xs.length)
  (hs:T.size=sz) (h1:Nc (Bz v)=true) (g:G undef Es' h):Fw C l Es h ⟨none,.store t x y,ty,pos,aft,gd⟩ G:=by
 subst had
 have hfl:=Cc hl xs
 have h2:(Bz v).length=sz:=by rw [hp];exact hl z
 refine Xd hT hx hy hR ?_ ?_ ?_ h1 g
 · rw [h2,hp];exact Eia hl xs k z hk
 · rw [h2,hfl]
   have:(k+1) * sz≤xs.length * sz:=Nat.mul_le_mul_right _ hk
   rw [Nat.succ_mul] at this;exact this
 · rw [h2,hs];simp
theorem Cka {e sz:Nat}{v:Value}{n:Nat}{xs:List Value}(hm:Bd e sz v n xs∈Es)(h0:0<n)(g:∀ b c,n≤c→v=.slice (some ⟨b,0,none⟩) n c→GO C ds l Es h K):GO C ds l Es h K:=fun a w s=>by
 obtain ⟨D,h1,hr⟩:=s.hp.get hm
 rcases hr with ⟨h2,h3,_⟩|⟨b,cap,cur,h2,_,_,h4,_⟩
 · omega
 · exact g b cap h4 h2 a w s
theorem J2a {e sz b n c m:Nat}{xs:List Value}(hm:m≤n){D:List Nat}{q:Ro}(H:(Bd e sz (.slice (some ⟨b,0,none⟩) n c) n xs).holds D q):(Bd e sz (.slice (some ⟨b,0,none⟩) m c) m (xs.take (m * sz))).holds D q:=by
 obtain ⟨hl,hr⟩:=H
 have hms:m * sz≤n * sz:=Nat.mul_le_mul_right _ hm
 refine ⟨by rw [List.length_take];omega,?_⟩
 rcases hr with ⟨h0,_⟩|⟨g',cap,cur,h2,h3,h4,h5,h6,h7,h8⟩
 · cases h0
 · injection h2 with h2 h22 h23
   injection h2 with h2;injection h2 with h2
   subst h2;subst h23
   exact .inr ⟨b,c,cur,rfl,h3,h4,by omega,h6,h7,by rw [← h8,List.take_take,Nat.min_eq_left hms]⟩
end
end Go.Hw
namespace Go.Hw
open Go
theorem Hp.rowSet {w0:World}{X0:List Nat}{h0 h:Ro}{Es Es':List Asn}{w:World}{e sz b off n c:Nat}{xs ys vs:List Value}(hp:Hp w0 X0 h0 Es h w)(hR:Lx Es (Bd e sz (.slice (some ⟨b,0,none⟩) n c) n xs) (Bd e sz (.slice (some ⟨b,0,none⟩) n c) n ys) Es')
  (hys:ys=xs.take off++vs++xs.drop (off+vs.length)) (hoff:off+vs.length≤xs.length) :
  ∃ cur:Array Value,w.heap[b]? = some (.cells cur e (0,0))∧off+vs.length≤cur.size∧Hp w0 X0 h0 Es' h (w.setRow b (cur.toList.take off++vs++cur.toList.drop (off+vs.length)).toArray):=by
 obtain ⟨Ds,hown,hnod,hbd⟩:=hp.own
 obtain ⟨D,hA,hDn,hsub,_⟩:=hR.own hown hnod
 obtain ⟨hxl,hr⟩:=hA
 rcases hr with ⟨h0,_⟩|⟨g',cap,cur,h2,h3,h4,h5,h6,h7,h8⟩
 · cases h0
 · injection h2 with h2 _ h23
   injection h2 with h2;injection h2 with h2
   subst h2;subst h23
   have hb':w.heap[b]? = some (.cells cur e (0,0)):=h4
   have hcl:n * sz≤cur.size:=by rw [h7];exact Nat.mul_le_mul_right _ h5
   refine ⟨cur,hb',by omega,?_⟩
   refine hp.repl hR rfl rfl rfl (by simp [World.setRow]) fun D2 hA2 hDn2 hDl2 => ?_
   have hD2:D2=[b]:=by
    rcases hA2.2 with ⟨q,_⟩|⟨g2,_,_,q1,q2,_⟩
    · cases q
    · injection q1 with q1 _ _;injection q1 with q1;injection q1 with q1;rw [q2,q1]
   subst hD2
   refine ⟨[b],⟨?_,.inr ⟨b,c,_,rfl,rfl,setRow_heap w b cur _ e (0,0) hb',h5,h6,?_,?_⟩⟩,by simp,fun q hq=>⟨.inl hq,by have:=hDl2 q hq;simpa [World.setRow] using this⟩,fun i hi hni => ?_⟩
   · rw [hys,← hxl];simp only [List.length_append,List.length_take,List.length_drop];omega
   · simp only [List.size_toArray,List.length_append,List.length_take,List.length_drop,Array.length_toList]
     rw [← h7];omega
   · rw [hys,← h8]
     apply List.ext_getElem?
     intro j
     rw [List.getElem?_take]
     have hL1:(cur.toList.take off).length=off:=by rw [List.length_take,Array.length_toList];omega
     have hL2:((cur.toList.take (n * sz)).take off).length=off:=by rw [List.length_take,List.length_take,Array.length_toList];omega
     by_cases hj:j<n * sz
     · rw [if_pos hj]
       by_cases hj1:j<off
       · rw [List.append_assoc,List.append_assoc,List.getElem?_append_left QAd,List.getElem?_append_left QAd,List.getElem?_take,List.getElem?_take,List.getElem?_take,if_pos hj1,if_pos hj1,if_pos hj]
       · have ap:∀ (p r:List Value),p.length=off→(p++r)[j]? = r[j-off]?:=fun p r hp=>by rw [List.getElem?_append_right QAd,hp]
         rw [List.append_assoc,List.append_assoc,ap _ _ hL1,ap _ _ hL2]
         by_cases hj2:j-off<vs.length
         · rw [List.getElem?_append_left hj2,List.getElem?_append_left hj2]
         · have ap2:∀ (r:List Value),(vs++r)[j-off]? = r[j-off-vs.length]?:=fun r=>List.getElem?_append_right QAd
           rw [ap2,ap2,List.getElem?_drop,List.getElem?_drop,List.getElem?_take,if_pos QAd]
     · rw [if_neg hj,List.getElem?_eq_none]
       simp only [List.length_append,List.length_take,List.length_drop,Array.length_toList]
       omega
   · have:i≠b:=fun e=>hni QFv
     exact setRow_other w b i _ this
section
variable {C:Ctx} {l:Sl} {Es:List Asn} {h:Ro} {G:Value→List Asn→Ro→Prop} {ty:TypeId} {pos:String} {aft:Array Edge} {gd:Option (Nat×Bool)} {dst:Option Tmp} {d:Tmp}
theorem Xf {α:Type}{enc:α→List Value}{t e:TypeId}{x:Operand}{b k m n c c':Nat}{xs:List α}{ad:Addr}{T E:Ty}{Es':List Asn}(hT:By t C.ts=some T)(hTd:T.desc=.slice e)(hE:By e C.ts=some E)
  (hz:Bz E.zero≠[]) (hzl:(Bz E.zero).length=E.size) (h1:Nc (Bz E.zero)=true) (hx:evl l x=some (.slice (some ad) m c')) (had:ad=⟨b,k * E.size,none⟩) (hl:∀ x,(enc x).length=E.size)
  (hkm:k+m=n) (hm:0<m) (hxl:xs.length=n)
  (hR:Lx Es (Bd e E.size (.slice (some ⟨b,0,none⟩) n c) n (xs.flatMap enc)) (Bd e E.size (.slice (some ⟨b,0,none⟩) k c) k ((xs.take k).flatMap enc)) Es') (g:G (.tuple #[]) Es' h) :
  Fw C l Es h ⟨dst,.call ⟨.builtin .clear,#[x],#[t]⟩,ty,pos,aft,gd⟩ G:=by
 intro a w hs hp
 subst had
 obtain ⟨D0,hu,hb0⟩:=C.ok.und hT
 rw [hTd] at hb0
 rw [Bu hb0] at hu
 have hfl:=Cc hl xs
 have hrl:(repl (Bz E.zero) m).length=m * E.size:=by rw [Vn,← hzl];simp
 have hone:∀ v∈repl (Bz E.zero) m,v.oneCell'=true:=by
  intro v hv
  rw [Vn,List.mem_flatten] at hv
  obtain ⟨q,hq1,hq2⟩:=hv
  rw [(List.mem_replicate.1 hq1).2] at hq2
  exact Bh h1 v hq2
 have hkn:k * E.size+m * E.size=xs.length * E.size:=by rw [hxl,← hkm,Nat.add_mul]
 have key:∃ ys,ys=(xs.flatMap enc).take (k * E.size)++repl (Bz E.zero) m++(xs.flatMap enc).drop (k * E.size+(repl (Bz E.zero) m).length):=⟨_,rfl⟩
 obtain ⟨ys,hys⟩:=key
 obtain ⟨p,q,hE1,hE2⟩:=hR
 have hR1:Lx Es (Bd e E.size (.slice (some ⟨b,0,none⟩) n c) n (xs.flatMap enc)) (Bd e E.size (.slice (some ⟨b,0,none⟩) n c) n ys) (p++Bd e E.size (.slice (some ⟨b,0,none⟩) n c) n ys::q):=⟨p,q,hE1,rfl⟩
 obtain ⟨cur,hb,hfit,H⟩:=hp.rowSet hR1 hys (by rw [hrl,hfl,hkn];exact Nat.le_refl _)
 have hR2:Lx (p++Bd e E.size (.slice (some ⟨b,0,none⟩) n c) n ys::q) (Bd e E.size (.slice (some ⟨b,0,none⟩) n c) n ys) (Bd e E.size (.slice (some ⟨b,0,none⟩) k c) k ((xs.take k).flatMap enc)) Es':=⟨p,q,rfl,hE2⟩
 have hytk:ys.take (k * E.size)=(xs.take k).flatMap enc:=by
  have h2:((xs.flatMap enc).take (k * E.size)).length=k * E.size:=by rw [List.length_take,hfl];omega
  rw [hys,List.append_assoc,List.take_append_of_le_length QAd,List.take_take,Nat.min_self]
  have h3:xs.flatMap enc=(xs.take k).flatMap enc++(xs.drop k).flatMap enc:=by rw [← List.flatMap_append,List.take_append_drop]
  rw [h3,List.take_left' (by rw [Cc hl,List.length_take];congr 1;omega)]
 have H2:=H.asn hR2 fun D m hD=>by
  have:=J2a (m:=k) QAd hD
  rwa [hytk] at this
 have hst:=run_storeCells_at (P:=C.P) b (k * E.size) e (repl (Bz E.zero) m) 0 cur w hb (by simpa using hfit) hone
 rw [Nat.add_zero] at hst
 refine .inl ⟨.tuple #[],_,Es',h,?_,H2,g⟩
 have hrun:(Builtin.clear_ #[t] ty #[.slice (some ⟨b,k * E.size,none⟩) m c']).run C.P w=.ok (.tuple #[]) (w.setRow b (cur.toList.take (k * E.size)++repl (Bz E.zero) m++cur.toList.drop (k * E.size+(repl (Bz E.zero) m).length)).toArray):=by
  obtain ⟨m',rfl⟩:∃ m',m=m'+1:=⟨m-1,by omega⟩
  have hzz:(Builtin.zeroCells (Bz E.zero).toArray (m'+1)).toList=repl (Bz E.zero) (m'+1):=by
   have hzr:=H2a (Bz E.zero) (m'+1) hz
   rw [← Vn] at hzr
   show (Array.map _ _).toList=_
   exact congrArg Array.toList hzr
  simp only [Builtin.clear_,Sem.run_bind,run_underlying hu,Result.andThen_ok,C.ok.run_zero hE,Hr,hzz,hst,Sem.run_pure,List.getElem?_toArray,List.getElem?_cons_zero]
 simp only [execOp,resolve,invoke,builtin,Sem.run_bind,Sem.run_pure,Result.andThen_ok,List.map_toArray,List.map_cons,List.map_nil,hs.eval hx,hrun]
end
end Go.Hw
namespace Go.Hw
open Go
section
variable {C:Ctx} {ds:List Deferred} {l:Sl} {Es:List Asn} {h:Ro} {K:List Item} {G:Value→List Asn→Ro→Prop} {ty:TypeId} {pos:String} {aft:Array Edge} {gd:Option (Nat×Bool)} {d:Tmp} {dst:Option Tmp}
end
end Go.Hw
namespace Go.Hw
open Go
def rotl (x:B64) (n:Nat):B64:=(x <<< n) ||| (x >>> (64-n))
def xyT:Nat→Nat×Nat
 | 0=>(1,0)
 | t+1=>((xyT t).2,(2 * (xyT t).1+3 * (xyT t).2) % 5)
def turnT:Nat→List Nat
 | 0=>List.replicate 25 0
 | t+1=>(turnT t).set (5 * (xyT t).2+(xyT t).1) ((t+1) * (t+2) / 2 % 64)
def Ioa:Nat→List Nat
 | 0=>List.replicate 25 0
 | i+1=>(Ioa i).set i (5 * ((2 * (i % 5)+3 * (i / 5)) % 5)+i / 5)
def sNext (s:Nat):Nat:=if 2 * s > 255 then (2 * s) ^^^ 369 else 2 * s
def sT:Nat→Nat
 | 0=>1
 | n+1=>sNext (sT n)
def kAcc (i:Nat):Nat→B64
 | 0=>0
 | j+1=>kAcc i j ||| (BitVec.ofNat 64 (sT (7 * i+j) % 2) <<< (2 ^ j-1))
def kT:Nat→List B64
 | 0=>List.replicate 24 0
 | i+1=>(kT i).set i (kAcc i 7)
@[simp] theorem turnT_len:∀ t,(turnT t).length=25
 | 0=>rfl
 | t+1=>by rw [turnT,List.length_set,turnT_len t]
@[simp] theorem Kwa:∀ t,(Ioa t).length=25
 | 0=>rfl
 | t+1=>by rw [Ioa,List.length_set,Kwa t]
@[simp] theorem kT_len:∀ t,(kT t).length=24
 | 0=>rfl
 | t+1=>by rw [kT,List.length_set,kT_len t]
def placeL:List Nat:=Ioa 25
def turnL:List Nat:=turnT 24
def dgK:List B64:=kT 24
def colS (l:List B64):Nat→List B64
 | 0=>List.replicate 5 0
 | n+1=>(colS l n).set (n % 5) ((colS l n).getD (n % 5) 0 ^^^ l.getD n 0)
def rhoS (l c:List B64):Nat→List B64
 | 0=>List.replicate 25 0
 | n+1=>(rhoS l c n).set (placeL.getD n 0) (rotl (l.getD n 0 ^^^ (c.getD ((n % 5+4) % 5) 0 ^^^ rotl (c.getD ((n % 5+1) % 5) 0) 1)) (turnL.getD n 0))
def chiS (b l:List B64):Nat→List B64
 | 0=>l
 | n+1=>(chiS b l n).set n (b.getD n 0 ^^^ (~~~ (b.getD (n-n % 5+(n % 5+1) % 5) 0) &&& b.getD (n-n % 5+(n % 5+2) % 5) 0))
def Iia (l:List B64) (k:B64):List B64 :=
 let m:=chiS (rhoS l (colS l 25) 25) l 25
 m.set 0 (m.getD 0 0 ^^^ k)
def permS (l:List B64):Nat→List B64
 | 0=>l
 | i+1=>Iia (permS l i) (dgK.getD i 0)
@[simp] theorem colS_len (l:List B64):∀ n,(colS l n).length=5
 | 0=>rfl
 | n+1=>by rw [colS,List.length_set,colS_len l n]
@[simp] theorem rhoS_len (l c:List B64):∀ n,(rhoS l c n).length=25
 | 0=>rfl
 | n+1=>by rw [rhoS,List.length_set,rhoS_len l c n]
@[simp] theorem chiS_len (b l:List B64):∀ n,(chiS b l n).length=l.length
 | 0=>rfl
 | n+1=>by rw [chiS,List.length_set,chiS_len b l n]
@[simp] theorem Kra (l:List B64) (k:B64):(Iia l k).length=l.length:=by unfold Iia;simp
@[simp] theorem Dka (l:List B64):∀ n,(permS l n).length=l.length
 | 0=>rfl
 | n+1=>by rw [permS,Kra,Dka l n]
def absS (l:List B64) (p:List UInt8):Nat→List B64
 | 0=>l
 | i+1=>(absS l p i).set (i / 8) ((absS l p i).getD (i / 8) 0 ^^^ (BitVec.ofNat 64 (p.getD i 0).toNat <<< (8 * (i % 8))))
@[simp] theorem J1a (l:List B64) (p:List UInt8):∀ n,(absS l p n).length=l.length
 | 0=>rfl
 | n+1=>by rw [absS,List.length_set,J1a l p n]
def blkS (p:List UInt8):Nat→List B64
 | 0=>List.replicate 25 0
 | n+1=>permS (absS (blkS p n) (p.drop (136 * n)) 136) 24
@[simp] theorem blkS_len (p:List UInt8):∀ n,(blkS p n).length=25
 | 0=>rfl
 | n+1=>by rw [blkS,Dka,J1a,blkS_len p n]
def endS (n:Nat):List UInt8 :=
 let z:=(List.replicate (136-n % 136) (0:UInt8)).set 0 6
 z.set (136-n % 136-1) (z.getD (136-n % 136-1) 0 ^^^ 128)
@[simp] theorem endS_len (n:Nat):(endS n).length=136-n % 136:=by unfold endS;simp
def outT (l:List B64):Nat→List UInt8
 | 0=>List.replicate 32 0
 | i+1=>(outT l i).set i (UInt8.ofNat ((l.getD (i / 8) 0) >>> (8 * (i % 8))).toNat)
@[simp] theorem outT_len (l:List B64):∀ n,(outT l n).length=32
 | 0=>rfl
 | n+1=>by rw [outT,List.length_set,outT_len l n]
def sumF (b:List UInt8):List UInt8:=outT (blkS (b++endS b.length) ((b.length+(136-b.length % 136)) / 136)) 32
def digF (tag b:List UInt8):List UInt8:=sumF (sumF tag++b)
end Go.Hw
namespace Go.Hw
open Go
section
variable {C:Ctx} {l:Sl} {h:Ro} {ty:TypeId} {pos:String} {aft:Array Edge} {gd:Option (Nat×Bool)} {dst:Option Tmp} {t ty':TypeId} {x y:Operand} {T:Ty}
theorem OV_quoI {p q:Int}(hT:By t C.ts=some T)(hx:evl l x=some (.int .i64 p))(hy:evl l y=some (.int .i64 q))(hp:0≤p∧p≤9223372036854775807)(hq:0<q):OV C l [] h ⟨dst,.binOp .quo t x y ty',ty,pos,aft,gd⟩ (.int .i64 (p / q)) :=
 OV_bin hT hx hy (by
  simp only [Sb,if_true]
  have h1:0≤p / q:=Int.ediv_nonneg hp.1 QAd
  have h2:p / q≤p:=Int.ediv_le_self _ hp.1
  rw [if_neg QAd,Int.tdiv_eq_ediv_of_nonneg hp.1,Wf _ ⟨by omega,by omega⟩])
end
section
variable {C:Ctx} {l:Sl} {h:Ro} {ty:TypeId} {pos:String} {aft:Array Edge} {gd:Option (Nat×Bool)} {dst:Option Tmp} {s t:TypeId} {x:Operand} {S T:Ty}
end
theorem Bya {h:Ro}{ad:Addr}{vs:List Value}(hc:Ab h ad vs){k:Nat}{v:Value}(hv:vs[k]? = some v):Ab h (ad.add (k * 1)) [v]:=fun j u hj=>by
 have hj0:j=0:=by
  have:=(List.getElem?_eq_some_iff.1 hj).1
  simpa using this
 subst hj0
 have hu:u=v:=by simpa using hj.symm
 subst hu
 have:=hc k u hv
 rw [Dk,Nat.mul_one,Nat.add_zero];exact this
end Go.Hw
namespace Go.Hw
open Go
section
variable {C:Ctx} {ds:List Deferred} {l:Sl} {Es:List Asn} {h:Ro} {K:List Item} {G:Value→List Asn→Ro→Prop} {ty:TypeId} {pos:String} {aft:Array Edge} {gd:Option (Nat×Bool)} {dst:Option Tmp} {d:Tmp}
end
section
variable {C:Ctx} {l:Sl} {h:Ro} {ty:TypeId} {pos:String} {aft:Array Edge} {gd:Option (Nat×Bool)} {dst:Option Tmp} {t ty':TypeId} {x y:Operand}
end
end Go.Hw
namespace Go.Hw
open Go Go.Sort Go.Proofs
theorem F5a {α:Type}[Inhabited α]{P:Program}{f gf:FuncId}{cb:Array Value}(enc:α→List Value)(k:Nat)(hk:∀ x,(enc x).length=k)(hk0:0<k)(cf:α→α→Int)(h:Ro)
  (hC:∀ (blk off cap:Nat) (d:Array α) (w:World),CmpLays P gf cb enc k cf blk off d.size w→HoldsK enc k w blk off d→blk<w.heap.size→d.size<4611686018427387904 →
    Calls P f #[.slice (some ⟨blk,off,none⟩) d.size cap,.func (.func gf) #[] cb] w fun e w'=>e=.returned (.tuple #[])∧∃ d' n os,PermIn 0 d.size d d'∧SortedIn (ltOf cf) 0 d.size d'∧w'=sortWorldK enc k w blk off n d' os)
  (hN:∀ (p:Option Addr) (cap:Nat) (w:World),Calls P f #[.slice p 0 cap,.func (.func gf) #[] cb] w fun e w'=>e=.returned (.tuple #[])∧w'=w)
  (hcmp:∀ x y,Res P gf (#[.agg (enc x).toArray,.agg (enc y).toArray]++cb) h fun u _=>u=.int .i64 (cf x y))
  (e:TypeId) (v:Value) (xs:List α) (n:Nat) (hn:n≤1000000000) (hx:xs.length=n) :
  Fn P f #[v,.func (.func gf) #[] cb] [Bd e k v n (xs.flatMap enc)] h fun u Es _=>u=.tuple #[]∧∃ ys:List α,ys.Perm xs∧(ys.Pairwise fun a b=>ltOf cf b a=false)∧Es=[Bd e k v n (ys.flatMap enc)]:=by
 subst hx
 intro w X0 hl ⟨Ds,ho,hnd,hb⟩
 have H0:Hp w X0 h [Bd e k v xs.length (xs.flatMap enc)] h w:=⟨rfl,rfl,rfl,Nat.le_refl _,Nat.le_refl _,fun _ _ _=>rfl,hl,Le.refl _,fun i o e=>.inl e,Ds,ho,hnd,fun b h1=>⟨(hb b h1).1,.inr (hb b h1).2.1,(hb b h1).2.2⟩⟩
 have hnone:∀ D,(Bd e k v xs.length (xs.flatMap enc)).holds D (mem w)→(∃ D',Ds=[D']∧(Bd e k v xs.length (xs.flatMap enc)).holds D' (mem w)):=by
  intro D _
  match Ds,ho with
  | [D'],⟨h1,_⟩=>exact ⟨D',rfl,h1⟩
 obtain ⟨D0,hA0⟩:=H0.get (List.Mem.head _)
 obtain ⟨D,hDs,hA⟩:=hnone D0 hA0
 have hg0:∀ b∈D,h b=none:=fun b hbD=>(hb b (by rw [hDs];simp [hbD])).1
 obtain ⟨hlen,hr⟩:=hA
 rcases hr with ⟨rfl,h0,hD⟩|⟨g,cap,cur,rfl,hD,hm,hcap,hmax,hcs,htk⟩
 · have hx:xs=[]:=List.eq_nil_of_length_eq_zero h0
   subst hx
   refine (hN none 0 w).mono ?_
   rintro e' w' ⟨rfl,rfl⟩
   exact ⟨_,rfl,_,h,⟨rfl,[],.refl _,.nil,rfl⟩,H0⟩
 · have hm':w.heap[g]? = some (.cells cur e (0,0)):=hm
   have hgn:h g=none:=hg0 g (by rw [hD];simp)
   have hfl:=Cc hk xs
   have hcell:∀ j,j<xs.length * k→cur[j]? = (xs.flatMap enc)[j]?:=by
    intro j hj
    rw [← htk,List.getElem?_take,if_pos hj,Array.getElem?_toList]
   have hglt:g<w.heap.size:=(Array.getElem?_eq_some_iff.1 hm').1
   have hold0:∀ (m:Nat) (dk:Array α) (os:Array Obj) (i:Nat),i<w.heap.size→i≠g→(sortWorldK enc k w g 0 m dk os).heap[i]? = w.heap[i]?:=by
    intro m dk os i hi hne
    unfold sortWorldK putRowK
    show (w.heap.modify g _++os)[i]? = _
    rw [Array.getElem?_append_left QC8,Array.getElem?_modify,if_neg (fun e=>hne e.symm)]
   have hcmp':CmpLays P gf cb enc k cf g 0 xs.toArray.size w:=fun m os dk hdk x y=>by
    have hle:Le h (mem (sortWorldK enc k w g 0 m dk os)):=fun i o hi=>by
     have h1:=hl i o hi
     have hne:i≠g:=fun e=>by subst e;rw [hgn] at hi;cases hi
     have hlt:i<w.heap.size:=Le.lt hl hi
     show (sortWorldK enc k w g 0 m dk os).heap[i]? = some o
     rw [hold0 m dk os i hlt hne];exact h1
    refine (hcmp x y (sortWorldK enc k w g 0 m dk os) [] hle ⟨[],trivial,by simp,by simp⟩).mono ?_
    rintro e' w' ⟨v,rfl,Es,h',⟨rfl,rfl⟩,H⟩
    exact ⟨rfl,H.grown⟩
   refine (hC g 0 cap xs.toArray w hcmp' ?_ hglt QFh).mono ?_
   · intro j hj
     rw [Nw hk] at hj
     have hj':j<xs.length * k:=by rw [← hfl];simpa using hj
     refine ⟨?_,?_⟩
     · rw [Nw hk]
       have hjl:j<(xs.flatMap enc).length:=by rw [hfl];exact hj'
       simp only [World.cell?,hm',Nat.zero_add]
       have:=hcell j hj'
       rw [List.getElem?_eq_getElem hjl] at this
       rw [getElem!_pos (xs.flatMap enc).toArray j (by simpa using hjl)]
       simpa using this
     · simp [World.frozen?,hm']
   rintro e' w' ⟨rfl,d',m,os,hP,hS,rfl⟩
   obtain ⟨hsz,_,hperm⟩:=hP
   have e1:d'.extract 0 xs.toArray.size=d':=by rw [← hsz];exact Array.extract_size
   rw [e1,Array.extract_size] at hperm
   have hsl:d'.toList.length=xs.length:=by simpa using hsz
   obtain ⟨ys,hys⟩:∃ ys,ys=d'.toList:=⟨_,rfl⟩
   have hyd:d'=ys.toArray:=by rw [hys]
   rw [← hys] at hsl hperm
   have hsort:ys.Pairwise fun a b=>ltOf cf b a=false:=by
    rw [List.pairwise_iff_getElem]
    intro i j hi hj hij
    have:=hS i j (Nat.zero_le _) hij (by rw [hsl] at hj;simpa using hj)
    rw [hyd] at this
    rwa [getElem!_pos ys.toArray j QFm,getElem!_pos ys.toArray i QC8,List.getElem_toArray,List.getElem_toArray] at this
   refine ⟨_,rfl,_,h,⟨rfl,ys,by simpa using hperm,hsort,rfl⟩,?_⟩
   subst hyd
   have hfs:=Cc hk ys
   have hold:∀ i,i<w.heap.size→(sortWorldK enc k w g 0 m ys.toArray os).heap[i]? = (w.heap.modify g (Sort.onCells (Sort.putCells id 0 (ys.flatMap enc).toArray)))[i]?:=by
    intro i hi
    unfold sortWorldK putRowK
    rw [Nw hk]
    show (w.heap.modify g _++os)[i]? = _
    rw [Array.getElem?_append_left QC8]
   refine H0.repl .here rfl rfl rfl (by simp [sortWorldK,grow,putRowK,putRow,mapBlock,Sort.ahead]) (hdr:=by show w.drawn≤w.drawn+m;omega) fun D1 hA1 hDn hDb => ?_
   have hD1:D1=[g]:=by
    rcases hA1.2 with ⟨e1,_⟩|⟨g',c',cur',e1,e2,_⟩
    · cases e1
    · injection e1 with e1 _;injection e1 with e1;injection e1 with e1;rw [e2,e1]
   subst hD1
   refine ⟨[g],⟨by rw [hfs,hsl],.inr ⟨g,cap,Sort.putCells id 0 (ys.flatMap enc).toArray cur,rfl,rfl,?_,hcap,hmax,by simp [Sort.putCells,hcs],?_⟩⟩,by simp,?_,?_⟩
   · show (sortWorldK enc k w g 0 m _ os).heap[g]? = _
     rw [hold g hglt,Array.getElem?_modify,if_pos rfl,hm']
     rfl
   · apply List.ext_getElem?
     intro j
     rw [List.getElem?_take]
     by_cases hj:j<xs.length * k
     · rw [if_pos hj,Array.getElem?_toList]
       have hjs:j<(ys.flatMap enc).length:=by rw [hfs,hsl];exact hj
       have hcj:j<cur.size:=by
        have:xs.length * k≤cap * k:=Nat.mul_le_mul_right _ hcap
        omega
       simp only [Sort.putCells,Array.getElem?_mapIdx,Array.getElem?_eq_getElem hcj,Option.map_some,Nat.zero_le,true_and,Nat.zero_add,List.size_toArray,hjs,if_true,Nat.sub_zero,List.getElem?_eq_getElem hjs]
       rw [getElem!_pos _ j (by simpa using hjs)]
       simp
     · rw [if_neg hj,List.getElem?_eq_none (by rw [hfs,hsl];omega)]
   · intro i hi
     simp only [List.mem_singleton] at hi
     subst hi
     exact ⟨.inl QAn,by simp [sortWorldK,grow,putRowK,putRow,mapBlock,Sort.ahead];try omega⟩
   · intro i hi hni
     have hne:g≠i:=fun e=>hni QFv
     show (sortWorldK enc k w g 0 m _ os).heap[i]? = _
     rw [hold i hi,Array.getElem?_modify,if_neg hne]
end Go.Hw
namespace Go.Hw
open Go
theorem Qj {P:Program}{ts:List Ty}(hT:Ss P ts){k e m:Nat}{T E:Ty}{q:IntKind}(hk:By k ts=some T)(hd:T.desc=.array m e)(hE:By e ts=some E)(hEd:E.desc=.int q)(hEs:E.size=1)(hEa:E.agg=false){xs:List Value}(hl:xs.length=m)(hc:∀ v∈xs,∃ n,v=.int q n)(w:World)(em:Bool) :
  (Instr.checkKey em 10000 k (.agg xs.toArray)).run P w=.ok () w:=by
 obtain ⟨D,hD,hb⟩:=hT.und hk
 rw [hd] at hb
 rw [Fm hb] at hD
 obtain ⟨D2,hD2,hb2⟩:=hT.und hE
 rw [hEd] at hb2
 rw [Gf hb2] at hD2
 show (Instr.checkKey em (9999+1) k (.agg xs.toArray)).run P w=_
 unfold Instr.checkKey
 simp only [Sem.run_bind,run_underlying hD,Result.andThen_ok]
 simp only [Std.Legacy.Range.forIn_eq_forIn_range',Std.Legacy.Range.size,Nat.sub_zero,Nat.add_one_sub_one,Nat.div_one]
 have hall:∀ i∈List.range' 0 m,i<m:=by
  intro i hi
  rw [List.mem_range'] at hi
  obtain ⟨j,h1,h2⟩:=hi
  omega
 generalize List.range' 0 m=L at hall ⊢
 induction L with
 | nil=>simp
 | cons i r ih =>
   have hi:=hall i List.mem_cons_self
   obtain ⟨n,hn⟩:=hc (xs[i]'QAd) (List.getElem_mem _)
   have hp:Da (i * E.size) E.size E.agg xs=some (.int q n):=by
    unfold Da
    rw [hEa,hEs,Nat.mul_one]
    simp only
    have:∀ (o:Nat) (cs:List Value),nth o cs=cs[o]?:=by
     intro o
     induction o with
     | zero=>intro cs;cases cs <;> rfl
     | succ o iho=>intro cs;cases cs with
       | nil=>rfl
       | cons a l=>rw [List.getElem?_cons_succ];exact iho l
    rw [this,List.getElem?_eq_getElem QAd,hn]
   have p1:=Gd hp w (hT.run_size hE w) (hT.run_agg hE w)
   have p2:=MapKept.run_checkKey (P:=P) (w:=w) hD2 (show MapKept.IsKey (.int q) (.int q n) from rfl) em 9998
   simp only [List.forIn_cons,Sem.run_bind,hT.run_size hE,p1,p2,Sem.run_pure,Result.andThen_ok]
   exact ih fun j hj=>hall j (List.mem_cons_of_mem _ hj)
theorem Uk.array {κ:Type}[DecidableEq κ]{P:Program}{ts:List Ty}(hT:Ss P ts){k m e:Nat}{T E:Ty}{q:IntKind}(hk:By k ts=some T)(hd:T.desc=.array m e)(hE:By e ts=some E)(hEd:E.desc=.int q)(hEs:E.size=1)(hEa:E.agg=false)(f:κ→List Value)(hinj:∀ x y,f x=f y→x=y)
  (hl:∀ x,(f x).length=m) (heq:∀ x y,eqV ts 10 k (.agg (f x).toArray) (.agg (f y).toArray)=some (decide (x=y))) (hs:(Ji ts 10 k).all (fun i => !P.stoodInHeld i)=true) (hb:∀ x,∀ v∈f x,∃ n,v=.int q n) :
  Uk P k (fun x=>.agg (f x).toArray) where
 check:=fun w em x=>Qj hT hk hd hE hEd hEs hEa (hl x) (hb x) w em
 inj:=fun x y e=>by injection e with e;exact hinj x y (by simpa using congrArg Array.toList e)
 stays:=fun w x=>by
  have hs:Instr.sameBits 10000 (.agg (f x).toArray) (.agg (f x).toArray)=true:=by
   show Instr.sameBits (9999+1) (.agg (f x).toArray) (.agg (f x).toArray)=true
   simp only [Instr.sameBits,beq_self_eq_true,Bool.true_and,List.all_eq_true]
   intro p hp
   obtain ⟨i,hi,e⟩:=List.getElem_of_mem hp
   rw [List.getElem_zip] at e
   rw [← e]
   simp only
   obtain ⟨n,e2⟩:=hb x ((f x).toArray.toList[i]'QC8) (List.getElem_mem _)
   rw [e2]
   simp [Instr.sameBits]
  simp [Instr.keyThatStays,hs]
 find:=fun w x ev es l h=>by
  obtain ⟨D,hD,hb⟩:=hT.und hk
  rw [hd] at hb
  rw [Fm hb] at hD
  have ask:∀ (es:List MapEntry) (l:List (κ×Nat)) (i:Nat),es.map (fun e=>(e.key,e.val))=l.map (fun p=>(Value.agg (f p.1).toArray,ev p.2)) →
   (Instr.findAsking k (.agg (f x).toArray) es i).run P w=.ok ((Fi x l i).map fun p=>(p.1,ev p.2)) w:=by
   intro es
   induction es with
   | nil=>intro l i h;cases l with
     | nil=>simp [Instr.findAsking,Fi]
     | cons p l=>cases h
   | cons e es ih =>
     intro l i h
     cases l with
     | nil=>cases h
     | cons p l =>
       simp only [List.map_cons,List.cons.injEq,Prod.mk.injEq] at h
       have q:=Jga hT w (heq x p.1) (fun i hi=>by have:=List.all_eq_true.1 hs i hi;simpa using this) 9990
       have q1:(Op.equal k (.agg (f x).toArray) e.key).run P w=.ok (decide (x=p.1)) w:=by rw [h.1.1];exact q
       unfold Instr.findAsking
       simp only [Sem.run_bind,q1,Result.andThen_ok]
       by_cases hx:x=p.1
       · simp [Fi,hx,h.1.2]
       · simp only [hx,decide_false,Bool.false_eq_true,if_false,Fi,Ne.symm hx]
         exact ih l (i+1) h.2
  unfold Instr.findKey
  simp only [Sem.run_bind,run_underlying hD,Result.andThen_ok]
  cases es with
  | nil=>cases l with
    | nil=>simp [Instr.findNow,Fi]
    | cons p l=>cases h
  | cons e9 es =>
    have hn:Instr.findNow (.array m e) (.agg (f x).toArray) (e9::es) 0=none:=by simp [Instr.findNow,Instr.sameNow]
    rw [hn]
    exact ask (e9::es) l 0 h
end Go.Hw
