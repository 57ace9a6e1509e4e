import Derived.Test.YtlnenhhbalpbpaaGreatDoorHC
import Derived.Test.YtlnenhhbalpbpaaGreatDoorHwZe
import Derived.Laws.Append
set_option linter.all false
namespace Go.Hw
open Go
theorem freeze_at (w:World)(b k:Nat){cur:Array Value}{e:TypeId}(hb:w.heap[b]? = some (.cells cur e (0,0))):(w.freeze ⟨b,k,none⟩ 1).heap[b]? = some (.cells cur e (k,k+1)):=by
 unfold World.freeze
 rw [if_neg QAs]
 show (w.heap.modify b _)[b]? = _
 rw [Array.getElem?_modify,if_pos rfl,hb]
 rfl
theorem Eca (w:World)(b k i:Nat)(h:i≠b):(w.freeze ⟨b,k,none⟩ 1).heap[i]? = w.heap[i]?:=by
 unfold World.freeze
 rw [if_neg QAs]
 show (w.heap.modify b _)[i]? = _
 rw [Array.getElem?_modify,if_neg (fun e=>h e.symm)]
theorem Wn (w:World)(b k:Nat):(w.freeze ⟨b,k,none⟩ 1).heap.size=w.heap.size:=by
 unfold World.freeze
 rw [if_neg QAs]
 exact Array.size_modify
section
variable {C:Ctx} {l:Sl} {Es:List Asn} {h:Ro} {G:Value→List Asn→Ro→Prop} {ty:TypeId} {pos:String} {aft:Array Edge} {gd:Option (Nat×Bool)} {dst:Option Tmp}
theorem Sy {t e:TypeId}{x:Operand}{b n c:Nat}{xs:List Value}{Es':List Asn}{T E:Ty}(hT:By t C.ts=some T)(hTd:T.desc=.slice e)(hE:By e C.ts=some E)(hEd:E.desc=.int .u8)(hx:evl l x=some (.slice (some ⟨b,0,none⟩) n c))
  (hR:Lx Es (Bd e 1 (.slice (some ⟨b,0,none⟩) n c) n xs) (Bf true e (.slice (some ⟨b,0,none⟩) n c) n xs) Es')
  (g:G (.slice (some ⟨b,0,none⟩) n c) Es' h):Fw C l Es h ⟨dst,.convert t t x,ty,pos,aft,gd⟩ G:=by
 intro a w hs hp
 obtain ⟨D0,hu,hb0⟩:=C.ok.und hT
 rw [hTd] at hb0;rw [Bu hb0] at hu
 obtain ⟨D2,hu2,hb2⟩:=C.ok.und hE
 rw [hEd] at hb2;rw [Gf hb2] at hu2
 obtain ⟨Ds,hown,hnod,hbd⟩:=hp.own
 obtain ⟨D,hA,hDn,hsub,_⟩:=hR.own hown hnod
 obtain ⟨hxl,hr⟩:=hA
 rcases hr with ⟨h0,_⟩|⟨g',cap,cur,h2,h3,h4,h5,h6,h7,h8⟩
 · cases h0
 · injection h2 with h2 _ h23
   injection h2 with h2;injection h2 with h2
   subst h2;subst h23
   have hb':w.heap[b]? = some (.cells cur e (0,0)):=h4
   have hsh:w.shape? b=some (e,cur.size):=by unfold World.shape?;rw [hb']
   have hrun:(convert t t (.slice (some ⟨b,0,none⟩) n c)).run C.P w=.ok (.slice (some ⟨b,0,none⟩) n c) (w.freeze ⟨b,cur.size,none⟩ 1):=by
    simp [convert,run_underlying hu,run_underlying hu2,markStringish,hsh]
   refine .inl ⟨_,w.freeze ⟨b,cur.size,none⟩ 1,Es',h,by simp only [execOp,hs.eval hx,Sem.run_bind,hrun,Result.andThen_ok,Sem.run_pure],?_,g⟩
   refine hp.repl hR rfl rfl rfl (by rw [Wn];exact Nat.le_refl _) fun D2 hA2 hDn2 hDl2 => ?_
   have hD2:D2=[b]:=by
    rcases hA2.2 with ⟨q,_⟩|⟨g2,_,_,q1,q2,_⟩
    · cases q
    · injection q1 with q1 _ _;injection q1 with q1;injection q1 with q1;rw [q2,q1]
   subst hD2
   rw [Nat.mul_one] at h7 h8 hxl
   refine ⟨[b],⟨hxl,.inr ⟨b,c,cur,_,rfl,rfl,freeze_at w b cur.size hb',.inr ⟨rfl,.inl QAh⟩,h5,h6,h7,h8⟩⟩,by simp,fun q hq=>⟨.inl hq,by rw [Wn];exact hDl2 q hq⟩,fun i hi hni=>Eca w b _ i fun e=>hni QFv⟩
theorem appP_run {f:Bool}{P:Program}{e t ty:TypeId}{i:TypeInfo}(ht:P.underlying t=some (.slice e))(hi:P.info? e=some i)(hz:i.zero=some (.int .u8 0))(hs1:i.size=1)(hb1:i.bytes=1)
  {v:Value} {n m c:Nat} {xs:List Value} {s:List UInt8} {D:List Nat} {w:World} (hA:(Bf f e v n xs).holds D (mem w)) {ad:Addr} (hm:s.length=m) (hc:∀ j u,(s.flatMap Ev)[j]? = some u→w.cell? (ad.add j)=some u) (h63:n+m≤1000000000) :
  ∃ v' w',(Builtin.append_ #[t,t] ty #[v,.slice (some ad) m c]).run P w=.ok v' w'∧w'.os=w.os∧w'.tape=w.tape∧w'.output=w.output∧w.heap.size≤w'.heap.size ∧
   ∃ D',(Bf f e v' (n+m) (xs++s.flatMap Ev)).holds D' (mem w')∧D'.Nodup∧(∀ b∈D',(b∈D∨w.heap.size≤b)∧b<w'.heap.size)∧∀ i,i<w.heap.size→i ∉ D→w'.heap[i]? = w.heap[i]?:=by
 have hcl:(s.flatMap Ev).length=m:=by rw [Cc (sz:=1) (fun _=>rfl),Nat.mul_one,hm]
 have hone:∀ u∈s.flatMap Ev,u.oneCell'=true:=fun u hu=>by
  obtain ⟨x,_,hx⟩:=List.mem_flatMap.1 hu
  have:u=.int .u8 x.toNat:=by simpa [Ev] using hx
  rw [this];rfl
 have hxl:xs.length=n:=hA.1
 have hf:=run_firstCells_some (P:=P) (w:=w) 1 m ad m c (s.flatMap Ev) (by rw [hcl,Nat.mul_one]) hc
 refine E7a hA hcl h63 ?_ ?_ ?_ ?_
 · intro g cap cur fz hv hg hfz hroom hfit
   subst hv
   have hst:=Gu P g n e fz (s.flatMap Ev) 0 cur w hg hfz (by rw [hcl] at hfit ⊢;simpa using hfit) hone
   simp only [Nat.add_zero,hcl] at hst
   simp [Builtin.append_,run_underlying ht,sizeOf,typeInfo,hi,hs1,Builtin.lenOf,hroom,hf,Addr.add_lit,hst]
 · intro b cap hv hcc hlt
   subst hv
   exact run_append_grow (P:=P) w t ty e i (.int .u8 0) ht hi hz b n cap xs (by rw [hs1,hxl,Nat.mul_one]) hcc ad m c (s.flatMap Ev) (by rw [hs1,hcl,Nat.mul_one]) hc hlt QAd (by rw [hb1];exact growslice_fits QAd QAd)
 · intro hv h0
   subst hv
   have hn:s.flatMap Ev=[]:=List.eq_nil_of_length_eq_zero QAd
   rw [hn] at hf
   subst h0
   simp [Builtin.append_,run_underlying ht,sizeOf,typeInfo,hi,hs1,Builtin.lenOf,hf]
 · intro hv h0
   subst hv
   exact run_append_nil (P:=P) w t ty e i (.int .u8 0) ht hi hz ad m c (s.flatMap Ev) (by rw [hs1,hcl,Nat.mul_one]) hc h0 QAd (by rw [hb1];omega)
theorem Ih {f:Bool}{t e:TypeId}{x y:Operand}{v:Value}{n m c:Nat}{xs:List Value}{s:List UInt8}{A:Option Addr}{T E:Ty}{Es':Value→List Asn}(hT:By t C.ts=some T)(hTd:T.desc=.slice e)(hE:By e C.ts=some E)(hEz:E.zero=.int .u8 0)(hEs:E.size=1)(hEb:E.bytes=1)
  (hx:evl l x=some v) (hy:evl l y=some (.slice A m c)) (hsl:Ar Ev 1 h A m s) (hm:0<m) (hR:∀ v',Lx Es (Bf f e v n xs) (Bf f e v' (n+m) (xs++s.flatMap Ev)) (Es' v')) (h63:n+m≤1000000000)
  (g:∀ A c,G (.slice A (n+m) c) (Es' (.slice A (n+m) c)) h):Fw C l Es h ⟨dst,.call ⟨.builtin .append,#[x,y],#[t,t]⟩,ty,pos,aft,gd⟩ G:=fun a w hs hp=>by
 obtain ⟨i,hi,hi1,hi2,hi3⟩:=C.ok.info hE
 obtain ⟨D0,hu,hb0⟩:=C.ok.und hT
 rw [hTd] at hb0;rw [Bu hb0] at hu
 obtain ⟨ad,rfl⟩:=hsl.addr hm
 obtain ⟨Ds,hown,hnod,hbd⟩:=hp.own
 obtain ⟨D,hA,hDn,hsub,_⟩:=(hR v).own hown hnod
 obtain ⟨v',w',hrun,h1,h2,h3,h4,hD⟩:=appP_run (P:=C.P) (ty:=ty) (c:=c) hu hi (by rw [hi3,hEz]) (by rw [hi1,hEs]) (by rw [hi2,hEb]) hA hsl.len (fun j u e=>by rw [Ic];exact Ka hp.ro (hsl.flat (fun _=>rfl) j u e)) h63
 obtain ⟨D',hD1,_⟩:=id hD
 obtain ⟨A',c',rfl⟩:=Bha hD1
 refine .inl ⟨_,w',Es' _,h,?_,?_,g A' c'⟩
 · simp only [execOp,resolve,invoke,builtin,Sem.run_bind,Sem.run_pure,Result.andThen_ok,List.map_toArray,List.map_cons,List.map_nil,hs.eval hx,hs.eval hy,hrun]
 · refine hp.repl (hR _) h1 h2 h3 h4 (hdr:=Co _ hrun) fun D2 hA2 _ _ => ?_
   have:D2=D:=by
    rcases hA2.2 with ⟨e1,_,e2⟩|⟨g1,_,_,_,e1,e2,_⟩ <;> rcases hA.2 with ⟨e3,_,e4⟩|⟨g2,_,_,_,e3,e4,_⟩
    · rw [e2,e4]
    · rw [e1] at e3;cases e3
    · rw [e1] at e3;cases e3
    · rw [e1] at e3;injection e3 with e3 _;injection e3 with e3;injection e3 with e3;rw [e2,e4,e3]
   rw [this];exact hD
end
end Go.Hw
