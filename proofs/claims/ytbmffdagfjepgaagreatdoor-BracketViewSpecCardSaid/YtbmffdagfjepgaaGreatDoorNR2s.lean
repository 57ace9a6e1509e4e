import Derived.Test.YtbmffdagfjepgaaGreatDoorGB
set_option linter.all false
set_option maxRecDepth 100000
set_option maxHeartbeats 4000000
namespace Go.Hw
open Go
attribute [local irreducible] AI Bz BV Aq AP Az Au CH Ap Ar BG Cm BP
open Go.Proofs.Tryz
def Vg (h:U)(A:At)(n c:Nat)(l:AC)(hx:Ai AQ 1 h A n l)(hn:n≤9223372036854775807)(b:At)(m d:Nat)(r:AC)(hy:Ai AQ 1 h b m r)(hm:m≤9223372036854775807) :
  Aq prog 22 #[.slice A n c,.slice b m d] h (.bool (decide (l=r))):=by
 refine AK func22 λ_ _=>?_
 have g:=hx.len
 have i:=hy.len
 by_cases o:n=m
 · subst o
   repeat'(first|refine Aa ?_|(refine Y ?_ ?_<;>intro hc<;>try omega)|fail)
   · refine Bg (X:=Nat) (λk=>k≤n∧l.take k=r.take k) (λk=>n-k) (λk=>[(5,O k),(0,.slice A n c),(1,.slice b n d)]) (λ_=>[]) (λ_=>h) 0 ⟨J,rfl⟩ Af Ad rfl ?_
     rintro k ⟨t,e⟩ s
     by_cases a:k<n
     · have a1:=hx.addrD a
       have c1:=hx.cellsD 0 a
       have a2:=hy.addrD a
       have c2:=hy.cellsD 0 a
       have p:=BY 0 g a
       have q:=BY 0 i a
       have j:l.getD k 0≠r.getD k 0→l≠r:=λh1 h2=>h1 (by rw[h2])
       generalize l.getD k 0=u at *
       generalize r.getD k 0=v at *
       repeat'(first|refine Aa ?_|(apply AU (n:=6) 9 [0,1,2,3,4,5,6,7,8];kernel_rfl)|(apply Be;exact Bd;(first|exact Bf|exact RT|exact BN|exact KQ);exact AX)|(refine Y ?_ ?_<;>intro hc<;>try omega)|fail)
       · (first|(apply BS;(iterate 3 exact F)))
         rw[decide_eq_false (j J)]
       · have h3:=s (k+1) ⟨J,by have f:u=v:=J;rw[p,q,e,f]⟩ J
         refine AB Af Ad h3
     · repeat'(first|refine Aa ?_|(refine Y ?_ ?_<;>intro hc<;>try omega)|refine Bm ?_|fail)
       rw[By J,By J]at e
       rw[decide_eq_true e]
 · repeat'(first|refine Aa ?_|(refine Y ?_ ?_<;>intro hc<;>try omega)|refine Bm ?_|fail)
   rw[decide_eq_false];intro hh;subst hh;omega
def jB (h:U)(A:At)(n c:Nat)(l:Fz)(hx:Ai Fk 2 h A n l)(hn:n≤9223372036854775807)(b:At)(m d:Nat)(r:Fz)(hy:Ai Fk 2 h b m r)(hm:m≤9223372036854775807) :
  Aq prog 183 #[.slice A n c,.slice b m d] h (.bool (decide (l=r))):=by
 refine AK func183 λ_ _=>?_
 have f:=hx.len
 have g:=hy.len
 by_cases j:n=m
 · subst j
   repeat'(first|refine Aa ?_|(refine Y ?_ ?_<;>intro hc<;>try omega)|fail)
   · refine Bg (X:=Nat) (λk=>k≤n∧l.take k=r.take k) (λk=>n-k) (λk=>[(5,O k),(0,.slice A n c),(1,.slice b n d)]) (λ_=>[]) (λ_=>h) 0 ⟨J,rfl⟩ Af Ad rfl ?_
     rintro k ⟨s,e⟩ q
     by_cases a:k<n
     · have a1:=hx.addrD a
       have c1:=hx.cellsD De a
       have a2:=hy.addrD a
       have c2:=hy.cellsD De a
       have o:=BY De f a
       have p:=BY De g a
       have i:l.getD k De≠r.getD k De→l≠r:=λh1 h2=>h1 (by rw[h2])
       generalize l.getD k De=u at *
       generalize r.getD k De=v at *
       obtain⟨t,w⟩:=u
       obtain⟨vp,vr⟩:=v
       repeat'(first|refine Aa ?_|(apply AU (n:=6) 9 [0,1,2,3,4,5,6,7,8];kernel_rfl)|(apply Be;exact Bd;(first|exact Bf|exact RT|exact BN|exact KQ|exact bR);exact AX)|(refine Y ?_ ?_<;>intro hc<;>try omega)|fail)
       · (first|(apply BS;(iterate 3 exact F)))
         rw[decide_eq_false (i cA)]
       · have h3:=q (k+1) ⟨J,by
          simp[FP]at hc
          rw[o,p,e,hc.1,hc.2]⟩ J
         refine AB Af Ad h3
     · repeat'(first|refine Aa ?_|(refine Y ?_ ?_<;>intro hc<;>try omega)|refine Bm ?_|fail)
       rw[By J,By J]at e
       rw[decide_eq_true e]
 · repeat'(first|refine Aa ?_|(refine Y ?_ ?_<;>intro hc<;>try omega)|refine Bm ?_|fail)
   rw[decide_eq_false];intro hh;subst hh;omega
def Ajf (h:U)(s:AA)(x:DV)(hx:Ef h s x)(a:Gg x)(t:AA)(y:DV)(hy:Ef h t y)(c:Gg y):Aq prog 106 #[KV s x,KV t y] h (.bool (decide (x=y))):=by refine AK func106 λ_ _=>?_;obtain⟨i,j,n3,k⟩:=hx.small a;obtain⟨d,e,f,g⟩:=hy.small c;(repeat'(first|refine Aa ?_|(refine Z (by apply Ld;exact F;exact F;exact MZ x.g y.g;kernel_rfl;kernel_rfl) ?_)|(refine Aj ?_;intro b)|(refine Ac ?_;first|(apply Aw;exact F;exact Ab func22;first|exact Vg _ _ _ _ x.hs (hx.hs.le Ag) J _ _ _ y.hs (hy.hs.le Ag) J|exact Vg _ _ _ _ x.asn (hx.asn.le Ag) J _ _ _ y.asn (hy.asn.le Ag) J)|(apply Aw;exact F;exact Ab func183;first|exact jB _ _ _ _ x.hc (hx.hc.le Ag) J _ _ _ y.hc (hy.hc.le Ag) J|exact jB _ _ _ _ x.ac (hx.ac.le Ag) J _ _ _ y.ac (hy.ac.le Ag) J))|refine AF ?_|(refine AG ?_ ?_<;>intro hc<;>try omega)|fail));(all_goals(first|(apply BS;(iterate 3 exact F))));all_goals(clear hx a hy c;refine Cv ?_;rw[Aa4];grind)
def jA (h:U)(s:AA)(x:Al)(hx:Cr h s x)(a:Eu x)(t:AA)(y:Al)(hy:Cr h t y)(c:Eu y):Aq prog 58 #[BW s x,BW t y] h (.bool (decide (x=y))):=by refine AK func58 λ_ _=>?_;obtain⟨k,l,n3,m,n,n6⟩:=hx.small a;obtain⟨d,e,f,g,i,j⟩:=hy.small c;(repeat'(first|refine AH ?_|(refine Z (by apply YE;exact F;exact F;(first|exact lJ x.fg y.fg x.venue y.venue|exact LY x.ru y.ru|exact mF x y|exact jX x y);kernel_rfl;kernel_rfl) ?_)|(refine Z (by apply wF;exact F;exact F;exact iO x.void y.void hx.void hy.void;kernel_rfl;kernel_rfl) ?_)|(refine Aj ?_;intro b)|(refine Ac ?_;first|(apply Aw;exact F;exact Ab func22;first|exact Vg _ _ _ _ x.eClubs (hx.cl.le Ag) J _ _ _ y.eClubs (hy.cl.le Ag) J|exact Vg _ _ _ _ x.lO (hx.lo.le Ag) J _ _ _ y.lO (hy.lo.le Ag) J)|(apply Aw;exact F;exact Ab func106;exact Ajf _ s x.sh hx.sh a.1 t y.sh hy.sh c.1))|(refine Y ?_ ?_<;>intro hc<;>try omega)|refine AF ?_|(refine AG ?_ ?_<;>intro hc<;>try omega)|fail));(all_goals(first|(apply BS;(iterate 3 exact F))));(all_goals(clear hx a hy c;refine Cv ?_;(try simp only[Li,beq_iff_eq]at *)));all_goals(rw[lM];grind)
end Go.Hw