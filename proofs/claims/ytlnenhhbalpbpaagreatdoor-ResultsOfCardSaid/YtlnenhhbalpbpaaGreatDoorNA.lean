import Derived.Test.YtlnenhhbalpbpaaGreatDoorHB
import Derived.Test.YtlnenhhbalpbpaaGreatDoorMT
set_option linter.all false
namespace Go.Hw
open Go
def Dya (y:Int):Prop:=y % 4=0∧(y % 100≠0∨y % 400=0)
instance (y:Int):Decidable (Dya y):=by unfold Dya;infer_instance
def lenM (y m:Int):Int:=if m=2 then (if Dya y then 29 else 28) else if m=4∨m=6∨m=9∨m=11 then 30 else 31
def lenY (y:Int):Int:=if Dya y then 366 else 365
def bef (y:Int):Int:=(y-2000) * 365+((y-1) / 4-(y-1) / 100+(y-1) / 400)-484
theorem bef_2000:bef 2000=0:=by decide
theorem B1a (y:Int):bef (y+1)=bef y+lenY y:=by
 unfold bef lenY
 by_cases h:Dya y
 · rw [if_pos h];unfold Dya at h;omega
 · rw [if_neg h];unfold Dya at h;omega
theorem lenY_pos (y:Int):365≤lenY y∧lenY y≤366:=by unfold lenY;split <;> omega
theorem bef_lt (y:Int):bef y<bef (y+1):=by rw [B1a];have:=lenY_pos y;omega
theorem Jva {a b:Int}(h:a≤b):bef a≤bef b:=by
 obtain ⟨k,rfl⟩:∃ k:Nat,b=a+k:=⟨(b-a).toNat,by omega⟩
 induction k with
 | zero=>simp
 | succ k ih =>
   have:=ih QAd
   have h2:=bef_lt (a+k)
   rw [show a+((k+1:Nat):Int)=a+k+1 by omega];omega
def mon (y m:Int):Int:=if m≤1 then 0 else if m=2 then 31 else 31+28+(if Dya y then 1 else 0)+(if m=3 then 0 else if m=4 then 31 else if m=5 then 61 else if m=6 then 92 else if m=7 then 122 else if m=8 then 153 else if m=9 then 184 else if m=10 then 214 else if m=11 then 245 else if m=12 then 275 else 306)
theorem Qq (y m:Int)(h1:1≤m)(h2:m≤12):mon y (m+1)=mon y m+lenM y m:=by
 have:m=1∨m=2∨m=3∨m=4∨m=5∨m=6∨m=7∨m=8∨m=9∨m=10∨m=11∨m=12:=by omega
 rcases this with rfl|rfl|rfl|rfl|rfl|rfl|rfl|rfl|rfl|rfl|rfl|rfl <;> simp [mon,lenM] <;> split <;> omega
theorem mon_13 (y:Int):mon y 13=lenY y:=by simp [mon,lenY];split <;> omega
theorem lenM_pos (y m:Int):28≤lenM y m∧lenM y m≤31:=by unfold lenM;split <;> (try split) <;> omega
theorem Uq {y a b:Int}(h1:1≤a)(h:a≤b)(h2:b≤13):mon y a≤mon y b:=by
 obtain ⟨k,rfl⟩:∃ k:Nat,b=a+k:=⟨(b-a).toNat,by omega⟩
 induction k with
 | zero=>simp
 | succ k ih =>
   have:=ih QAd QAd
   have h3:=Qq y (a+k) QAd QAd
   have h4:=lenM_pos y (a+k)
   rw [show a+((k+1:Nat):Int)=a+k+1 by omega];omega
structure Ua (n y m d:Int):Prop where
 lo:bef y+mon y m+d=n+1
 m1:1≤m
 m2:m≤12
 d1:1≤d
 d2:d≤lenM y m
theorem Ua.year {n y m d:Int}(h:Ua n y m d):bef y≤n∧n<bef (y+1):=by
 have h1:=Uq (y:=y) (show (1:Int)≤1 by omega) h.m1 (by have:=h.m2;omega)
 have h2:=Qq y m h.m1 h.m2
 have h3:=Uq (y:=y) (show (1:Int)≤m+1 by have:=h.m1;omega) (show m+1≤13 by have:=h.m2;omega) QAd
 rw [mon_13] at h3
 have e1:mon y 1=0:=by simp [mon]
 have:=h.lo;have:=h.d1;have:=h.d2
 rw [B1a];omega
theorem Ua.unique {n y m d y' m' d':Int}(h:Ua n y m d)(k:Ua n y' m' d'):y=y'∧m=m'∧d=d':=by
 have hy:y=y':=by
  have a:=h.year;have b:=k.year
  by_cases hlt:y<y'
  · have:=Jva (show y+1≤y' by omega);omega
  · by_cases hgt:y'<y
    · have:=Jva (show y'+1≤y by omega);omega
    · omega
 subst hy
 have hm:m=m':=by
  have a:=Qq y m h.m1 h.m2;have b:=Qq y m' k.m1 k.m2
  have:=h.lo;have:=k.lo;have:=h.d1;have:=h.d2;have:=k.d1;have:=k.d2
  have:=h.m1;have:=h.m2;have:=k.m1;have:=k.m2
  by_cases hlt:m<m'
  · have:=Uq (y:=y) (show (1:Int)≤m+1 by omega) (show m+1≤m' by omega) QAd;omega
  · by_cases hgt:m'<m
    · have:=Uq (y:=y) (show (1:Int)≤m'+1 by omega) (show m'+1≤m by omega) QAd;omega
    · omega
 subst hm
 have:=h.lo;have:=k.lo
 exact ⟨rfl,rfl,by omega⟩
def Apa:Nat→Int→Int→Int
 | 0,y,_=>y
 | k+1,y,n=>if n<bef (y+1) then y else Apa k (y+1) n
theorem H3a:∀ (k:Nat) (y n:Int),bef y≤n→n<bef (y+k)→bef (Apa k y n)≤n∧n<bef (Apa k y n+1)∧y≤Apa k y n∧Apa k y n≤y+k
 | 0,y,n,h1,h2=>by simp at h2;omega
 | k+1,y,n,h1,h2=>by
   unfold Apa
   split
   · rename_i h;exact ⟨h1,h,by omega,by omega⟩
   · rename_i h
     have:=H3a k (y+1) n QAd (by rw [show y+1+(k:Int)=y+((k+1:Nat):Int) by omega];exact h2)
     exact ⟨this.1,this.2.1,by omega,by omega⟩
def monF:Nat→Int→Int→Int→Int
 | 0,_,m,_=>m
 | k+1,y,m,n=>if n<mon y (m+1) then m else monF k y (m+1) n
theorem monF_ok:∀ (k:Nat) (y m n:Int),mon y m≤n→n<mon y (m+k)→mon y (monF k y m n)≤n∧n<mon y (monF k y m n+1)∧m≤monF k y m n∧monF k y m n<m+k
 | 0,y,m,n,h1,h2=>by simp at h2;omega
 | k+1,y,m,n,h1,h2=>by
   unfold monF
   split
   · rename_i h;exact ⟨h1,h,by omega,by omega⟩
   · rename_i h
     have:=monF_ok k y (m+1) n QAd (by rw [show m+1+(k:Int)=m+((k+1:Nat):Int) by omega];exact h2)
     exact ⟨this.1,this.2.1,by omega,by omega⟩
def Wu (n:Int):Int:=Apa 4000 2000 n
def Lra (n:Int):Int:=monF 12 (Wu n) 1 (n-bef (Wu n))
def dateD (n:Int):Int:=n-bef (Wu n)-mon (Wu n) (Lra n)+1
theorem bef_6000:bef 6000=1460970:=by decide
theorem date_ok {n:Int}(h0:0≤n)(h1:n≤1048576):Ua n (Wu n) (Lra n) (dateD n):=by
 have hy:=H3a 4000 2000 n (by rw [bef_2000];exact h0) (by rw [show (2000:Int)+(4000:Nat)=6000 by omega,bef_6000];omega)
 have hm:=monF_ok 12 (Wu n) 1 (n-bef (Wu n)) (by simp [mon];exact hy.1) (by
  rw [show (1:Int)+(12:Nat)=13 by omega,mon_13];have h2:=hy.2.1;rw [B1a] at h2;show n-bef (Apa 4000 2000 n)<lenY (Apa 4000 2000 n);omega)
 have hs:=Qq (Wu n) (Lra n) hm.2.2.1 (by have:=hm.2.2.2;show monF _ _ _ _≤12;omega)
 refine ⟨by unfold dateD;omega,hm.2.2.1,?_,?_,?_⟩
 · have:=hm.2.2.2;show monF _ _ _ _≤12;omega
 · have:=hm.1;unfold dateD Lra;omega
 · have h3:=hm.2.1
   rw [show monF 12 (Wu n) 1 (n-bef (Wu n))+1=Lra n+1 from rfl,hs] at h3
   unfold dateD;omega
theorem Ua.eq {n y m d:Int}(h0:0≤n)(h1:n≤1048576)(h:Ua n y m d):y=Wu n∧m=Lra n∧d=dateD n:=h.unique (date_ok h0 h1)
structure Ivl where
 lo:Int
 hi:Int
deriving DecidableEq
structure Per where
 player:Int
 born:Int
 home:Bool
 wage:Int
deriving DecidableEq
structure Quo where
 size:Int
 grown:Int
 young:Int
 inn:Int
 out:Int
 cap:Int
 wins:List Ivl
def IvlOk (i:Ivl):Prop:=0≤i.lo∧i.lo≤1048576∧0≤i.hi∧i.hi≤1048576∧i.lo≤i.hi
instance (i:Ivl):Decidable (IvlOk i):=by unfold IvlOk;infer_instance
def QuoOk (q:Quo):Prop:=1≤q.size∧q.size≤40∧0≤q.grown∧q.grown≤q.size∧0≤q.young∧q.young≤40∧0≤q.inn∧q.inn≤40∧0≤q.out∧q.out≤40∧0≤q.cap∧q.cap≤1125899906842624∧q.wins.length≤16∧∀ w∈q.wins,IvlOk w
instance (q:Quo):Decidable (QuoOk q):=by unfold QuoOk;infer_instance
def PerOk (p:Per):Prop:=0≤p.player∧p.player≤8191∧0≤p.born∧p.born≤1048576∧0≤p.wage∧p.wage≤1099511627776
instance (p:Per):Decidable (PerOk p):=by unfold PerOk;infer_instance
def PersOk (l:List Per):Prop:=(∀ p∈l,PerOk p)∧l.Pairwise fun a b=>a.player<b.player
instance (l:List Per):Decidable (PersOk l):=by unfold PersOk;infer_instance
def AgeOk (p:Per) (day:Int):Prop:=PerOk p∧p.born≤day∧day≤1048576
instance (p:Per) (day:Int):Decidable (AgeOk p day):=by unfold AgeOk;infer_instance
end Go.Hw
set_option maxRecDepth 100000
set_option maxHeartbeats 1600000
namespace Go.Hw
open Go
attribute [local irreducible] GO GOl GDp Val Fn Res Ab Du Blk Bd Cd
open Go.Proofs.Tryz (prog)
def lenCells:List Value:=[.int .i64 31,.int .i64 28,.int .i64 31,.int .i64 30,.int .i64 31,.int .i64 30,.int .i64 31,.int .i64 31,.int .i64 30,.int .i64 31,.int .i64 30,.int .i64 31]
def LenG (h:Ro):Prop:=Ab h ⟨0,0,none⟩ lenCells
theorem LenG.le {h h':Ro}(g:LenG h)(hl:Le h h'):LenG h':=Ab.le hl g
end Go.Hw
namespace Go.Hw
open Go
attribute [local irreducible] GO GOl GDp Val Fn Res Ab Du Blk Bd Cd
open Go.Proofs.Tryz (prog)
def v0:Ivl:=⟨0,0⟩
theorem Qv {α:Type}(d:α){l:List α}{i:Nat}(h:i<l.length):l.getD i d∈l:=by simp [List.getD,List.getElem?_eq_getElem h]
end Go.Hw
set_option maxHeartbeats 4000000
namespace Go.Hw
open Go
attribute [local irreducible] GO GOl GDp Val Fn Res Ab Du Blk Bd Cd
open Go.Proofs.Tryz (prog)
def Qu {α:Type} (p:α→Bool):List α→Nat→Int
 | [],_ => -1
 | x::r,k=>if p x then k else Qu p r (k+1)
theorem So {α:Type}(d:α){xs:List α}{k n:Nat}(hlen:xs.length=n)(hk:k<n):xs.drop k=xs.getD k d::xs.drop (k+1):=by
 rw [List.drop_eq_getElem_cons QAd];simp [List.getD,List.getElem?_eq_getElem (show k<xs.length by omega)]
def MoneyOk (l:List Int):Prop:=l.length≤64∧∀ n∈l,0≤n∧n≤1125899906842624
instance (l:List Int):Decidable (MoneyOk l):=by unfold MoneyOk;infer_instance
end Go.Hw
