import Derived.Test.YtlnenhhbalpbpabGreatDoorHB
import Derived.Test.YtlnenhhbalpbpabGreatDoorLT
set_option linter.all false
namespace Go.Hw
open Go
def Ela (y:Int):Prop:=y % 4=0∧(y % 100≠0∨y % 400=0)
instance (y:Int):Decidable (Ela y):=by unfold Ela;infer_instance
def lenM (y m:Int):Int:=if m=2 then (if Ela y then 29 else 28) else if m=4∨m=6∨m=9∨m=11 then 30 else 31
def lenY (y:Int):Int:=if Ela y then 366 else 365
def bef (y:Int):Int:=(y-2000) * 365+((y-1) / 4-(y-1) / 100+(y-1) / 400)-484
theorem bef_2000:bef 2000=0:=by decide
theorem Cja (y:Int):bef (y+1)=bef y+lenY y:=by
 unfold bef lenY
 by_cases h:Ela y
 · rw [if_pos h];unfold Ela at h;omega
 · rw [if_neg h];unfold Ela at h;omega
theorem lenY_pos (y:Int):365≤lenY y∧lenY y≤366:=by unfold lenY;split <;> omega
theorem bef_lt (y:Int):bef y<bef (y+1):=by rw [Cja];have:=lenY_pos y;omega
theorem Kna {a b:Int}(h:a≤b):bef a≤bef b:=by
 obtain ⟨k,rfl⟩:∃ k:Nat,b=a+k:=⟨(b-a).toNat,by omega⟩
 induction k with
 | zero=>simp
 | succ k ih =>
   have:=ih (by omega)
   have h2:=bef_lt (a+k)
   rw [show a+((k+1:Nat):Int)=a+k+1 by omega];omega
def mon (y m:Int):Int:=if m≤1 then 0 else if m=2 then 31 else 31+28+(if Ela y then 1 else 0)+(if m=3 then 0 else if m=4 then 31 else if m=5 then 61 else if m=6 then 92 else if m=7 then 122 else if m=8 then 153 else if m=9 then 184 else if m=10 then 214 else if m=11 then 245 else if m=12 then 275 else 306)
theorem Sb (y m:Int)(h1:1≤m)(h2:m≤12):mon y (m+1)=mon y m+lenM y m:=by
 have:m=1∨m=2∨m=3∨m=4∨m=5∨m=6∨m=7∨m=8∨m=9∨m=10∨m=11∨m=12:=by omega
 rcases this with rfl|rfl|rfl|rfl|rfl|rfl|rfl|rfl|rfl|rfl|rfl|rfl <;> simp [mon,lenM] <;> split <;> omega
theorem mon_13 (y:Int):mon y 13=lenY y:=by simp [mon,lenY];split <;> omega
theorem lenM_pos (y m:Int):28≤lenM y m∧lenM y m≤31:=by unfold lenM;split <;> (try split) <;> omega
theorem Vu {y a b:Int}(h1:1≤a)(h:a≤b)(h2:b≤13):mon y a≤mon y b:=by
 obtain ⟨k,rfl⟩:∃ k:Nat,b=a+k:=⟨(b-a).toNat,by omega⟩
 induction k with
 | zero=>simp
 | succ k ih =>
   have:=ih (by omega) (by omega)
   have h3:=Sb y (a+k) (by omega) (by omega)
   have h4:=lenM_pos y (a+k)
   rw [show a+((k+1:Nat):Int)=a+k+1 by omega];omega
structure Uz (n y m d:Int):Prop where
 lo:bef y+mon y m+d=n+1
 m1:1≤m
 m2:m≤12
 d1:1≤d
 d2:d≤lenM y m
theorem Uz.year {n y m d:Int}(h:Uz n y m d):bef y≤n∧n<bef (y+1):=by
 have h1:=Vu (y:=y) (show (1:Int)≤1 by omega) h.m1 (by have:=h.m2;omega)
 have h2:=Sb y m h.m1 h.m2
 have h3:=Vu (y:=y) (show (1:Int)≤m+1 by have:=h.m1;omega) (show m+1≤13 by have:=h.m2;omega) (by omega)
 rw [mon_13] at h3
 have e1:mon y 1=0:=by simp [mon]
 have:=h.lo;have:=h.d1;have:=h.d2
 rw [Cja];omega
theorem Uz.unique {n y m d y' m' d':Int}(h:Uz n y m d)(k:Uz n y' m' d'):y=y'∧m=m'∧d=d':=by
 have hy:y=y':=by
  have a:=h.year;have b:=k.year
  by_cases hlt:y<y'
  · have:=Kna (show y+1≤y' by omega);omega
  · by_cases hgt:y'<y
    · have:=Kna (show y'+1≤y by omega);omega
    · omega
 subst hy
 have hm:m=m':=by
  have a:=Sb y m h.m1 h.m2;have b:=Sb y m' k.m1 k.m2
  have:=h.lo;have:=k.lo;have:=h.d1;have:=h.d2;have:=k.d1;have:=k.d2
  have:=h.m1;have:=h.m2;have:=k.m1;have:=k.m2
  by_cases hlt:m<m'
  · have:=Vu (y:=y) (show (1:Int)≤m+1 by omega) (show m+1≤m' by omega) (by omega);omega
  · by_cases hgt:m'<m
    · have:=Vu (y:=y) (show (1:Int)≤m'+1 by omega) (show m'+1≤m by omega) (by omega);omega
    · omega
 subst hm
 have:=h.lo;have:=k.lo
 exact ⟨rfl,rfl,by omega⟩
def A6a:Nat→Int→Int→Int
 | 0,y,_=>y
 | k+1,y,n=>if n<bef (y+1) then y else A6a k (y+1) n
theorem I4a:∀ (k:Nat) (y n:Int),bef y≤n→n<bef (y+k)→bef (A6a k y n)≤n∧n<bef (A6a k y n+1)∧y≤A6a k y n∧A6a k y n≤y+k
 | 0,y,n,h1,h2=>by simp at h2;omega
 | k+1,y,n,h1,h2=>by
   unfold A6a
   split
   · rename_i h;exact ⟨h1,h,by omega,by omega⟩
   · rename_i h
     have:=I4a k (y+1) n (by omega) (by rw [show y+1+(k:Int)=y+((k+1:Nat):Int) by omega];exact h2)
     exact ⟨this.1,this.2.1,by omega,by omega⟩
def monF:Nat→Int→Int→Int→Int
 | 0,_,m,_=>m
 | k+1,y,m,n=>if n<mon y (m+1) then m else monF k y (m+1) n
theorem monF_ok:∀ (k:Nat) (y m n:Int),mon y m≤n→n<mon y (m+k)→mon y (monF k y m n)≤n∧n<mon y (monF k y m n+1)∧m≤monF k y m n∧monF k y m n<m+k
 | 0,y,m,n,h1,h2=>by simp at h2;omega
 | k+1,y,m,n,h1,h2=>by
   unfold monF
   split
   · rename_i h;exact ⟨h1,h,by omega,by omega⟩
   · rename_i h
     have:=monF_ok k y (m+1) n (by omega) (by rw [show m+1+(k:Int)=m+((k+1:Nat):Int) by omega];exact h2)
     exact ⟨this.1,this.2.1,by omega,by omega⟩
def Yd (n:Int):Int:=A6a 4000 2000 n
def Mta (n:Int):Int:=monF 12 (Yd n) 1 (n-bef (Yd n))
def dateD (n:Int):Int:=n-bef (Yd n)-mon (Yd n) (Mta n)+1
theorem bef_6000:bef 6000=1460970:=by decide
theorem date_ok {n:Int}(h0:0≤n)(h1:n≤1048576):Uz n (Yd n) (Mta n) (dateD n):=by
 have hy:=I4a 4000 2000 n (by rw [bef_2000];exact h0) (by rw [show (2000:Int)+(4000:Nat)=6000 by omega,bef_6000];omega)
 have hm:=monF_ok 12 (Yd n) 1 (n-bef (Yd n)) (by simp [mon];exact hy.1) (by
  rw [show (1:Int)+(12:Nat)=13 by omega,mon_13];have h2:=hy.2.1;rw [Cja] at h2;show n-bef (A6a 4000 2000 n)<lenY (A6a 4000 2000 n);omega)
 have hs:=Sb (Yd n) (Mta n) hm.2.2.1 (by have:=hm.2.2.2;show monF _ _ _ _≤12;omega)
 refine ⟨by unfold dateD;omega,hm.2.2.1,?_,?_,?_⟩
 · have:=hm.2.2.2;show monF _ _ _ _≤12;omega
 · have:=hm.1;unfold dateD Mta;omega
 · have h3:=hm.2.1
   rw [show monF 12 (Yd n) 1 (n-bef (Yd n))+1=Mta n+1 from rfl,hs] at h3
   unfold dateD;omega
theorem Uz.eq {n y m d:Int}(h0:0≤n)(h1:n≤1048576)(h:Uz n y m d):y=Yd n∧m=Mta n∧d=dateD n:=h.unique (date_ok h0 h1)
structure Ivl where
 lo:Int
 hi:Int
deriving DecidableEq
structure Per where
 player:Int
 born:Int
 home:Bool
 wage:Int
deriving DecidableEq
structure Quo where
 size:Int
 grown:Int
 young:Int
 inn:Int
 out:Int
 cap:Int
 wins:List Ivl
def IvlOk (i:Ivl):Prop:=0≤i.lo∧i.lo≤1048576∧0≤i.hi∧i.hi≤1048576∧i.lo≤i.hi
instance (i:Ivl):Decidable (IvlOk i):=by unfold IvlOk;infer_instance
def QuoOk (q:Quo):Prop:=1≤q.size∧q.size≤40∧0≤q.grown∧q.grown≤q.size∧0≤q.young∧q.young≤40∧0≤q.inn∧q.inn≤40∧0≤q.out∧q.out≤40∧0≤q.cap∧q.cap≤1125899906842624∧q.wins.length≤16∧∀ w∈q.wins,IvlOk w
instance (q:Quo):Decidable (QuoOk q):=by unfold QuoOk;infer_instance
def PerOk (p:Per):Prop:=0≤p.player∧p.player≤8191∧0≤p.born∧p.born≤1048576∧0≤p.wage∧p.wage≤1099511627776
instance (p:Per):Decidable (PerOk p):=by unfold PerOk;infer_instance
def PersOk (l:List Per):Prop:=(∀ p∈l,PerOk p)∧l.Pairwise fun a b=>a.player<b.player
instance (l:List Per):Decidable (PersOk l):=by unfold PersOk;infer_instance
def AgeOk (p:Per) (day:Int):Prop:=PerOk p∧p.born≤day∧day≤1048576
instance (p:Per) (day:Int):Decidable (AgeOk p day):=by unfold AgeOk;infer_instance
end Go.Hw
set_option maxRecDepth 100000
set_option maxHeartbeats 1600000
namespace Go.Hw
open Go
attribute [local irreducible] GO GOl GDp Val Fn Res At Fx Blk By Dk
open Go.Proofs (Tryz.prog)
def lenCells:List Value:=[.int .i64 31,.int .i64 28,.int .i64 31,.int .i64 30,.int .i64 31,.int .i64 30,.int .i64 31,.int .i64 31,.int .i64 30,.int .i64 31,.int .i64 30,.int .i64 31]
def LenG (h:Ro):Prop:=At h ⟨0,0,none⟩ lenCells
theorem LenG.le {h h':Ro}(g:LenG h)(hl:Le h h'):LenG h':=At.le hl g
end Go.Hw
namespace Go.Hw
open Go
attribute [local irreducible] GO GOl GDp Val Fn Res At Fx Blk By Dk
open Go.Proofs (Tryz.prog)
def v0:Ivl:=⟨0,0⟩
theorem B0a {α:Type}(d:α){l:List α}{i:Nat}(h:i<l.length):l.getD i d∈l:=by simp [List.getD,List.getElem?_eq_getElem h]
end Go.Hw
set_option maxHeartbeats 4000000
namespace Go.Hw
open Go
attribute [local irreducible] GO GOl GDp Val Fn Res At Fx Blk By Dk
open Go.Proofs (Tryz.prog)
def Za {α:Type} (p:α→Bool):List α→Nat→Int
 | [],_ => -1
 | x::r,k=>if p x then k else Za p r (k+1)
theorem Aqa {α:Type}(d:α){xs:List α}{k n:Nat}(hlen:xs.length=n)(hk:k<n):xs.drop k=xs.getD k d::xs.drop (k+1):=by
 rw [List.drop_eq_getElem_cons (by omega)];simp [List.getD,List.getElem?_eq_getElem (show k<xs.length by omega)]
def MoneyOk (l:List Int):Prop:=l.length≤64∧∀ n∈l,0≤n∧n≤1125899906842624
instance (l:List Int):Decidable (MoneyOk l):=by unfold MoneyOk;infer_instance
end Go.Hw
