import Derived.Test.YtbmffdagfjepgaaGreatDoorYX
import Derived.Test.YtbmffdagfjepgaaGreatDoorBJ
set_option linter.all false
set_option maxRecDepth 100000
namespace Go.Proofs.YtbmffdagfjepgaaGreatDoor
open Go Go.ChangeShapes Go.WideShapes Go.RowKit Go.ChangeAt Go.Hw
def Ane (os:Os)(u:os.Started)(H:Type)(enc:TypeId×Value→H) :
  ReturnsInHanded {} Tryz.checked os 3 .any (λw args=>(Rows.bracketViewSpecSpec.pre enc Tryz.prog Tryz.f3 [] false w args∧laidMetH Tryz.prog Ta w)∧sizedMet enc Tryz.prog Tryz.f3 (OpenSpec.ofChange Rows.bracketViewSpecSpec) false w args)
   (Rows.bracketViewSpecSpec.post enc Tryz.prog Tryz.f3 false true false false):=by
 refine returnsInHanded_of_change_and (C:=Tryz.checked) (X:=λw _=>laidMetH Tryz.prog Ta w) (λ_ _ _ hh h=>h.of_heap hh) own u GH Tryz.func3
  (ChangeSpec.witness_shaped (enc:=enc) (C:=Tryz.checked) (os:=os) (X:=λw _=>laidMetH Tryz.prog Ta w) false (World.doorLaid Tryz.prog 400 os) #[.slice none 0 0,O 0,O 0,.agg #[O 0,.bool false]] 8 rfl (World.shaped_of_RefB GH GH) GH GH GH (Ard os _)) ?_
 intro W base args ds gs y l c _ _ hL _
 have a:∀(j:Nat) t v,Tryz.f3.params[j]?=some t→args[j]?=some v→Value.okWide Tryz.prog W .any base t v:=l
 have hG:=Ald hL
 have i:=c
 obtain⟨p,q,f,g,rfl,ag,ah⟩:=c
 have b:DataW.TrodAll enc Tryz.prog W 0 (λ_=>true) true Tryz.f3.params.toList args.toList ds p:=f
 rw[Tryz.params3]at b a
 obtain⟨v0,ap,z,ab,AS,al,af,rfl,rfl,h0,r0⟩:=trodAll_cons b
 obtain⟨v1,aq,d1,ac,ai,am,rfl,rfl,rfl,h1,r⟩:=trodAll_cons r0
 obtain⟨d,ar,d2,ad,aj,an,rfl,rfl,rfl,h2,r2⟩:=trodAll_cons r
 obtain⟨v3,au,aa,ae,ak,ao,rfl,rfl,rfl,h3,s⟩:=trodAll_cons r2
 obtain⟨rfl,rfl,rfl⟩:=trodAll_nil s
 obtain rfl:args=#[v0,v1,d,v3]:=by cases args;simp_all
 obtain⟨rfl,rfl⟩:=trodVars_none g
 obtain⟨e,HS,c0,x,rfl,m,k⟩:=Aub (a 0 22 v0 rfl rfl) h0
 obtain⟨n,rfl⟩:=mE (a 1 3 v1 rfl rfl)
 obtain⟨o,rfl⟩:=mE (a 2 3 d rfl rfl)
 obtain⟨t3,rfl⟩:=Aua (a 3 24 v3 rfl rfl) h3
 exact Anq An0 GH (tb:=4) GH Tryz.underlying4 rfl rfl i (Abj (A06 _ hG e HS c0 x m k n o t3))
end Go.Proofs.YtbmffdagfjepgaaGreatDoor
