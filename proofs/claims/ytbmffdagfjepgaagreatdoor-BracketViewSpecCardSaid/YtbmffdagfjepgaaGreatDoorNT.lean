import Derived.Test.YtbmffdagfjepgaaGreatDoorProg
import Derived.Test.YtbmffdagfjepgaaGreatDoorHB
set_option linter.all false
set_option maxRecDepth 100000
namespace Go.Hw
open Go
open Go.Proofs.Tryz (prog)
def Ab {n:Nat}{f:Func}(h:prog.funcs[n]?=some f)(a:f.body.isNone=false:=by kernel_rfl)(b:(f.name== "runtime.NumGoroutine")=false:=by kernel_rfl):BP prog n:=⟨f,h,a,b⟩
def Br (t o:Nat) (b:Bool:=false):Field:={name:=if b then "_" else "",type:=t,offset:=o,embedded:=false,tag:= "",pkgPath:= "",byteOffset:=0}
def Ag8:Ay:=⟨2,.int .i64,1,8,O 0⟩
def JG:Ay:=⟨3,.int .i64,1,8,O 0⟩
def Afv:Ay:=⟨4,.bool,1,1,.bool false⟩
def Afr:Ay:=⟨5,.int .u8,1,1,.int .u8 0⟩
def Afd:Ay:=⟨9,.string,1,16,.string ByteArray.empty⟩
def Ag4:Ay:=⟨22,.slice 71,1,24,.slice none 0 0⟩
def Agw:Ay:=⟨24,.struct #[Br 3 0,Br 4 1],2,16,.agg #[O 0,.bool false]⟩
def Agl:Ay:=⟨27,.slice 80,1,24,.slice none 0 0⟩
def NA:Ay:=⟨29,.struct #[Br 24 0,Br 27 2],3,40,.agg #[O 0,.bool false,.slice none 0 0]⟩
def Agd:Ay:=⟨30,.int .i64,1,8,O 0⟩
def SO:Ay:=⟨36,.struct #[Br 3 0,Br 3 1,Br 3 2,Br 3 3],4,32,.agg #[O 0,O 0,O 0,O 0]⟩
def ID:Ay:=⟨38,.struct #[Br 36 0,Br 3 4,Br 3 5,Br 3 6,Br 3 7,Br 3 8,Br 3 9,Br 3 10,Br 4 11,Br 4 12],13,96,.agg #[O 0,O 0,O 0,O 0,O 0,O 0,O 0,O 0,O 0,O 0,O 0,.bool false,.bool false]⟩
def Afu:Ay:=⟨40,.slice 38,1,24,.slice none 0 0⟩
def Iq:Ay:=⟨42,.struct #[Br 3 0,Br 3 1,Br 40 2],3,40,.agg #[O 0,O 0,.slice none 0 0]⟩
def Afs:Ay:=⟨46,.slice 3,1,24,.slice none 0 0⟩
def Afq:Ay:=⟨50,.func #[71] #[4] false,1,8,.nilFunc⟩
def Zc:Ay:=⟨52,.struct #[Br 3 0,Br 3 1,Br 46 2,Br 9 3],4,56,.agg #[O 0,O 0,.slice none 0 0,.string ByteArray.empty]⟩
def Afp:Ay:=⟨54,.struct #[Br 36 0,Br 3 4],5,40,.agg #[O 0,O 0,O 0,O 0,O 0]⟩
def Afo:Ay:=⟨55,.slice 186,1,24,.slice none 0 0⟩
def Afn:Ay:=⟨57,.struct #[Br 36 0,Br 3 4,Br 3 5,Br 3 6,Br 3 7,Br 3 8,Br 46 9,Br 46 10,Br 55 11,Br 55 12],13,168,.agg #[O 0,O 0,O 0,O 0,O 0,O 0,O 0,O 0,O 0,.slice none 0 0,.slice none 0 0,.slice none 0 0,.slice none 0 0]⟩
def Afm:Ay:=⟨59,.struct #[Br 3 0,Br 3 1],2,16,.agg #[O 0,O 0]⟩
def iQ:Ay:=⟨61,.struct #[Br 3 0,Br 3 1,Br 3 2,Br 36 3,Br 3 7,Br 3 8,Br 3 9,Br 3 10,Br 3 11,Br 3 12,Br 3 13,Br 3 14,Br 59 15],17,136,.agg (Array.replicate 17 (O 0))⟩
def Afl:Ay:=⟨63,.struct #[Br 3 0,Br 3 1,Br 4 2],3,24,.agg #[O 0,O 0,.bool false]⟩
def Afk:Ay:=⟨65,.struct #[Br 3 0,Br 3 1],2,16,.agg #[O 0,O 0]⟩
def Afj:Ay:=⟨67,.struct #[Br 3 0,Br 3 1,Br 46 2],3,40,.agg #[O 0,O 0,.slice none 0 0]⟩
def Afi:Ay:=⟨68,.array 32 5,32,32,.agg (Array.replicate 32 (.int .u8 0))⟩
def Afh:Ay:=⟨69,.array 32 5,32,32,.agg (Array.replicate 32 (.int .u8 0))⟩
def F':Ay:=⟨71,.struct #[Br 3 0,Br 3 1,Br 3 2,Br 52 3,Br 54 7,Br 57 12,Br 61 25,Br 63 42,Br 65 45,Br 67 47,Br 69 50],82,536,.agg #[O 0,O 0,O 0,O 0,O 0,.slice none 0 0,.string ByteArray.empty,O 0,O 0,O 0,O 0,O 0,O 0,O 0,O 0,O 0,O 0,O 0,O 0,O 0,O 0,.slice none 0 0,.slice none 0 0,.slice none 0 0,.slice none 0 0,O 0,O 0,O 0,O 0,O 0,O 0,O 0,O 0,O 0,O 0,O 0,O 0,O 0,O 0,O 0,O 0,O 0,O 0,O 0,.bool false,O 0,O 0,O 0,O 0,.slice none 0 0,.int .u8 0,.int .u8 0,.int .u8 0,.int .u8 0,.int .u8 0,.int .u8 0,.int .u8 0,.int .u8 0,.int .u8 0,.int .u8 0,.int .u8 0,.int .u8 0,.int .u8 0,.int .u8 0,.int .u8 0,.int .u8 0,.int .u8 0,.int .u8 0,.int .u8 0,.int .u8 0,.int .u8 0,.int .u8 0,.int .u8 0,.int .u8 0,.int .u8 0,.int .u8 0,.int .u8 0,.int .u8 0,.int .u8 0,.int .u8 0,.int .u8 0,.int .u8 0]⟩
def JV:Ay:=⟨80,.slice 42,1,24,.slice none 0 0⟩
def Afg:Ay:=⟨81,.func #[42,42] #[4] false,1,8,.nilFunc⟩
def Aff:Ay:=⟨85,.struct #[Br 42 0,Br 24 3],5,56,.agg #[O 0,O 0,.slice none 0 0,O 0,.bool false]⟩
def Afe:Ay:=⟨88,.int .u64,1,8,.int .u64 0⟩
def Afc:Ay:=⟨91,.func #[3,3] #[42] false,1,8,.nilFunc⟩
def Afb:Ay:=⟨96,.func #[38] #[4] false,1,8,.nilFunc⟩
def Afa:Ay:=⟨97,.func #[42] #[4] false,1,8,.nilFunc⟩
def Ahu:Ay:=⟨104,.func #[71,71] #[3] false,1,8,.nilFunc⟩
def Aht:Ay:=⟨107,.func #[129] #[] false,1,8,.nilFunc⟩
def Ahs:Ay:=⟨117,.func #[38,38] #[3] false,1,8,.nilFunc⟩
def Ahr:Ay:=⟨118,.func #[71,71] #[4] false,1,8,.nilFunc⟩
def Ahq:Ay:=⟨121,.slice 36,1,24,.slice none 0 0⟩
def Ahp:Ay:=⟨129,.func #[3] #[4] false,1,8,.nilFunc⟩
def Aho:Ay:=⟨132,.struct #[Br 3 0,Br 3 1,Br 3 2],3,24,.agg #[O 0,O 0,O 0]⟩
def Ahn:Ay:=⟨135,.int .u32,1,4,.int .u32 0⟩
def Ahm:Ay:=⟨137,.int .u64,1,8,.int .u64 0⟩
def Ahl:Ay:=⟨146,.array 2 4,2,2,.agg #[.bool false,.bool false]⟩
def Ahk:Ay:=⟨147,.func #[71,153] #[] false,1,8,.nilFunc⟩
def Ahj:Ay:=⟨149,.struct #[Br 50 0,Br 147 1],2,16,.agg #[.nilFunc,.nilFunc]⟩
def Ahi:Ay:=⟨151,.map 3 149,1,8,.map none⟩
def Ahh:Ay:=⟨153,.pointer 71,1,8,.pointer none⟩
def Ahg:Ay:=⟨154,.slice 5,1,24,.slice none 0 0⟩
def Ahf:Ay:=⟨160,.map 36 4,1,8,.map none⟩
def Ahe:Ay:=⟨164,.func #[36,61,3] #[38,4] false,1,8,.nilFunc⟩
def Ahd:Ay:=⟨165,.map 3 164,1,8,.map none⟩
def QW:Ay:=⟨172,.struct #[Br 3 0,Br 57 1,Br 3 14],15,184,.agg #[O 0,O 0,O 0,O 0,O 0,O 0,O 0,O 0,O 0,O 0,.slice none 0 0,.slice none 0 0,.slice none 0 0,.slice none 0 0,O 0]⟩
def Ahc:Ay:=⟨182,.func #[61] #[4] false,1,8,.nilFunc⟩
def Tx:Ay:=⟨186,.struct #[Br 3 0,Br 4 1],2,16,.agg #[O 0,.bool false]⟩
def Ahb:Ay:=⟨187,.slice 193,1,24,.slice none 0 0⟩
def Aha:Ay:=⟨191,.slice 9,1,24,.slice none 0 0⟩
def Ag9:Ay:=⟨193,.struct #[Br 3 0,Br 3 1,Br 9 2,Br 187 3,Br 191 4],5,80,.agg #[O 0,O 0,.string ByteArray.empty,.slice none 0 0,.slice none 0 0]⟩
def Ag7:Ay:=⟨203,.int .i64,1,8,O 0⟩
def Ag6:Ay:=⟨217,.func #[61,223] #[] false,1,8,.nilFunc⟩
def Ag5:Ay:=⟨219,.struct #[Br 182 0,Br 217 1],2,16,.agg #[.nilFunc,.nilFunc]⟩
def Ag3:Ay:=⟨221,.map 3 219,1,8,.map none⟩
def Ag2:Ay:=⟨223,.pointer 61,1,8,.pointer none⟩
def Ag1:Ay:=⟨224,.map 3 4,1,8,.map none⟩
def Ag0:Ay:=⟨225,.func #[193] #[4] false,1,8,.nilFunc⟩
def Agz:Ay:=⟨233,.func #[154,193] #[154] false,1,8,.nilFunc⟩
def Agy:Ay:=⟨235,.struct #[Br 233 0],1,8,.agg #[.nilFunc]⟩
def Agx:Ay:=⟨236,.pointer 287,1,8,.pointer none⟩
def Agv:Ay:=⟨244,.slice 246,1,24,.slice none 0 0⟩
def Agu:Ay:=⟨246,.pointer 295,1,8,.pointer none⟩
def Agt:Ay:=⟨251,.array 2 71,164,1072,.agg #[O 0,O 0,O 0,O 0,O 0,.slice none 0 0,.string ByteArray.empty,O 0,O 0,O 0,O 0,O 0,O 0,O 0,O 0,O 0,O 0,O 0,O 0,O 0,O 0,.slice none 0 0,.slice none 0 0,.slice none 0 0,.slice none 0 0,O 0,O 0,O 0,O 0,O 0,O 0,O 0,O 0,O 0,O 0,O 0,O 0,O 0,O 0,O 0,O 0,O 0,O 0,O 0,.bool false,O 0,O 0,O 0,O 0,.slice none 0 0,.int .u8 0,.int .u8 0,.int .u8 0,.int .u8 0,.int .u8 0,.int .u8 0,.int .u8 0,.int .u8 0,.int .u8 0,.int .u8 0,.int .u8 0,.int .u8 0,.int .u8 0,.int .u8 0,.int .u8 0,.int .u8 0,.int .u8 0,.int .u8 0,.int .u8 0,.int .u8 0,.int .u8 0,.int .u8 0,.int .u8 0,.int .u8 0,.int .u8 0,.int .u8 0,.int .u8 0,.int .u8 0,.int .u8 0,.int .u8 0,.int .u8 0,.int .u8 0,O 0,O 0,O 0,O 0,O 0,.slice none 0 0,.string ByteArray.empty,O 0,O 0,O 0,O 0,O 0,O 0,O 0,O 0,O 0,O 0,O 0,O 0,O 0,O 0,.slice none 0 0,.slice none 0 0,.slice none 0 0,.slice none 0 0,O 0,O 0,O 0,O 0,O 0,O 0,O 0,O 0,O 0,O 0,O 0,O 0,O 0,O 0,O 0,O 0,O 0,O 0,O 0,.bool false,O 0,O 0,O 0,O 0,.slice none 0 0,.int .u8 0,.int .u8 0,.int .u8 0,.int .u8 0,.int .u8 0,.int .u8 0,.int .u8 0,.int .u8 0,.int .u8 0,.int .u8 0,.int .u8 0,.int .u8 0,.int .u8 0,.int .u8 0,.int .u8 0,.int .u8 0,.int .u8 0,.int .u8 0,.int .u8 0,.int .u8 0,.int .u8 0,.int .u8 0,.int .u8 0,.int .u8 0,.int .u8 0,.int .u8 0,.int .u8 0,.int .u8 0,.int .u8 0,.int .u8 0,.int .u8 0,.int .u8 0]⟩
def Ags:Ay:=⟨252,.map 36 251,1,8,.map none⟩
def Agr:Ay:=⟨255,.slice 258,1,24,.slice none 0 0⟩
def Agq:Ay:=⟨258,.struct #[Br 3 0,Br 3 1,Br 36 2],6,48,.agg #[O 0,O 0,O 0,O 0,O 0,O 0]⟩
def Agp:Ay:=⟨260,.struct #[Br 3 0,Br 3 1],2,16,.agg #[O 0,O 0]⟩
def Ago:Ay:=⟨264,.func #[260] #[4] false,1,8,.nilFunc⟩
def Agn:Ay:=⟨267,.struct #[Br 264 0,Br 264 1,Br 264 2],3,24,.agg #[.nilFunc,.nilFunc,.nilFunc]⟩
def Agm:Ay:=⟨269,.int .u64,1,8,.int .u64 0⟩
def Agk:Ay:=⟨273,.pointer 3,1,8,.pointer none⟩
def Agj:Ay:=⟨282,.func #[186] #[4] false,1,8,.nilFunc⟩
def Agi:Ay:=⟨287,.array 5 235,5,40,.agg #[.nilFunc,.nilFunc,.nilFunc,.nilFunc,.nilFunc]⟩
def Agh:Ay:=⟨292,.map 3 246,1,8,.map none⟩
def Agg:Ay:=⟨293,.array 4 4,4,4,.agg #[.bool false,.bool false,.bool false,.bool false]⟩
def Agf:Ay:=⟨295,.struct #[Br 3 0,Br 22 1,Br 293 2],6,40,.agg #[O 0,.slice none 0 0,.bool false,.bool false,.bool false,.bool false]⟩
def Age:Ay:=⟨299,.func #[246,246] #[3] false,1,8,.nilFunc⟩
def Agc:Ay:=⟨303,.slice 172,1,24,.slice none 0 0⟩
def Agb:Ay:=⟨305,.map 3 3,1,8,.map none⟩
def Aga:Ay:=⟨306,.map 3 311,1,8,.map none⟩
def Af9:Ay:=⟨308,.slice 260,1,24,.slice none 0 0⟩
def Af8:Ay:=⟨311,.struct #[Br 3 0,Br 4 1],2,16,.agg #[O 0,.bool false]⟩
def Af7:Ay:=⟨313,.func #[172] #[4] false,1,8,.nilFunc⟩
def Af6:Ay:=⟨315,.slice 61,1,24,.slice none 0 0⟩
def Af5:Ay:=⟨331,.func #[246,246] #[4] false,1,8,.nilFunc⟩
def Af4:Ay:=⟨333,.func #[172,172] #[3] false,1,8,.nilFunc⟩
def Af3:Ay:=⟨336,.func #[260,260] #[3] false,1,8,.nilFunc⟩
def Af2:Ay:=⟨341,.array 5 4,5,5,.agg #[.bool false,.bool false,.bool false,.bool false,.bool false]⟩
def Af1:Ay:=⟨346,.func #[36,36] #[3] false,1,8,.nilFunc⟩
def Af0:Ay:=⟨347,.func #[36,251] #[4] false,1,8,.nilFunc⟩
def Afz:Ay:=⟨349,.slice 55,1,24,.slice none 0 0⟩
def Afy:Ay:=⟨353,.array 24 5,24,24,.agg (Array.replicate 24 (.int .u8 0))⟩
def Afx:Ay:=⟨380,.array 20 137,20,160,.agg (Array.replicate 20 (.int .u64 0))⟩
def Afw:Ay:=⟨381,.array 65 5,65,65,.agg (Array.replicate 65 (.int .u8 0))⟩
def Aft:Ay:=⟨401,.array 64 5,64,64,.agg (Array.replicate 64 (.int .u8 0))⟩
def ts:ER:=[Ag8,JG,Afv,Afr,Afd,Ag4,Agw,Agl,NA,Agd,SO,ID,Afu,Iq,Afs,Afq,Zc,Afp,Afo,Afn,Afm,iQ,Afl,Afk,Afj,Afi,Afh,F',JV,Afg,Aff,Afe,Afc,Afb,Afa,Ahu,Aht,Ahs,Ahr,Ahq,Ahp,Aho,Ahn,Ahm,Ahl,Ahk,Ahj,Ahi,Ahh,Ahg,Ahf,Ahe,Ahd,QW,Ahc,Tx,Ahb,Aha,Ag9,Ag7,Ag6,Ag5,Ag3,Ag2,Ag1,Ag0,Agz,Agy,Agx,Agv,Agu,Agt,Ags,Agr,Agq,Agp,Ago,Agn,Agm,Agk,Agj,Agi,Agh,Agg,Agf,Age,Agc,Agb,Aga,Af9,Af8,Af7,Af6,Af5,Af4,Af3,Af2,Af1,Af0,Afz,Afy,Afx,Afw,Aft]
def It:FZ prog ts:=by intro t a;simp only[ts,Bx,JX,or_false]at a;rcases a with rfl|rfl|rfl|rfl|rfl|rfl|rfl|rfl|rfl|rfl|rfl|rfl|rfl|rfl|rfl|rfl|rfl|rfl|rfl|rfl|rfl|rfl|rfl|rfl|rfl|rfl|rfl|rfl|rfl|rfl|rfl|rfl|rfl|rfl|rfl|rfl|rfl|rfl|rfl|rfl|rfl|rfl|rfl|rfl|rfl|rfl|rfl|rfl|rfl|rfl|rfl|rfl|rfl|rfl|rfl|rfl|rfl|rfl|rfl|rfl|rfl|rfl|rfl|rfl|rfl|rfl|rfl|rfl|rfl|rfl|rfl|rfl|rfl|rfl|rfl|rfl|rfl|rfl|rfl|rfl|rfl|rfl|rfl|rfl|rfl|rfl|rfl|rfl|rfl|rfl|rfl|rfl|rfl|rfl|rfl|rfl|rfl|rfl|rfl|rfl|rfl|rfl|rfl|rfl;all_goals exact⟨oY,oY⟩
open Go.Proofs (Tryz.prog)
def AK {f:FuncId}{fn:Func}{c:Code}{args:Ao}{h0:U}{v:Value}(hf:Tryz.prog.funcs[f]?=some fn)(g:∀w0 X0,AI (PO Tryz.prog ts It fn w0 X0 h0 (N' v)) [] (NH 0 args) [] h0 [.code c])(a:fn.body=some c:=by exact F)(hn:Nat.ble args.length fn.ntmps=true:=by exact F):Aq Tryz.prog f args.toArray h0 v:=Aur It hf a hn g
def BB {f:FuncId}{fn:Func}{c:Code}{args:Ao}{h0:U}{R:Value→U→Prop}(hf:Tryz.prog.funcs[f]?=some fn)(g:∀w0 X0,AI (PO Tryz.prog ts It fn w0 X0 h0 (M' R)) [] (NH 0 args) [] h0 [.code c])(a:fn.body=some c:=by exact F)(hn:Nat.ble args.length fn.ntmps=true:=by exact F):Az Tryz.prog f args.toArray h0 R:=Av3 It hf a hn g
def Cx {f:FuncId}{fn:Func}{c:Code}{args:Ao}{h0:U}{Es0:Am}{Post:Value→Am→U→Prop}(hf:Tryz.prog.funcs[f]?=some fn)(g:∀w0 X0,AI (PO Tryz.prog ts It fn w0 X0 h0 (Post)) [] (NH 0 args) Es0 h0 [.code c])(a:fn.body=some c:=by exact F)(hn:Nat.ble args.length fn.ntmps=true:=by exact F):AP Tryz.prog f args.toArray Es0 h0 Post:=fA It hf a hn g
end Go.Hw