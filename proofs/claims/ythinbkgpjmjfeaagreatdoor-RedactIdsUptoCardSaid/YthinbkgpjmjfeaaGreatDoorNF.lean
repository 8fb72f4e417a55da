/- A part of the proof (the C_ facts of its row). -/
import Derived.Test.YthinbkgpjmjfeaaGreatDoorRows
import Derived.JoinedCond
namespace Go.Proofs.YthinbkgpjmjfeaaGreatDoor.redactIds
open Go.Proofs.Tryz
set_option maxRecDepth 100000
theorem and2{a b:Bool}(ha:a=true)(hb:b=true):(a&&b)=true:=by rw[ha,hb];rfl
theorem f0:(λ(_P:Program)(_f:FuncId)(_fn:Func)(s:ChangeSpec)(c:OpenClaim)=>(c.wf (OpenSpec.ofChange s):Bool)) prog 10 Tryz.f10 (Rows.OpenSpec.upto Rows.redactIdsSpec).bare Rows.redactIdsUptoRow=true:=by kernel_rfl
theorem f1:(λ(P:Program)(_f:FuncId)(_fn:Func)(_s:ChangeSpec)(_c:OpenClaim)=>(laidOutB P:Bool)) prog 10 Tryz.f10 (Rows.OpenSpec.upto Rows.redactIdsSpec).bare Rows.redactIdsUptoRow=true:=by kernel_rfl
theorem f2:(λ(P:Program)(_f:FuncId)(_fn:Func)(_s:ChangeSpec)(_c:OpenClaim)=>(mapsRowed P:Bool)) prog 10 Tryz.f10 (Rows.OpenSpec.upto Rows.redactIdsSpec).bare Rows.redactIdsUptoRow=true:=by kernel_rfl
theorem f3:(λ(P:Program)(_f:FuncId)(fn:Func)(_s:ChangeSpec)(_c:OpenClaim)=>(fn.params.all (P.readableRec ·):Bool)) prog 10 Tryz.f10 (Rows.OpenSpec.upto Rows.redactIdsSpec).bare Rows.redactIdsUptoRow=true:=by kernel_rfl
theorem f4:(λ(P:Program)(_f:FuncId)(_fn:Func)(s:ChangeSpec)(c:OpenClaim)=>(namedTie P c.named s.vars:Bool)) prog 10 Tryz.f10 (Rows.OpenSpec.upto Rows.redactIdsSpec).bare Rows.redactIdsUptoRow=true:=by kernel_rfl
theorem f5:(λ(_P:Program)(_f:FuncId)(_fn:Func)(_s:ChangeSpec)(c:OpenClaim)=>((c.stops==[]):Bool)) prog 10 Tryz.f10 (Rows.OpenSpec.upto Rows.redactIdsSpec).bare Rows.redactIdsUptoRow=true:=by kernel_rfl
theorem f6:(λ(P:Program)(_f:FuncId)(_fn:Func)(_s:ChangeSpec)(_c:OpenClaim)=>((P.stops==[]):Bool)) prog 10 Tryz.f10 (Rows.OpenSpec.upto Rows.redactIdsSpec).bare Rows.redactIdsUptoRow=true:=by kernel_rfl
theorem f7:(λ(_P:Program)(_f:FuncId)(_fn:Func)(_s:ChangeSpec)(c:OpenClaim)=>((c.knobs==[]):Bool)) prog 10 Tryz.f10 (Rows.OpenSpec.upto Rows.redactIdsSpec).bare Rows.redactIdsUptoRow=true:=by kernel_rfl
theorem f8:(λ(P:Program)(_f:FuncId)(_fn:Func)(_s:ChangeSpec)(_c:OpenClaim)=>((P.stopKnobs==[]):Bool)) prog 10 Tryz.f10 (Rows.OpenSpec.upto Rows.redactIdsSpec).bare Rows.redactIdsUptoRow=true:=by kernel_rfl
theorem f9:(λ(P:Program)(f:FuncId)(_fn:Func)(_s:ChangeSpec)(c:OpenClaim)=>((c.inPlace==P.inPlace f):Bool)) prog 10 Tryz.f10 (Rows.OpenSpec.upto Rows.redactIdsSpec).bare Rows.redactIdsUptoRow=true:=by kernel_rfl
theorem f10:(λ(P:Program)(f:FuncId)(_fn:Func)(_s:ChangeSpec)(c:OpenClaim)=>((c.unfollowed==P.unfollowed f):Bool)) prog 10 Tryz.f10 (Rows.OpenSpec.upto Rows.redactIdsSpec).bare Rows.redactIdsUptoRow=true:=by kernel_rfl
theorem f11:(λ(P:Program)(f:FuncId)(_fn:Func)(_s:ChangeSpec)(c:OpenClaim)=>((c.recurses==P.recurses f):Bool)) prog 10 Tryz.f10 (Rows.OpenSpec.upto Rows.redactIdsSpec).bare Rows.redactIdsUptoRow=true:=by kernel_rfl
theorem f12:(λ(P:Program)(f:FuncId)(_fn:Func)(_s:ChangeSpec)(c:OpenClaim)=>((c.named==P.varsNamed f):Bool)) prog 10 Tryz.f10 (Rows.OpenSpec.upto Rows.redactIdsSpec).bare Rows.redactIdsUptoRow=true:=by kernel_rfl
theorem f13:(λ(P:Program)(_f:FuncId)(fn:Func)(s:ChangeSpec)(c:OpenClaim)=>((c.maps==(fn.params.toList++s.plain.varTypes P).any (P.mapsRec ·)):Bool)) prog 10 Tryz.f10 (Rows.OpenSpec.upto Rows.redactIdsSpec).bare Rows.redactIdsUptoRow=true:=by kernel_rfl
theorem f14:(λ(P:Program)(_f:FuncId)(fn:Func)(s:ChangeSpec)(c:OpenClaim)=>((c.ifaces==(fn.params.toList++s.plain.varTypes P).any (P.ifacesRec ·)):Bool)) prog 10 Tryz.f10 (Rows.OpenSpec.upto Rows.redactIdsSpec).bare Rows.redactIdsUptoRow=true:=by kernel_rfl
theorem f15:(λ(P:Program)(_f:FuncId)(fn:Func)(_s:ChangeSpec)(c:OpenClaim)=>((c.mapsOut==P.mapsAmong fn.resultTypes.toList):Bool)) prog 10 Tryz.f10 (Rows.OpenSpec.upto Rows.redactIdsSpec).bare Rows.redactIdsUptoRow=true:=by kernel_rfl
theorem f16:(λ(P:Program)(_f:FuncId)(fn:Func)(s:ChangeSpec)(c:OpenClaim)=>((c.loops==(fn.params.toList++s.plain.varTypes P).any (P.loopsFrom ·)):Bool)) prog 10 Tryz.f10 (Rows.OpenSpec.upto Rows.redactIdsSpec).bare Rows.redactIdsUptoRow=true:=by kernel_rfl
theorem f17:(λ(P:Program)(_f:FuncId)(fn:Func)(s:ChangeSpec)(c:OpenClaim)=>((c.wideKeys==(fn.params.toList++s.plain.varTypes P++fn.resultTypes.toList).any (P.wideKeysFrom ·)):Bool)) prog 10 Tryz.f10 (Rows.OpenSpec.upto Rows.redactIdsSpec).bare Rows.redactIdsUptoRow=true:=by kernel_rfl
theorem f18:(λ(P:Program)(_f:FuncId)(_fn:Func)(s:ChangeSpec)(_c:OpenClaim)=>(s.vars.all (P.varReadable ·):Bool)) prog 10 Tryz.f10 (Rows.OpenSpec.upto Rows.redactIdsSpec).bare Rows.redactIdsUptoRow=true:=by kernel_rfl
theorem f19:(λ(P:Program)(_f:FuncId)(fn:Func)(_s:ChangeSpec)(_c:OpenClaim)=>(fn.resultTypes.all (λt=>P.readableRec t&&decide (t<P.types.size)):Bool)) prog 10 Tryz.f10 (Rows.OpenSpec.upto Rows.redactIdsSpec).bare Rows.redactIdsUptoRow=true:=by kernel_rfl
theorem f20:(λ(P:Program)(_f:FuncId)(fn:Func)(_s:ChangeSpec)(c:OpenClaim)=>((c.ifacesOut==fn.resultTypes.toList.any (P.ifacesRec ·)):Bool)) prog 10 Tryz.f10 (Rows.OpenSpec.upto Rows.redactIdsSpec).bare Rows.redactIdsUptoRow=true:=by kernel_rfl
theorem f21:(λ(P:Program)(_f:FuncId)(fn:Func)(_s:ChangeSpec)(c:OpenClaim)=>((c.loopsOut==fn.resultTypes.toList.any (P.loopsFrom ·)):Bool)) prog 10 Tryz.f10 (Rows.OpenSpec.upto Rows.redactIdsSpec).bare Rows.redactIdsUptoRow=true:=by kernel_rfl
theorem f22:(λ(P:Program)(_f:FuncId)(_fn:Func)(_s:ChangeSpec)(c:OpenClaim)=>((c.plainKeys==P.plainKeys):Bool)) prog 10 Tryz.f10 (Rows.OpenSpec.upto Rows.redactIdsSpec).bare Rows.redactIdsUptoRow=true:=by kernel_rfl
theorem f23:(λ(_P:Program)(_f:FuncId)(_fn:Func)(_s:ChangeSpec)(c:OpenClaim)=>(c.shortTexts.isNone:Bool)) prog 10 Tryz.f10 (Rows.OpenSpec.upto Rows.redactIdsSpec).bare Rows.redactIdsUptoRow=true:=by kernel_rfl
theorem f24:(λ(P:Program)(_f:FuncId)(_fn:Func)(_s:ChangeSpec)(_c:OpenClaim)=>(P.stopsHeard:Bool)) prog 10 Tryz.f10 (Rows.OpenSpec.upto Rows.redactIdsSpec).bare Rows.redactIdsUptoRow=true:=by kernel_rfl
theorem f25:(λ(P:Program)(_f:FuncId)(_fn:Func)(_s:ChangeSpec)(_c:OpenClaim)=>(P.mayEnter:Bool)) prog 10 Tryz.f10 (Rows.OpenSpec.upto Rows.redactIdsSpec).bare Rows.redactIdsUptoRow=true:=by kernel_rfl
theorem f26:(λ(P:Program)(_f:FuncId)(_fn:Func)(_s:ChangeSpec)(c:OpenClaim)=>((c.lifted==P.liftsFinal):Bool)) prog 10 Tryz.f10 (Rows.OpenSpec.upto Rows.redactIdsSpec).bare Rows.redactIdsUptoRow=true:=by kernel_rfl
theorem f27:(λ(P:Program)(_f:FuncId)(_fn:Func)(_s:ChangeSpec)(c:OpenClaim)=>((P.make==some c.make):Bool)) prog 10 Tryz.f10 (Rows.OpenSpec.upto Rows.redactIdsSpec).bare Rows.redactIdsUptoRow=true:=by kernel_rfl
theorem f28:(λ(P:Program)(_f:FuncId)(fn:Func)(_s:ChangeSpec)(c:OpenClaim)=>((c.kinds==(if c.domain.isEmpty then[]else fn.params.toList.map λt=>match P.underlying t with|some (.int k)=>some k|_=>none)):Bool)) prog 10 Tryz.f10 (Rows.OpenSpec.upto Rows.redactIdsSpec).bare Rows.redactIdsUptoRow=true:=by kernel_rfl
theorem f29:(λ(_P:Program)(_f:FuncId)(_fn:Func)(_s:ChangeSpec)(c:OpenClaim)=>((c.pinned==c.pinnedBy):Bool)) prog 10 Tryz.f10 (Rows.OpenSpec.upto Rows.redactIdsSpec).bare Rows.redactIdsUptoRow=true:=by kernel_rfl
theorem f30:(λ(P:Program)(_f:FuncId)(fn:Func)(s:ChangeSpec)(c:OpenClaim)=>((c.veiled==(fn.params.toList++s.plain.varTypes P++fn.resultTypes.toList).any (P.veiledRec ·)):Bool)) prog 10 Tryz.f10 (Rows.OpenSpec.upto Rows.redactIdsSpec).bare Rows.redactIdsUptoRow=true:=by kernel_rfl
theorem f31:(λ(P:Program)(_f:FuncId)(fn:Func)(s:ChangeSpec)(c:OpenClaim)=>(c.veiledFits P fn.params.toList (fn.params.toList++s.plain.varTypes P++fn.resultTypes.toList):Bool)) prog 10 Tryz.f10 (Rows.OpenSpec.upto Rows.redactIdsSpec).bare Rows.redactIdsUptoRow=true:=by kernel_rfl
theorem facts:joinedFacts Tryz.checked.prog 10 Tryz.f10 (Rows.OpenSpec.upto Rows.redactIdsSpec).bare Rows.redactIdsUptoRow=true:=(and2 (and2 (and2 (and2 (and2 (and2 (and2 (and2 (and2 (and2 (and2 (and2 (and2 (and2 (and2 (and2 (and2 (and2 (and2 (and2 (and2 (and2 (and2 (and2 (and2 (and2 (and2 (and2 (and2 (and2 (and2 f0 f1) f2) f3) f4) f5) f6) f7) f8) f9) f10) f11) f12) f13) f14) f15) f16) f17) f18) f19) f20) f21) f22) f23) f24) f25) f26) f27) f28) f29) f30) f31)
end Go.Proofs.YthinbkgpjmjfeaaGreatDoor.redactIds
