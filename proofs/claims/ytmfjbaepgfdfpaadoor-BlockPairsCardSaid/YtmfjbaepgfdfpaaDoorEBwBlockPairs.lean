/- What the law's function reaches, in this seat's program: each has the text that was read, and each means what was shown of it. Conditions: none. (Printed by a program of this project's own.) -/
import Derived.Test.YtmfjbaepgfdfpaaDoorEBss2
import Derived.Test.YtmfjbaepgfdfpaaDoorEBk
import Derived.Test.YtmfjbaepgfdfpaaDoorEGr
import Derived.Test.YtmfjbaepgfdfpaaDoorELw31
import Derived.Test.YtmfjbaepgfdfpaaDoorELw34
import Derived.Test.YtmfjbaepgfdfpaaDoorERd
import Derived.Test.YtmfjbaepgfdfpaaDoorERf
import Derived.Test.YtmfjbaepgfdfpaaDoorERu
import Derived.Test.YtmfjbaepgfdfpaaDoorERw
import Derived.Test.YtmfjbaepgfdfpaaDoorESp1
import Derived.Test.YtmfjbaepgfdfpaaDoorESp4
import Derived.Test.YtmfjbaepgfdfpaaDoorETb
import Derived.Test.YtmfjbaepgfdfpaaDoorETc
set_option linter.unusedVariables false
set_option linter.unusedSimpArgs false
set_option maxRecDepth 100000
namespace Go.Proofs.YtmfjbaepgfdfpaaDoor
open Go.EA Go.EA.F
theorem has45 (W:World):(eaS W).has 45 f45:=⟨Tryd.f48,Tryd.func48,by kernel_rfl,by kernel_rfl⟩
theorem has68 (W:World):(eaS W).has 68 f68:=⟨Tryd.f72,Tryd.func72,by kernel_rfl,by kernel_rfl⟩
theorem has17 (W:World):(eaS W).has 17 f17:=⟨Tryd.f23,Tryd.func23,by kernel_rfl,by kernel_rfl⟩
theorem has20 (W:World):(eaS W).has 20 f20:=⟨Tryd.f22,Tryd.func22,by kernel_rfl,by kernel_rfl⟩
theorem has256 (W:World):(eaS W).has 256 f256:=⟨Tryd.f68,Tryd.func68,by kernel_rfl,by kernel_rfl⟩
theorem has262 (W:World):(eaS W).has 262 f262:=⟨Tryd.f82,Tryd.func82,by kernel_rfl,by kernel_rfl⟩
theorem has255 (W:World):(eaS W).has 255 f255:=⟨Tryd.f67,Tryd.func67,by kernel_rfl,by kernel_rfl⟩
theorem has237 (W:World):(eaS W).has 237 f237:=⟨Tryd.f42,Tryd.func42,by kernel_rfl,by kernel_rfl⟩
theorem has239 (W:World):(eaS W).has 239 f239:=⟨Tryd.f44,Tryd.func44,by kernel_rfl,by kernel_rfl⟩
theorem has258 (W:World):(eaS W).has 258 f258:=⟨Tryd.f70,Tryd.func70,by kernel_rfl,by kernel_rfl⟩
theorem has238 (W:World):(eaS W).has 238 f238:=⟨Tryd.f43,Tryd.func43,by kernel_rfl,by kernel_rfl⟩
theorem has257 (W:World):(eaS W).has 257 f257:=⟨Tryd.f69,Tryd.func69,by kernel_rfl,by kernel_rfl⟩
theorem has240 (W:World):(eaS W).has 240 f240:=⟨Tryd.f45,Tryd.func45,by kernel_rfl,by kernel_rfl⟩
theorem has214 (W:World):(eaS W).has 214 f214:=⟨Tryd.f17,Tryd.func17,by kernel_rfl,by kernel_rfl⟩
theorem has55 (W:World):(eaS W).has 55 f55:=⟨Tryd.f77,Tryd.func77,by kernel_rfl,by kernel_rfl⟩
theorem has248 (W:World):(eaS W).has 248 f248:=⟨Tryd.f56,Tryd.func56,by kernel_rfl,by kernel_rfl⟩
theorem has247 (W:World):(eaS W).has 247 f247:=⟨Tryd.f55,Tryd.func55,by kernel_rfl,by kernel_rfl⟩
theorem has246 (W:World):(eaS W).has 246 f246:=⟨Tryd.f54,Tryd.func54,by kernel_rfl,by kernel_rfl⟩
theorem has259 (W:World):(eaS W).has 259 f259:=⟨Tryd.f74,Tryd.func74,by kernel_rfl,by kernel_rfl⟩
theorem has222 (W:World):(eaS W).has 222 f222:=⟨Tryd.f27,Tryd.func27,by kernel_rfl,by kernel_rfl⟩
theorem has56 (W:World):(eaS W).has 56 f56:=⟨Tryd.f52,Tryd.func52,by kernel_rfl,by kernel_rfl⟩
theorem has75 (W:World):(eaS W).has 75 f75:=⟨Tryd.f75,Tryd.func75,by kernel_rfl,by kernel_rfl⟩
theorem has220 (W:World):(eaS W).has 220 f220:=⟨Tryd.f25,Tryd.func25,by kernel_rfl,by kernel_rfl⟩
theorem has250 (W:World):(eaS W).has 250 f250:=⟨Tryd.f59,Tryd.func59,by kernel_rfl,by kernel_rfl⟩
theorem has249 (W:World):(eaS W).has 249 f249:=⟨Tryd.f58,Tryd.func58,by kernel_rfl,by kernel_rfl⟩
theorem has260 (W:World):(eaS W).has 260 f260:=⟨Tryd.f78,Tryd.func78,by kernel_rfl,by kernel_rfl⟩
theorem has229 (W:World):(eaS W).has 229 f229:=⟨Tryd.f34,Tryd.func34,by kernel_rfl,by kernel_rfl⟩
theorem has226 (W:World):(eaS W).has 226 f226:=⟨Tryd.f31,Tryd.func31,by kernel_rfl,by kernel_rfl⟩
theorem has251 (W:World):(eaS W).has 251 f251:=⟨Tryd.f60,Tryd.func60,by kernel_rfl,by kernel_rfl⟩
theorem has261 (W:World):(eaS W).has 261 f261:=⟨Tryd.f79,Tryd.func79,by kernel_rfl,by kernel_rfl⟩
theorem has252 (W:World):(eaS W).has 252 f252:=⟨Tryd.f61,Tryd.func61,by kernel_rfl,by kernel_rfl⟩
theorem has230 (W:World):(eaS W).has 230 f230:=⟨Tryd.f35,Tryd.func35,by kernel_rfl,by kernel_rfl⟩
theorem has225 (W:World):(eaS W).has 225 f225:=⟨Tryd.f30,Tryd.func30,by kernel_rfl,by kernel_rfl⟩
theorem has57 (W:World):(eaS W).has 57 f57:=⟨Tryd.f57,Tryd.func57,by kernel_rfl,by kernel_rfl⟩
theorem has58 (W:World):(eaS W).has 58 f58:=⟨Tryd.f84,Tryd.func84,by kernel_rfl,by kernel_rfl⟩
theorem has46 (W:World):(eaS W).has 46 f46:=⟨Tryd.f81,Tryd.func81,by kernel_rfl,by kernel_rfl⟩
theorem has19 (W:World):(eaS W).has 19 f19:=⟨Tryd.f66,Tryd.func66,by kernel_rfl,by kernel_rfl⟩
theorem has21 (W:World):(eaS W).has 21 f21:=⟨Tryd.f71,Tryd.func71,by kernel_rfl,by kernel_rfl⟩
theorem has242 (W:World):(eaS W).has 242 f242:=⟨Tryd.f47,Tryd.func47,by kernel_rfl,by kernel_rfl⟩
theorem has241 (W:World):(eaS W).has 241 f241:=⟨Tryd.f46,Tryd.func46,by kernel_rfl,by kernel_rfl⟩
theorem has215 (W:World):(eaS W).has 215 f215:=⟨Tryd.f18,Tryd.func18,by kernel_rfl,by kernel_rfl⟩
theorem has223 (W:World):(eaS W).has 223 f223:=⟨Tryd.f28,Tryd.func28,by kernel_rfl,by kernel_rfl⟩
theorem has253 (W:World):(eaS W).has 253 f253:=⟨Tryd.f62,Tryd.func62,by kernel_rfl,by kernel_rfl⟩
theorem has34 (W:World):(eaS W).has 34 f34:=⟨Tryd.f76,Tryd.func76,by kernel_rfl,by kernel_rfl⟩
theorem has51 (W:World):(eaS W).has 51 f51:=⟨Tryd.f53,Tryd.func53,by kernel_rfl,by kernel_rfl⟩
theorem has221 (W:World):(eaS W).has 221 f221:=⟨Tryd.f26,Tryd.func26,by kernel_rfl,by kernel_rfl⟩
theorem has254 (W:World):(eaS W).has 254 f254:=⟨Tryd.f63,Tryd.func63,by kernel_rfl,by kernel_rfl⟩
theorem has231 (W:World):(eaS W).has 231 f231:=⟨Tryd.f36,Tryd.func36,by kernel_rfl,by kernel_rfl⟩
theorem has227 (W:World):(eaS W).has 227 f227:=⟨Tryd.f32,Tryd.func32,by kernel_rfl,by kernel_rfl⟩
theorem has228 (W:World):(eaS W).has 228 f228:=⟨Tryd.f33,Tryd.func33,by kernel_rfl,by kernel_rfl⟩
theorem has206 (W:World):(eaS W).has 206 f206:=⟨Tryd.f9,Tryd.func9,by kernel_rfl,by kernel_rfl⟩
theorem q17 {W:World} (hU:Lib.Utf8Tabs 0 1 W):PrOk (eaS W) 17 (pureP G17):=pr17 (sb W) (q69 hU) (has45 W) (has68 W) (has17 W)
theorem q20 {W:World} (hU:Lib.Utf8Tabs 0 1 W):PrOk (eaS W) 20 (pureP G20):=pr20 (sb W) (q17 hU) (has20 W)
theorem q256 {W:World} (hU:Lib.Utf8Tabs 0 1 W):PrOk (eaS W) 256 (pureP G256):=pr256 (sb W) (has256 W)
theorem q255 {W:World} (hU:Lib.Utf8Tabs 0 1 W):PrOk (eaS W) 255 (pureP G255):=pr255 (sb W) (q256 hU) (has262 W) (has255 W)
theorem q214 {W:World} (hU:Lib.Utf8Tabs 0 1 W):PrOk (eaS W) 214 (pureP G214):=pr214 (sb W) (q20 hU) (q255 hU) (q256 hU) (has237 W) (has239 W) (has258 W) (has238 W) (has257 W) (has240 W) (has214 W)
theorem q55 {W:World} (hU:Lib.Utf8Tabs 0 1 W):PrOk (eaS W) 55 (pureP G55):=pr55 (sb W) (has55 W)
theorem q248 {W:World} (hU:Lib.Utf8Tabs 0 1 W):PrOk (eaS W) 248 (pureP G248):=pr248 (sb W) (q55 hU) (has248 W)
theorem q247 {W:World} (hU:Lib.Utf8Tabs 0 1 W):PrOk (eaS W) 247 (pureP G247):=pr247 (sb W) (q248 hU) (has247 W)
theorem q222 {W:World} (hU:Lib.Utf8Tabs 0 1 W):PrOk (eaS W) 222 (pureP G222):=pr222 (sb W) (q247 hU) (has246 W) (has259 W) (has222 W)
theorem q220 {W:World} (hU:Lib.Utf8Tabs 0 1 W):PrOk (eaS W) 220 (pureP G220):=pr220 (sb W) (q222 hU) (has56 W) (has75 W) (has220 W)
theorem q250 {W:World} (hU:Lib.Utf8Tabs 0 1 W):PrOk (eaS W) 250 (pureP G250):=pr250 (sb W) (q220 hU) (q43 W) (has250 W)
theorem q229 {W:World} (hU:Lib.Utf8Tabs 0 1 W):PrOk (eaS W) 229 (pureP G229):=pr229 (sb W) (q222 hU) (q250 hU) (has249 W) (has260 W) (has229 W)
theorem q226 {W:World} (hU:Lib.Utf8Tabs 0 1 W):PrOk (eaS W) 226 (pureP G226):=pr226 (sb W) (q214 hU) (q229 hU) (has226 W)
theorem q251 {W:World} (hU:Lib.Utf8Tabs 0 1 W):PrOk (eaS W) 251 (pureP G251):=pr251 (sb W) (has251 W)
theorem q252 {W:World} (hU:Lib.Utf8Tabs 0 1 W):PrOk (eaS W) 252 (pureP G252):=pr252 (sb W) (has261 W) (has252 W)
theorem q230 {W:World} (hU:Lib.Utf8Tabs 0 1 W):PrOk (eaS W) 230 (pureP G230):=pr230 (sb W) (q251 hU) (q252 hU) (has230 W)
theorem q225 {W:World} (hU:Lib.Utf8Tabs 0 1 W):PrOk (eaS W) 225 (pureP G225):=pr225 (sb W) (q226 hU) (q230 hU) (has225 W)
theorem q57 {W:World} (hU:Lib.Utf8Tabs 0 1 W):PrOk (eaS W) 57 (pureP G57):=pr57 (sb W) (has57 W)
theorem q58 {W:World} (hU:Lib.Utf8Tabs 0 1 W):PrOk (eaS W) 58 (pureP G58):=pr58 (sb W) (has58 W)
theorem q46 {W:World} (hU:Lib.Utf8Tabs 0 1 W):PrOk (eaS W) 46 (pureP G46):=pr46 (sb W) (q57 hU) (q58 hU) (has46 W)
theorem q19 {W:World} (hU:Lib.Utf8Tabs 0 1 W):PrOk (eaS W) 19 (pureP G19):=pr19 (sb W) (q46 hU) (has19 W)
theorem q21 {W:World} (hU:Lib.Utf8Tabs 0 1 W):PrOk (eaS W) 21 (pureP G21):=pr21 (sb W) (q19 hU) (has21 W)
theorem q242 {W:World} (hU:Lib.Utf8Tabs 0 1 W):PrOk (eaS W) 242 (pureP G242):=pr242 (sb W) (has242 W)
theorem q215 {W:World} (hU:Lib.Utf8Tabs 0 1 W):PrOk (eaS W) 215 (pureP G215):=pr215 (sb W) (q21 hU) (q242 hU) (has241 W) (has215 W)
theorem q223 {W:World} (hU:Lib.Utf8Tabs 0 1 W):PrOk (eaS W) 223 (pureP G223):=pr223 (sb W) (q57 hU) (has223 W)
theorem q253 {W:World} (hU:Lib.Utf8Tabs 0 1 W):PrOk (eaS W) 253 (pureP G253):=pr253 (sb W) (has253 W)
theorem q34 {W:World} (hU:Lib.Utf8Tabs 0 1 W):PrOk (eaS W) 34 (pureP G34):=pr34 (sb W) (q57 hU) (q58 hU) (has34 W)
theorem q51 {W:World} (hU:Lib.Utf8Tabs 0 1 W):PrOk (eaS W) 51 (pureP G51):=pr51 (sb W) (q34 hU) (has51 W)
theorem q221 {W:World} (hU:Lib.Utf8Tabs 0 1 W):PrOk (eaS W) 221 (pureP G221):=pr221 (sb W) (q223 hU) (q51 hU) (has221 W)
theorem q231 {W:World} (hU:Lib.Utf8Tabs 0 1 W):PrOk (eaS W) 231 (pureP G231):=pr231 (sb W) (q223 hU) (q253 hU) (q221 hU) (q19 hU) (has254 W) (has231 W)
theorem q227 {W:World} (hU:Lib.Utf8Tabs 0 1 W):PrOk (eaS W) 227 (pureP G227):=pr227 (sb W) (q215 hU) (q231 hU) (has227 W)
theorem q228 {W:World} (hU:Lib.Utf8Tabs 0 1 W):PrOk (eaS W) 228 (pureP G228):=pr228 (sb W) (has228 W)
end Go.Proofs.YtmfjbaepgfdfpaaDoor
