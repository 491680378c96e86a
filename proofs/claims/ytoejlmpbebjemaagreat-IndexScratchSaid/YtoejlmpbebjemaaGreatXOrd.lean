/- Documents that are put in the opposite order (layer 40, plain).
  Conditions: none. -/
import Derived.Test.YtoejlmpbebjemaaGreatXCu
import Derived.Test.YtoejlmpbebjemaaGreatXWq
import Derived.Test.YtoejlmpbebjemaaGreatXZc
import Derived.Test.YtoejlmpbebjemaaGreatGSdl
set_option linter.all false
set_option maxRecDepth 100000
namespace Go.Proofs.YtoejlmpbebjemaaGreat
open Go Go.Am ie cN eN
def Tj {m B:Nat}{l:List oI}(hl:l.length<=B)(hw:∀o∈l,aU o.2=true->Db m o.2)(hB:B<=19)(hm:B*m<=1000):BX m (fE l)/\(fE l).length<=7:=by
 have:=(lW hl zO l.length (ahv _)).szB hl hw hB hm
 rwa [ahO] at this
def WW {l:List oI}(hl:l.length<=19):GX (fE l):=by
 have:=(lW hl zO l.length (ahv _)).g
 rwa [ahO] at this
def Lq {d:Dc}(h:Gl d=true)(hv:aU d=true):Db 60 d:=
 ⟨(Az h hv).1,λz hz=>ahA ((Az h hv).2 z hz) zD,Pt h⟩
end Go.Proofs.YtoejlmpbebjemaaGreat
