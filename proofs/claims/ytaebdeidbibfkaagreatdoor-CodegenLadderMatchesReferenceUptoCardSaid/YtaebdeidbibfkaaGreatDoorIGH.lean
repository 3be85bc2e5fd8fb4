/- What simp unfolds in the contracts. No law is proved here. -/
import Derived.Test.YtaebdeidbibfkaaGreatDoorIGMod
import Derived.Test.YtaebdeidbibfkaaGreatDoorITai
import Derived.Test.YtaebdeidbibfkaaGreatDoorISoz
namespace Go.Proofs.YtaebdeidbibfkaaGreatDoor
open Go.Av Go.G
attribute [simp] runf Zu opf St.ev Go.Av.look St.setd ZbT Z7t opBin opLen ZdE St.need lookT TT0 tab resA Z7j Z5m Zkx ZkJ Zkm Z2D Z3p ZdT Z4G Z8m Z7u St.mem St.rows opUn Z1S Z2r toArg Z3X Z63 shift shift0 shift1 Z6l cellsOf isFree Z8j TS.isAgg Z11 Zdx Z5S Z9P Zc1 ZjT Z2p fillA Z35 eqC eqA cksB ckB St.newBox runI ZX Z4S Z8i refsD refs noSl Z4L Z7w opMax opMin Z5u Op.operands Call.operands Z7x Z60 Z7v Z7A partA loA hiA lenA Z8U Z6L Z6m keyOk ZiQ ZjC Zi2 Zje ZjB Zjp Zj3 ZiZ Zjj Zid ZhZ Zhm Zhp Z8h Zi7 ZkW cA1 cA2 cA3 cA4 Z75 Z6X ZbY aL cI cB cS cL Zgz fz_rw Zk1 Zia ZjQ Zl9 Zko Zkp ZjM Zh4 ZfO Zex Z91 ZiF Zir ZbS ZaS Zca Zgg Zhd Zg8 Zfs Z8n Z1x Z1D Z52 putAt Z7g mapC mapA mapT map0 bid rid memB Zt Z3N argsH argH argH0 Z79 Zbv ids0 idsC Z7U Z9o Z8q Z5s Z5R Z8p Z0 Z4 Z7 Zb Z1r Z4l Z4H Zhs Zv ZR Z8v Zi Z1v Z1 Zga Zfx Zcg ZeF Zc2 Zfr
end Go.Proofs.YtaebdeidbibfkaaGreatDoor
