/- Part 14 of MeaningExpressions. -/
import Derived.Test.YtaolbokoijfhnaaGreatDoorH5
import Derived.KernelRfl
set_option linter.all false
namespace Go.Proofs.YtaolbokoijfhnaaGreatDoor.Am
section
open Go.AM
set_option maxRecDepth 100000
noncomputable section
def ZH:TE:=Dc.tree HH 0x2891317707e48e6317b20515f3b3d60080976d2d304d16111e775351c6accaf0bffbef88872782e4cb9aa89eabba6af5000225588132662759a0
theorem Ahi:Ur.ok [(144,Uq)] (runs 70) ZH=true:=by kernel_rfl
def ZG:TE:=Dc.tree HH 0x1a0430c644167abfbcb54f284fa655df28d9b89fcb66714bc833751903e726693c42326e5c1ab5ee6a04de3fa084a103fd23e1e9389ee6030469fd9d160c726d322164df6d5e030df5944be362b345c05fc7e35303b6a5c95980dd5d8636478c78f15efc4000c2237dd8641f4caf4b1ec018b4354226e734f54
theorem Ahh:Uq.ok [(141,Kr),(147,Qu)] (runs 70) ZG=true:=by kernel_rfl
def ZF:TE:=Dc.tree HH 0x34679f6494a06a08b7fcffcef8deb205c918da24a666b38b2eb77f61ccedf930e7365a59061da9935a5cea572fe5b6a7478e5803521b5f3198cd3
theorem Ahg:Up.ok [(148,Qt)] (runs 74) ZF=true:=by kernel_rfl
def ZE:TE:=Dc.tree HH 0xb5672fba33bc2f95d8a91f8c7532288da8e6da6f882901c4c3fbdcf18640cf68c3a3d7a41dea2afe875ef6b834c8f7e36d5f5b7d59dbd9ecf9e1aac705a3a952748e3afca50c1b66971afd70caa93aabc47ac7a794995fbcc0b9eee75ece8d034a0459ac0a76dfb2f3fc6253e323a668801309d7d5d868b182e41c7ee281afd8b7897181cec
theorem Ahf:Qu.ok [(141,Kr),(147,Qu)] (runs 70) ZE=true:=by kernel_rfl
def ZD:TE:=Dc.tree HH 0xcb86a1ee1a5c83eddae1a29a237f79d0ef43d29344bb21235d625e90395db318bd4e3e2906dfd170d4affa5d95ccbf391418eb7897181cec
theorem Ahe:Qt.ok [(148,Qt)] (runs 74) ZD=true:=by kernel_rfl
def ZC:TE:=Dc.tree HH 0x92e621540484ab10448b2
theorem Ahd:Qs.ok [(130,Qy)] (runs 68) ZC=true:=by kernel_rfl
end
end
end Go.Proofs.YtaolbokoijfhnaaGreatDoor.Am
