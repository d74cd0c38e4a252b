/- Runs of the law on the abstract machine, a case each. -/
import Derived.Test.YtphhdonkpijhhaaGreatDoorTypesRefusesF
set_option linter.all false
namespace Go.Proofs.YtphhdonkpijhhaaGreatDoor.Am.TypesRefuses
open Go.AM
set_option maxRecDepth 100000
theorem rglll : K (.var 1) (x 0 1) (x 7 1) (x 8 1) (cat Ggl (cat GLl GBl)) = true := by kernel_rfl
theorem rglli : K (.var 1) (x 0 1) (x 7 1) (x 8 0) (cat Ggl (cat GLl GBi)) = true := by kernel_rfl
theorem rgllb : K (.var 1) (x 0 1) (x 7 1) (x 8 1) (cat Ggl (cat GLl GBb)) = true := by kernel_rfl
theorem rglil : K (.var 1) (x 0 1) (x 7 0) (x 8 1) (cat Ggl (cat GLi GBl)) = true := by kernel_rfl
theorem rglii : K (.var 1) (x 0 1) (x 7 0) (x 8 0) (cat Ggl (cat GLi GBi)) = true := by kernel_rfl
theorem rglib : K (.var 1) (x 0 1) (x 7 0) (x 8 1) (cat Ggl (cat GLi GBb)) = true := by kernel_rfl
theorem rglbl : K (.var 1) (x 0 1) (x 7 1) (x 8 1) (cat Ggl (cat GLb GBl)) = true := by kernel_rfl
theorem rglbi : K (.var 1) (x 0 1) (x 7 1) (x 8 0) (cat Ggl (cat GLb GBi)) = true := by kernel_rfl
theorem rglbb : K (.var 1) (x 0 1) (x 7 1) (x 8 1) (cat Ggl (cat GLb GBb)) = true := by kernel_rfl
theorem rgbll : K (.var 1) (x 0 1) (x 7 1) (x 8 1) (cat Ggb (cat GLl GBl)) = true := by kernel_rfl
theorem rgbli : K (.var 1) (x 0 1) (x 7 1) (x 8 0) (cat Ggb (cat GLl GBi)) = true := by kernel_rfl
theorem rgblb : K (.var 1) (x 0 1) (x 7 1) (x 8 1) (cat Ggb (cat GLl GBb)) = true := by kernel_rfl
theorem rgbil : K (.var 1) (x 0 1) (x 7 0) (x 8 1) (cat Ggb (cat GLi GBl)) = true := by kernel_rfl
theorem rgbii : K (.var 1) (x 0 1) (x 7 0) (x 8 0) (cat Ggb (cat GLi GBi)) = true := by kernel_rfl
theorem rgbib : K (.var 1) (x 0 1) (x 7 0) (x 8 1) (cat Ggb (cat GLi GBb)) = true := by kernel_rfl
theorem rgbbl : K (.var 1) (x 0 1) (x 7 1) (x 8 1) (cat Ggb (cat GLb GBl)) = true := by kernel_rfl
theorem rgbbi : K (.var 1) (x 0 1) (x 7 1) (x 8 0) (cat Ggb (cat GLb GBi)) = true := by kernel_rfl
theorem rgbbb : K (.var 1) (x 0 1) (x 7 1) (x 8 1) (cat Ggb (cat GLb GBb)) = true := by kernel_rfl
theorem rslll : K (.var 1) (x 0 1) (x 7 1) (x 8 1) (cat Gsl (cat GLl GBl)) = true := by kernel_rfl
theorem rslli : K (.var 1) (x 0 1) (x 7 1) (x 8 0) (cat Gsl (cat GLl GBi)) = true := by kernel_rfl
theorem rsllb : K (.var 1) (x 0 1) (x 7 1) (x 8 1) (cat Gsl (cat GLl GBb)) = true := by kernel_rfl
theorem rslil : K (.var 1) (x 0 1) (x 7 0) (x 8 1) (cat Gsl (cat GLi GBl)) = true := by kernel_rfl
theorem rslii : K (.var 1) (x 0 1) (x 7 0) (x 8 0) (cat Gsl (cat GLi GBi)) = true := by kernel_rfl
theorem rslib : K (.var 1) (x 0 1) (x 7 0) (x 8 1) (cat Gsl (cat GLi GBb)) = true := by kernel_rfl
theorem rslbl : K (.var 1) (x 0 1) (x 7 1) (x 8 1) (cat Gsl (cat GLb GBl)) = true := by kernel_rfl
theorem rslbi : K (.var 1) (x 0 1) (x 7 1) (x 8 0) (cat Gsl (cat GLb GBi)) = true := by kernel_rfl
theorem rslbb : K (.var 1) (x 0 1) (x 7 1) (x 8 1) (cat Gsl (cat GLb GBb)) = true := by kernel_rfl
theorem rsbll : K (.var 1) (x 0 1) (x 7 1) (x 8 1) (cat Gsb (cat GLl GBl)) = true := by kernel_rfl
theorem rsbli : K (.var 1) (x 0 1) (x 7 1) (x 8 0) (cat Gsb (cat GLl GBi)) = true := by kernel_rfl
theorem rsblb : K (.var 1) (x 0 1) (x 7 1) (x 8 1) (cat Gsb (cat GLl GBb)) = true := by kernel_rfl
theorem rsbil : K (.var 1) (x 0 1) (x 7 0) (x 8 1) (cat Gsb (cat GLi GBl)) = true := by kernel_rfl
theorem rsbii : K (.var 1) (x 0 1) (x 7 0) (x 8 0) (cat Gsb (cat GLi GBi)) = true := by kernel_rfl
theorem rsbib : K (.var 1) (x 0 1) (x 7 0) (x 8 1) (cat Gsb (cat GLi GBb)) = true := by kernel_rfl
theorem rsbbl : K (.var 1) (x 0 1) (x 7 1) (x 8 1) (cat Gsb (cat GLb GBl)) = true := by kernel_rfl
theorem rsbbi : K (.var 1) (x 0 1) (x 7 1) (x 8 0) (cat Gsb (cat GLb GBi)) = true := by kernel_rfl
theorem rsbbb : K (.var 1) (x 0 1) (x 7 1) (x 8 1) (cat Gsb (cat GLb GBb)) = true := by kernel_rfl
theorem rsnll : K (.var 1) (x 0 1) (x 7 1) (x 8 1) (cat Gsn (cat GLl GBl)) = true := by kernel_rfl
theorem rsnli : K (.var 1) (x 0 1) (x 7 1) (x 8 0) (cat Gsn (cat GLl GBi)) = true := by kernel_rfl
theorem rsnlb : K (.var 1) (x 0 1) (x 7 1) (x 8 1) (cat Gsn (cat GLl GBb)) = true := by kernel_rfl
theorem rsnil : K (.var 1) (x 0 1) (x 7 0) (x 8 1) (cat Gsn (cat GLi GBl)) = true := by kernel_rfl
theorem rsnii : K (.var 1) (x 0 1) (x 7 0) (x 8 0) (cat Gsn (cat GLi GBi)) = true := by kernel_rfl
theorem rsnib : K (.var 1) (x 0 1) (x 7 0) (x 8 1) (cat Gsn (cat GLi GBb)) = true := by kernel_rfl
theorem rsnbl : K (.var 1) (x 0 1) (x 7 1) (x 8 1) (cat Gsn (cat GLb GBl)) = true := by kernel_rfl
theorem rsnbi : K (.var 1) (x 0 1) (x 7 1) (x 8 0) (cat Gsn (cat GLb GBi)) = true := by kernel_rfl
theorem rsnbb : K (.var 1) (x 0 1) (x 7 1) (x 8 1) (cat Gsn (cat GLb GBb)) = true := by kernel_rfl
theorem rp1yll : K (.lit (.ofNat 1)) (x 1 0) (x 7 1) (x 8 1) (cat Gp1y (cat GLl GBl)) = true := by kernel_rfl
theorem rp1yli : K (.lit (.ofNat 1)) (x 1 0) (x 7 1) (x 8 0) (cat Gp1y (cat GLl GBi)) = true := by kernel_rfl
theorem rp1ylb : K (.lit (.ofNat 1)) (x 1 0) (x 7 1) (x 8 1) (cat Gp1y (cat GLl GBb)) = true := by kernel_rfl
theorem rp1yil : K (.lit (.ofNat 1)) (x 1 0) (x 7 0) (x 8 1) (cat Gp1y (cat GLi GBl)) = true := by kernel_rfl
theorem rp1yii : K (.lit (.ofNat 1)) (x 1 0) (x 7 0) (x 8 0) (cat Gp1y (cat GLi GBi)) = true := by kernel_rfl
theorem rp1yib : K (.lit (.ofNat 1)) (x 1 0) (x 7 0) (x 8 1) (cat Gp1y (cat GLi GBb)) = true := by kernel_rfl
theorem rp1ybl : K (.lit (.ofNat 1)) (x 1 0) (x 7 1) (x 8 1) (cat Gp1y (cat GLb GBl)) = true := by kernel_rfl
theorem rp1ybi : K (.lit (.ofNat 1)) (x 1 0) (x 7 1) (x 8 0) (cat Gp1y (cat GLb GBi)) = true := by kernel_rfl
theorem rp1ybb : K (.lit (.ofNat 1)) (x 1 0) (x 7 1) (x 8 1) (cat Gp1y (cat GLb GBb)) = true := by kernel_rfl
theorem rp2yll : K (.lit (.ofNat 2)) (x 2 0) (x 7 1) (x 8 1) (cat Gp2y (cat GLl GBl)) = true := by kernel_rfl
theorem rp2yli : K (.lit (.ofNat 2)) (x 2 0) (x 7 1) (x 8 0) (cat Gp2y (cat GLl GBi)) = true := by kernel_rfl
theorem rp2ylb : K (.lit (.ofNat 2)) (x 2 0) (x 7 1) (x 8 1) (cat Gp2y (cat GLl GBb)) = true := by kernel_rfl
theorem rp2yil : K (.lit (.ofNat 2)) (x 2 0) (x 7 0) (x 8 1) (cat Gp2y (cat GLi GBl)) = true := by kernel_rfl
theorem rp2yii : K (.lit (.ofNat 2)) (x 2 0) (x 7 0) (x 8 0) (cat Gp2y (cat GLi GBi)) = true := by kernel_rfl
theorem rp2yib : K (.lit (.ofNat 2)) (x 2 0) (x 7 0) (x 8 1) (cat Gp2y (cat GLi GBb)) = true := by kernel_rfl
theorem rp2ybl : K (.lit (.ofNat 2)) (x 2 0) (x 7 1) (x 8 1) (cat Gp2y (cat GLb GBl)) = true := by kernel_rfl
theorem rp2ybi : K (.lit (.ofNat 2)) (x 2 0) (x 7 1) (x 8 0) (cat Gp2y (cat GLb GBi)) = true := by kernel_rfl
theorem rp2ybb : K (.lit (.ofNat 2)) (x 2 0) (x 7 1) (x 8 1) (cat Gp2y (cat GLb GBb)) = true := by kernel_rfl
theorem rp2nll : K (.lit (.ofNat 2)) (x 2 1) (x 7 1) (x 8 1) (cat Gp2n (cat GLl GBl)) = true := by kernel_rfl
theorem rp2nli : K (.lit (.ofNat 2)) (x 2 1) (x 7 1) (x 8 0) (cat Gp2n (cat GLl GBi)) = true := by kernel_rfl
theorem rp2nlb : K (.lit (.ofNat 2)) (x 2 1) (x 7 1) (x 8 1) (cat Gp2n (cat GLl GBb)) = true := by kernel_rfl
theorem rp2nil : K (.lit (.ofNat 2)) (x 2 1) (x 7 0) (x 8 1) (cat Gp2n (cat GLi GBl)) = true := by kernel_rfl
theorem rp2nii : K (.lit (.ofNat 2)) (x 2 1) (x 7 0) (x 8 0) (cat Gp2n (cat GLi GBi)) = true := by kernel_rfl
theorem rp2nib : K (.lit (.ofNat 2)) (x 2 1) (x 7 0) (x 8 1) (cat Gp2n (cat GLi GBb)) = true := by kernel_rfl
theorem rp2nbl : K (.lit (.ofNat 2)) (x 2 1) (x 7 1) (x 8 1) (cat Gp2n (cat GLb GBl)) = true := by kernel_rfl
theorem rp2nbi : K (.lit (.ofNat 2)) (x 2 1) (x 7 1) (x 8 0) (cat Gp2n (cat GLb GBi)) = true := by kernel_rfl
theorem rp2nbb : K (.lit (.ofNat 2)) (x 2 1) (x 7 1) (x 8 1) (cat Gp2n (cat GLb GBb)) = true := by kernel_rfl
theorem rp4yll : K (.lit (.ofNat 4)) (x 3 0) (x 7 1) (x 8 1) (cat Gp4y (cat GLl GBl)) = true := by kernel_rfl
theorem rp4yli : K (.lit (.ofNat 4)) (x 3 0) (x 7 1) (x 8 0) (cat Gp4y (cat GLl GBi)) = true := by kernel_rfl
theorem rp4ylb : K (.lit (.ofNat 4)) (x 3 0) (x 7 1) (x 8 1) (cat Gp4y (cat GLl GBb)) = true := by kernel_rfl
theorem rp4yil : K (.lit (.ofNat 4)) (x 3 0) (x 7 0) (x 8 1) (cat Gp4y (cat GLi GBl)) = true := by kernel_rfl
theorem rp4yii : K (.lit (.ofNat 4)) (x 3 0) (x 7 0) (x 8 0) (cat Gp4y (cat GLi GBi)) = true := by kernel_rfl
theorem rp4yib : K (.lit (.ofNat 4)) (x 3 0) (x 7 0) (x 8 1) (cat Gp4y (cat GLi GBb)) = true := by kernel_rfl
theorem rp4ybl : K (.lit (.ofNat 4)) (x 3 0) (x 7 1) (x 8 1) (cat Gp4y (cat GLb GBl)) = true := by kernel_rfl
theorem rp4ybi : K (.lit (.ofNat 4)) (x 3 0) (x 7 1) (x 8 0) (cat Gp4y (cat GLb GBi)) = true := by kernel_rfl
theorem rp4ybb : K (.lit (.ofNat 4)) (x 3 0) (x 7 1) (x 8 1) (cat Gp4y (cat GLb GBb)) = true := by kernel_rfl
theorem rp4nll : K (.lit (.ofNat 4)) (x 3 1) (x 7 1) (x 8 1) (cat Gp4n (cat GLl GBl)) = true := by kernel_rfl
theorem rp4nli : K (.lit (.ofNat 4)) (x 3 1) (x 7 1) (x 8 0) (cat Gp4n (cat GLl GBi)) = true := by kernel_rfl
theorem rp4nlb : K (.lit (.ofNat 4)) (x 3 1) (x 7 1) (x 8 1) (cat Gp4n (cat GLl GBb)) = true := by kernel_rfl
theorem rp4nil : K (.lit (.ofNat 4)) (x 3 1) (x 7 0) (x 8 1) (cat Gp4n (cat GLi GBl)) = true := by kernel_rfl
theorem rp4nii : K (.lit (.ofNat 4)) (x 3 1) (x 7 0) (x 8 0) (cat Gp4n (cat GLi GBi)) = true := by kernel_rfl
theorem rp4nib : K (.lit (.ofNat 4)) (x 3 1) (x 7 0) (x 8 1) (cat Gp4n (cat GLi GBb)) = true := by kernel_rfl
theorem rp4nbl : K (.lit (.ofNat 4)) (x 3 1) (x 7 1) (x 8 1) (cat Gp4n (cat GLb GBl)) = true := by kernel_rfl
theorem rp4nbi : K (.lit (.ofNat 4)) (x 3 1) (x 7 1) (x 8 0) (cat Gp4n (cat GLb GBi)) = true := by kernel_rfl
theorem rp4nbb : K (.lit (.ofNat 4)) (x 3 1) (x 7 1) (x 8 1) (cat Gp4n (cat GLb GBb)) = true := by kernel_rfl
theorem rp8yll : K (.lit (.ofNat 8)) (x 4 0) (x 7 1) (x 8 1) (cat Gp8y (cat GLl GBl)) = true := by kernel_rfl
theorem rp8yli : K (.lit (.ofNat 8)) (x 4 0) (x 7 1) (x 8 0) (cat Gp8y (cat GLl GBi)) = true := by kernel_rfl
theorem rp8ylb : K (.lit (.ofNat 8)) (x 4 0) (x 7 1) (x 8 1) (cat Gp8y (cat GLl GBb)) = true := by kernel_rfl
theorem rp8yil : K (.lit (.ofNat 8)) (x 4 0) (x 7 0) (x 8 1) (cat Gp8y (cat GLi GBl)) = true := by kernel_rfl
theorem rp8yii : K (.lit (.ofNat 8)) (x 4 0) (x 7 0) (x 8 0) (cat Gp8y (cat GLi GBi)) = true := by kernel_rfl
theorem rp8yib : K (.lit (.ofNat 8)) (x 4 0) (x 7 0) (x 8 1) (cat Gp8y (cat GLi GBb)) = true := by kernel_rfl
theorem rp8ybl : K (.lit (.ofNat 8)) (x 4 0) (x 7 1) (x 8 1) (cat Gp8y (cat GLb GBl)) = true := by kernel_rfl
theorem rp8ybi : K (.lit (.ofNat 8)) (x 4 0) (x 7 1) (x 8 0) (cat Gp8y (cat GLb GBi)) = true := by kernel_rfl
theorem rp8ybb : K (.lit (.ofNat 8)) (x 4 0) (x 7 1) (x 8 1) (cat Gp8y (cat GLb GBb)) = true := by kernel_rfl
theorem rp8nll : K (.lit (.ofNat 8)) (x 4 1) (x 7 1) (x 8 1) (cat Gp8n (cat GLl GBl)) = true := by kernel_rfl
theorem rp8nli : K (.lit (.ofNat 8)) (x 4 1) (x 7 1) (x 8 0) (cat Gp8n (cat GLl GBi)) = true := by kernel_rfl
theorem rp8nlb : K (.lit (.ofNat 8)) (x 4 1) (x 7 1) (x 8 1) (cat Gp8n (cat GLl GBb)) = true := by kernel_rfl
theorem rp8nil : K (.lit (.ofNat 8)) (x 4 1) (x 7 0) (x 8 1) (cat Gp8n (cat GLi GBl)) = true := by kernel_rfl
theorem rp8nii : K (.lit (.ofNat 8)) (x 4 1) (x 7 0) (x 8 0) (cat Gp8n (cat GLi GBi)) = true := by kernel_rfl
theorem rp8nib : K (.lit (.ofNat 8)) (x 4 1) (x 7 0) (x 8 1) (cat Gp8n (cat GLi GBb)) = true := by kernel_rfl
theorem rp8nbl : K (.lit (.ofNat 8)) (x 4 1) (x 7 1) (x 8 1) (cat Gp8n (cat GLb GBl)) = true := by kernel_rfl
theorem rp8nbi : K (.lit (.ofNat 8)) (x 4 1) (x 7 1) (x 8 0) (cat Gp8n (cat GLb GBi)) = true := by kernel_rfl
theorem rp8nbb : K (.lit (.ofNat 8)) (x 4 1) (x 7 1) (x 8 1) (cat Gp8n (cat GLb GBb)) = true := by kernel_rfl
theorem rp16yll : K (.lit (.ofNat 16)) (x 5 0) (x 7 1) (x 8 1) (cat Gp16y (cat GLl GBl)) = true := by kernel_rfl
theorem rp16yli : K (.lit (.ofNat 16)) (x 5 0) (x 7 1) (x 8 0) (cat Gp16y (cat GLl GBi)) = true := by kernel_rfl
theorem rp16ylb : K (.lit (.ofNat 16)) (x 5 0) (x 7 1) (x 8 1) (cat Gp16y (cat GLl GBb)) = true := by kernel_rfl
theorem rp16yil : K (.lit (.ofNat 16)) (x 5 0) (x 7 0) (x 8 1) (cat Gp16y (cat GLi GBl)) = true := by kernel_rfl
theorem rp16yii : K (.lit (.ofNat 16)) (x 5 0) (x 7 0) (x 8 0) (cat Gp16y (cat GLi GBi)) = true := by kernel_rfl
theorem rp16yib : K (.lit (.ofNat 16)) (x 5 0) (x 7 0) (x 8 1) (cat Gp16y (cat GLi GBb)) = true := by kernel_rfl
theorem rp16ybl : K (.lit (.ofNat 16)) (x 5 0) (x 7 1) (x 8 1) (cat Gp16y (cat GLb GBl)) = true := by kernel_rfl
theorem rp16ybi : K (.lit (.ofNat 16)) (x 5 0) (x 7 1) (x 8 0) (cat Gp16y (cat GLb GBi)) = true := by kernel_rfl
theorem rp16ybb : K (.lit (.ofNat 16)) (x 5 0) (x 7 1) (x 8 1) (cat Gp16y (cat GLb GBb)) = true := by kernel_rfl
theorem rp16nll : K (.lit (.ofNat 16)) (x 5 1) (x 7 1) (x 8 1) (cat Gp16n (cat GLl GBl)) = true := by kernel_rfl
theorem rp16nli : K (.lit (.ofNat 16)) (x 5 1) (x 7 1) (x 8 0) (cat Gp16n (cat GLl GBi)) = true := by kernel_rfl
theorem rp16nlb : K (.lit (.ofNat 16)) (x 5 1) (x 7 1) (x 8 1) (cat Gp16n (cat GLl GBb)) = true := by kernel_rfl
theorem rp16nil : K (.lit (.ofNat 16)) (x 5 1) (x 7 0) (x 8 1) (cat Gp16n (cat GLi GBl)) = true := by kernel_rfl
theorem rp16nii : K (.lit (.ofNat 16)) (x 5 1) (x 7 0) (x 8 0) (cat Gp16n (cat GLi GBi)) = true := by kernel_rfl
theorem rp16nib : K (.lit (.ofNat 16)) (x 5 1) (x 7 0) (x 8 1) (cat Gp16n (cat GLi GBb)) = true := by kernel_rfl
theorem rp16nbl : K (.lit (.ofNat 16)) (x 5 1) (x 7 1) (x 8 1) (cat Gp16n (cat GLb GBl)) = true := by kernel_rfl
theorem rp16nbi : K (.lit (.ofNat 16)) (x 5 1) (x 7 1) (x 8 0) (cat Gp16n (cat GLb GBi)) = true := by kernel_rfl
theorem rp16nbb : K (.lit (.ofNat 16)) (x 5 1) (x 7 1) (x 8 1) (cat Gp16n (cat GLb GBb)) = true := by kernel_rfl
theorem rp32yll : K (.lit (.ofNat 32)) (x 6 0) (x 7 1) (x 8 1) (cat Gp32y (cat GLl GBl)) = true := by kernel_rfl
theorem rp32yli : K (.lit (.ofNat 32)) (x 6 0) (x 7 1) (x 8 0) (cat Gp32y (cat GLl GBi)) = true := by kernel_rfl
theorem rp32ylb : K (.lit (.ofNat 32)) (x 6 0) (x 7 1) (x 8 1) (cat Gp32y (cat GLl GBb)) = true := by kernel_rfl
theorem rp32yil : K (.lit (.ofNat 32)) (x 6 0) (x 7 0) (x 8 1) (cat Gp32y (cat GLi GBl)) = true := by kernel_rfl
theorem rp32yii : K (.lit (.ofNat 32)) (x 6 0) (x 7 0) (x 8 0) (cat Gp32y (cat GLi GBi)) = true := by kernel_rfl
theorem rp32yib : K (.lit (.ofNat 32)) (x 6 0) (x 7 0) (x 8 1) (cat Gp32y (cat GLi GBb)) = true := by kernel_rfl
theorem rp32ybl : K (.lit (.ofNat 32)) (x 6 0) (x 7 1) (x 8 1) (cat Gp32y (cat GLb GBl)) = true := by kernel_rfl
theorem rp32ybi : K (.lit (.ofNat 32)) (x 6 0) (x 7 1) (x 8 0) (cat Gp32y (cat GLb GBi)) = true := by kernel_rfl
theorem rp32ybb : K (.lit (.ofNat 32)) (x 6 0) (x 7 1) (x 8 1) (cat Gp32y (cat GLb GBb)) = true := by kernel_rfl
theorem rp32nll : K (.lit (.ofNat 32)) (x 6 1) (x 7 1) (x 8 1) (cat Gp32n (cat GLl GBl)) = true := by kernel_rfl
theorem rp32nli : K (.lit (.ofNat 32)) (x 6 1) (x 7 1) (x 8 0) (cat Gp32n (cat GLl GBi)) = true := by kernel_rfl
theorem rp32nlb : K (.lit (.ofNat 32)) (x 6 1) (x 7 1) (x 8 1) (cat Gp32n (cat GLl GBb)) = true := by kernel_rfl
theorem rp32nil : K (.lit (.ofNat 32)) (x 6 1) (x 7 0) (x 8 1) (cat Gp32n (cat GLi GBl)) = true := by kernel_rfl
theorem rp32nii : K (.lit (.ofNat 32)) (x 6 1) (x 7 0) (x 8 0) (cat Gp32n (cat GLi GBi)) = true := by kernel_rfl
theorem rp32nib : K (.lit (.ofNat 32)) (x 6 1) (x 7 0) (x 8 1) (cat Gp32n (cat GLi GBb)) = true := by kernel_rfl
theorem rp32nbl : K (.lit (.ofNat 32)) (x 6 1) (x 7 1) (x 8 1) (cat Gp32n (cat GLb GBl)) = true := by kernel_rfl
theorem rp32nbi : K (.lit (.ofNat 32)) (x 6 1) (x 7 1) (x 8 0) (cat Gp32n (cat GLb GBi)) = true := by kernel_rfl
theorem rp32nbb : K (.lit (.ofNat 32)) (x 6 1) (x 7 1) (x 8 1) (cat Gp32n (cat GLb GBb)) = true := by kernel_rfl
end Go.Proofs.YtphhdonkpijhhaaGreatDoor.Am.TypesRefuses
