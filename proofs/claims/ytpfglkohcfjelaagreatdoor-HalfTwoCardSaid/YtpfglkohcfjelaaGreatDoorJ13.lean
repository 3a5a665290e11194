/- Lemmas of this claim, joined by program. Every length up to 4096 has a plan: the kernel's reckoning. Conditions: each lemma names its own. -/
import Derived.Test.YtpfglkohcfjelaaGreatDoorJ12
import Derived.KernelRfl
set_option linter.all false
namespace Go.Tm
set_option maxRecDepth 100000
def hardBits : Nat := 14002965522894427321234796238709200263339036926754106014856454300127613881710169960230976125241951320830604041404004586111951411153267464521624230584026894362038605052582976505844049973041882429970656358752599692373594566183084448162069963707463123517529019427410071764563375333838809268558179586710262744288708271136599866304371612964141909965304180093176094567500290413935740763936332080753173827237227847858840583088599758040124562697483867700401337479450251495830454835988949838248329792046011104979064914622293115696482475845889998474288509594307103426487198404404460198713295405438224207903275560117478797509480522902942606196294909966817815366086248662480176101236603445960663220856701900302421874483488861906973734856263191186741050146635600882539316982337882096766566654459834057348356299233181092769192662217619077557414039717922359128997396392110875778387892260812441064271188984887744296168573489191152294635681637560736416611567698915639717012101929208849162084091822113526523045006615935358860225207644284739226963106286253525408384092254076730044567512290895915344006374150120812560298596814751500916430765953921134329560309688450120727082201145207853555499379250246002143753122609726990825330019195258916899843704719063399535479763450498037874712111407163659054268209793597923572519199646285069266992820199620299331639469605444428899166618209756706680822287415072885702656
def hb (n : Nat) : Bool := Nat.beq (hardBits / 2 ^ n % 2) 1
def chkH (i : Nat) : Bool := (List.range 512).all fun k => hardN (512 * i + k) == hb (512 * i + k)
theorem chkH0 : chkH 0 = true := by kernel_rfl
theorem chkH1 : chkH 1 = true := by kernel_rfl
theorem chkH2 : chkH 2 = true := by kernel_rfl
theorem chkH3 : chkH 3 = true := by kernel_rfl
theorem chkH4 : chkH 4 = true := by kernel_rfl
theorem chkH5 : chkH 5 = true := by kernel_rfl
theorem chkH6 : chkH 6 = true := by kernel_rfl
theorem chkH7 : chkH 7 = true := by kernel_rfl
theorem chkH8 : (hardN 4096 == hb 4096) = true := by kernel_rfl
theorem hb_ok {n : Nat} (h : n ≤ 4096) : hb n = hardM PU (facs n) n := by
 have key : ∀ i, chkH i = true → ∀ k, k < 512 → hb (512 * i + k) = hardN (512 * i + k) := fun i hi k hk => by
  have := List.all_eq_true.1 hi k (List.mem_range.2 hk)
  exact (beq_iff_eq.1 this).symm
 show hb n = hardN n
 by_cases h8 : n = 4096
 · subst h8; exact (beq_iff_eq.1 chkH8).symm
 ·
  have hi : n / 512 < 8 := by omega
  have e : n = 512 * (n / 512) + n % 512 := by omega
  have hk : n % 512 < 512 := by omega
  rw [e]
  generalize n / 512 = i at hi
  generalize n % 512 = k at hk
  match i, hi with
  | 0, _ => exact key 0 chkH0 k hk
  | 1, _ => exact key 1 chkH1 k hk
  | 2, _ => exact key 2 chkH2 k hk
  | 3, _ => exact key 3 chkH3 k hk
  | 4, _ => exact key 4 chkH4 k hk
  | 5, _ => exact key 5 chkH5 k hk
  | 6, _ => exact key 6 chkH6 k hk
  | 7, _ => exact key 7 chkH7 k hk
theorem goK0 : goK 0 = some (ex 0) := by kernel_rfl
theorem goK1 : goK 1 = some (ex 1) := by kernel_rfl
theorem goK2 : goK 2 = some (ex 2) := by kernel_rfl
theorem goK3 : goK 3 = some (ex 3) := by kernel_rfl
theorem goK4 : goK 4 = some (ex 4) := by kernel_rfl
theorem goK5 : goK 5 = some (ex 5) := by kernel_rfl
theorem goK6 : goK 6 = some (ex 6) := by kernel_rfl
theorem goK7 : goK 7 = some (ex 7) := by kernel_rfl
theorem goK8 : goK 8 = some (ex 8) := by kernel_rfl
theorem goK9 : goK 9 = some (ex 9) := by kernel_rfl
theorem goK10 : goK 10 = some (ex 10) := by kernel_rfl
theorem goK11 : goK 11 = some (ex 11) := by kernel_rfl
theorem goK12 : goK 12 = some (ex 12) := by kernel_rfl
theorem goK13 : goK 13 = some (ex 13) := by kernel_rfl
theorem goK_ok : ∀ k, k < 14 → goK k = some (ex k)
 | 0, _ => goK0
 | 1, _ => goK1
 | 2, _ => goK2
 | 3, _ => goK3
 | 4, _ => goK4
 | 5, _ => goK5
 | 6, _ => goK6
 | 7, _ => goK7
 | 8, _ => goK8
 | 9, _ => goK9
 | 10, _ => goK10
 | 11, _ => goK11
 | 12, _ => goK12
 | 13, _ => goK13
 | k + 14, h => absurd h (by omega)
theorem base_ok : baseL.all baseOk = true := by kernel_rfl
theorem run_ok : (runT hb 4096 1 base0).isSome = true := by kernel_rfl
theorem hasP_all {n : Int} (h1 : 1 ≤ n) (h2 : n ≤ 4096) : HasP PU n := by
 obtain ⟨m, rfl⟩ : ∃ m : Nat, n = m := ⟨n.toNat, by omega⟩
 obtain ⟨T, hT⟩ := Option.isSome_iff_exists.1 run_ok
 obtain ⟨v, hv⟩ := runT_inv (H := hb) (fun n hn => hb_ok hn) 4096 1 base0 T (base_inv goK_ok (fun x hx => List.all_eq_true.1 base_ok x hx)) (Nat.le_refl 1) (by omega) hT m (by omega) (by omega)
 exact hv.has (by omega)
end Go.Tm
