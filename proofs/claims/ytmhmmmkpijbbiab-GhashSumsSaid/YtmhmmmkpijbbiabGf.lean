/- The field of 2^128 elements in the order of GHASH, as whole numbers: products have no order, squares are additive, 128 squarings change nothing, each element but 0 has an inverse. No program in sight. -/
import Derived.RowKit
namespace Go.Proofs.Ytmhmmmkpijbbiab.Gf
/-- What x^128 is. -/
def R : Nat := 299076299051606071403356588563077529600
def one : Nat := 170141183460469231731687303715884105728
def gen : Nat := 85070591730234615865843651857942052864
def top : Nat := 340282366920938463463374607431768211456
/-- The product with x. -/
def nx (n : Nat) : Nat := if n % 2 = 1 then (n / 2) ^^^ R else n / 2
/-- The sum of o, x o, x^2 o .. at the coefficients of a. -/
def S (a : Nat) : Nat → Nat → Nat
  | 0, _ => 0
  | k + 1, o => (if a.testBit k then o else 0) ^^^ S a k (nx o)
def mul (a b : Nat) : Nat := S a 128 b
theorem xor4 (a b c d : Nat) : (a ^^^ b) ^^^ (c ^^^ d) = (a ^^^ c) ^^^ (b ^^^ d) := by
  rw [Nat.xor_assoc, Nat.xor_assoc, ← Nat.xor_assoc b, Nat.xor_comm b c, Nat.xor_assoc c b]
theorem half_xor (x y : Nat) : (x ^^^ y) / 2 = x / 2 ^^^ y / 2 := by
  have h := Nat.shiftRight_xor_distrib (a := x) (b := y) (i := 1)
  simpa [Nat.shiftRight_eq_div_pow] using h
theorem odd_xor (x y : Nat) : (x ^^^ y) % 2 = 1 ↔ ¬ ((x % 2 = 1) ↔ (y % 2 = 1)) := Nat.xor_mod_two_eq_one
theorem nx_xor (x y : Nat) : nx (x ^^^ y) = nx x ^^^ nx y := by
  unfold nx
  rw [half_xor]
  have h := odd_xor x y
  by_cases h1 : x % 2 = 1 <;> by_cases h2 : y % 2 = 1
  · rw [if_neg (by rw [h]; simp [h1, h2]), if_pos h1, if_pos h2, xor4, Nat.xor_self, Nat.xor_zero]
  · rw [if_pos (by rw [h]; simp [h1, h2]), if_pos h1, if_neg h2, Nat.xor_assoc, Nat.xor_assoc, Nat.xor_comm R]
  · rw [if_pos (by rw [h]; simp [h1, h2]), if_neg h1, if_pos h2, Nat.xor_assoc]
  · rw [if_neg (by rw [h]; simp [h1, h2]), if_neg h1, if_neg h2]
theorem nx_zero : nx 0 = 0 := by decide
theorem R_lt : R < top := by decide
theorem R_ge : one ≤ R := by decide
theorem top_eq : top = 2 ^ 128 := by decide
theorem xor_lt {x y : Nat} (hx : x < top) (hy : y < top) : x ^^^ y < top := by
  rw [top_eq] at *
  exact Nat.xor_lt_two_pow hx hy
theorem nx_lt {x : Nat} (hx : x < top) : nx x < top := by
  unfold nx
  split
  · exact xor_lt (by omega) R_lt
  · omega
theorem S_zero_right (a : Nat) : ∀ k, S a k 0 = 0 := by
  intro k
  induction k with
  | zero => rfl
  | succ k ih => rw [S, nx_zero, ih]; simp
theorem S_xor_right (a : Nat) : ∀ k x y, S a k (x ^^^ y) = S a k x ^^^ S a k y := by
  intro k
  induction k with
  | zero => intro x y; simp [S]
  | succ k ih =>
    intro x y
    rw [S, S, S, nx_xor, ih]
    split
    · rw [xor4]
    · simp
theorem S_xor_left (a b : Nat) : ∀ k o, S (a ^^^ b) k o = S a k o ^^^ S b k o := by
  intro k
  induction k with
  | zero => intro o; simp [S]
  | succ k ih =>
    intro o
    rw [S, S, S, ih, Nat.testBit_xor]
    cases a.testBit k <;> cases b.testBit k <;> simp
    · rw [← Nat.xor_assoc, ← Nat.xor_assoc, Nat.xor_comm o]
    · rw [Nat.xor_assoc]
    · rw [xor4, Nat.xor_self, Nat.zero_xor]
theorem S_nx (a : Nat) : ∀ k o, nx (S a k o) = S a k (nx o) := by
  intro k
  induction k with
  | zero => intro o; exact nx_zero
  | succ k ih =>
    intro o
    rw [S, S, nx_xor, ih]
    split
    · rfl
    · rw [nx_zero]
theorem S_comm (a b : Nat) (j : Nat) : ∀ k o, S a k (S b j o) = S b j (S a k o) := by
  intro k
  induction k with
  | zero => intro o; simp only [S]; rw [S_zero_right]
  | succ k ih =>
    intro o
    rw [S, S_nx, ih, S, S_xor_right]
    split
    · rfl
    · rw [S_zero_right]
theorem S_lt (a : Nat) : ∀ k o, o < top → S a k o < top := by
  intro k
  induction k with
  | zero => intro o _; exact (by decide : 0 < top)
  | succ k ih =>
    intro o ho
    rw [S]
    refine xor_lt ?_ (ih _ (nx_lt ho))
    split
    · exact ho
    · exact (by decide : 0 < top)
theorem mul_lt {a b : Nat} (hb : b < top) : mul a b < top := S_lt a 128 b hb
theorem nx_pow (k : Nat) : nx (2 ^ (k + 1)) = 2 ^ k := by
  have h : 2 ^ (k + 1) = 2 * 2 ^ k := by rw [Nat.pow_succ, Nat.mul_comm]
  unfold nx
  rw [if_neg (by omega)]
  omega
theorem bit_xor (x k : Nat) : x % 2 ^ (k + 1) = (if x.testBit k then 2 ^ k else 0) ^^^ (x % 2 ^ k) := by
  have h1 : x % 2 ^ (k + 1) = x % 2 ^ k + 2 ^ k * (x / 2 ^ k % 2) := Nat.mod_pow_succ
  have hlt := Nat.mod_lt x (Nat.two_pow_pos k)
  rw [h1, Nat.testBit_eq_decide_div_mod_eq]
  have h2 := Nat.mod_lt (x / 2 ^ k) (by omega : 2 > 0)
  by_cases hb : x / 2 ^ k % 2 = 1
  rotate_left
  · rw [decide_eq_false hb, show x / 2 ^ k % 2 = 0 by omega]
    simp
  · rw [decide_eq_true hb, hb, if_pos rfl, Nat.mul_one, Nat.add_comm]
    apply Nat.eq_of_testBit_eq
    intro i
    rw [Nat.testBit_xor, Nat.testBit_two_pow]
    by_cases hi : k = i
    · subst hi
      rw [Nat.testBit_two_pow_add_eq, Nat.testBit_lt_two_pow hlt]
      simp
    · rw [decide_eq_false hi, Bool.false_xor]
      rcases Nat.lt_or_gt_of_ne hi with h | h
      · have e1 : 2 ^ k + x % 2 ^ k < 2 ^ i := Nat.lt_of_lt_of_le (by rw [Nat.pow_succ]; omega) (Nat.pow_le_pow_right (by omega) h : 2 ^ (k + 1) ≤ 2 ^ i)
        rw [Nat.testBit_lt_two_pow e1, Nat.testBit_lt_two_pow (by omega)]
      · rw [Nat.testBit_two_pow_add_gt h]
theorem S_one_aux (a : Nat) : ∀ k, S a (k + 1) (2 ^ k) = a % 2 ^ (k + 1) := by
  intro k
  induction k with
  | zero => rw [bit_xor]; simp [S, Nat.mod_one]
  | succ k ih => rw [S, nx_pow, ih, bit_xor a (k + 1)]
theorem one_eq : one = 2 ^ 127 := by decide
theorem mul_one {a : Nat} (ha : a < top) : mul a one = a := by
  rw [mul, one_eq, S_one_aux, ← top_eq]
  exact Nat.mod_eq_of_lt ha
theorem mul_comm {a b : Nat} (ha : a < top) (hb : b < top) : mul a b = mul b a := by
  have h1 := mul_one ha
  have h2 := mul_one hb
  have h := S_comm a b 128 128 one
  unfold mul at *
  rw [h2, h1] at h
  exact h
theorem one_lt : one < top := by decide
theorem gen_lt : gen < top := by decide
theorem one_mul {a : Nat} (ha : a < top) : mul one a = a := by rw [mul_comm one_lt ha, mul_one ha]
theorem mul_left_comm (a b c : Nat) : mul a (mul b c) = mul b (mul a c) := S_comm a b 128 128 c
theorem mul_assoc {a b c : Nat} (_ha : a < top) (hb : b < top) (hc : c < top) : mul (mul a b) c = mul a (mul b c) := by
  rw [mul_comm (mul_lt hb) hc, mul_left_comm, mul_comm hc hb]
theorem mul_xor_right (a x y : Nat) : mul a (x ^^^ y) = mul a x ^^^ mul a y := S_xor_right a 128 x y
theorem mul_xor_left (a b o : Nat) : mul (a ^^^ b) o = mul a o ^^^ mul b o := S_xor_left a b 128 o
theorem mul_zero (a : Nat) : mul a 0 = 0 := S_zero_right a 128
theorem zero_mul {a : Nat} (ha : a < top) : mul 0 a = 0 := by rw [mul_comm (by decide) ha, mul_zero]
theorem S_gen (k : Nat) (o : Nat) (h : k ≤ 126) : S gen k o = 0 := by
  induction k generalizing o with
  | zero => rfl
  | succ k ih =>
    rw [S, ih _ (by omega)]
    have : gen.testBit k = false := by
      have e : gen = 2 ^ 126 := by decide
      rw [e, Nat.testBit_two_pow, decide_eq_false (by omega)]
    rw [this]
    simp
theorem mul_gen (o : Nat) : mul gen o = nx o := by
  have h1 : gen.testBit 127 = false := by decide
  have h2 : gen.testBit 126 = true := by decide
  rw [mul, S, S, h1, h2, S_gen 126 _ (by omega)]
  simp
/-! ### squares -/
def sq (a : Nat) : Nat := mul a a
def F : Nat → Nat → Nat
  | 0, a => a
  | k + 1, a => F k (sq a)
theorem sq_lt {a : Nat} (ha : a < top) : sq a < top := mul_lt ha
theorem sq_xor {a b : Nat} (ha : a < top) (hb : b < top) : sq (a ^^^ b) = sq a ^^^ sq b := by
  unfold sq
  rw [mul_xor_left, mul_xor_right, mul_xor_right, mul_comm hb ha, xor4, Nat.xor_comm (mul a b) (mul b b), ← Nat.xor_assoc, Nat.xor_assoc, Nat.xor_assoc, Nat.xor_comm (mul a b), Nat.xor_assoc, Nat.xor_self, Nat.xor_zero]
theorem sq_mul {a b : Nat} (ha : a < top) (hb : b < top) : sq (mul a b) = mul (sq a) (sq b) := by
  unfold sq
  rw [mul_assoc ha hb (mul_lt hb), mul_left_comm b a b, mul_assoc ha ha (mul_lt hb)]
theorem F_lt : ∀ k {a : Nat}, a < top → F k a < top := by
  intro k
  induction k with
  | zero => intro a h; exact h
  | succ k ih => intro a h; exact ih (sq_lt h)
theorem F_xor : ∀ k {a b : Nat}, a < top → b < top → F k (a ^^^ b) = F k a ^^^ F k b := by
  intro k
  induction k with
  | zero => intro a b _ _; rfl
  | succ k ih => intro a b ha hb; rw [F, F, F, sq_xor ha hb, ih (sq_lt ha) (sq_lt hb)]
theorem F_mul : ∀ k {a b : Nat}, a < top → b < top → F k (mul a b) = mul (F k a) (F k b) := by
  intro k
  induction k with
  | zero => intro a b _ _; rfl
  | succ k ih => intro a b ha hb; rw [F, F, F, sq_mul ha hb, ih (sq_lt ha) (sq_lt hb)]
theorem F_succ' : ∀ k a, F (k + 1) a = sq (F k a) := by
  intro k
  induction k with
  | zero => intro a; rfl
  | succ k ih => intro a; rw [F, ih]; rfl
theorem F_gen : F 128 gen = gen := by decide +kernel
theorem F_one : F 128 one = one := by decide +kernel
theorem F_zero (k : Nat) : F k 0 = 0 := by
  induction k with
  | zero => rfl
  | succ k ih =>
    have h : F (k + 1) 0 = F k (sq 0) := rfl
    rw [h, show sq 0 = 0 from mul_zero 0, ih]
theorem F_nx {o : Nat} (ho : o < top) : F 128 (nx o) = nx (F 128 o) := by rw [← mul_gen, F_mul 128 gen_lt ho, F_gen, mul_gen]
theorem F_S (a : Nat) : ∀ k o, o < top → F 128 (S a k o) = S a k (F 128 o) := by
  intro k
  induction k with
  | zero => intro o _; exact F_zero 128
  | succ k ih =>
    intro o ho
    rw [S, S, F_xor 128 (by split; exact ho; decide) (S_lt _ _ _ (nx_lt ho)), ih _ (nx_lt ho), F_nx ho]
    split
    · rfl
    · rw [F_zero]
/-- 128 squarings change nothing. -/
theorem F_id {a : Nat} (ha : a < top) : F 128 a = a := by
  have h : F 128 (mul a one) = mul a (F 128 one) := F_S a 128 one one_lt
  have h1 := mul_one ha
  exact (congrArg (F 128) h1).symm.trans (h.trans ((congrArg (mul a) F_one).trans h1))
theorem nx_eq_zero {x : Nat} (hx : x < top) : nx x = 0 ↔ x = 0 := by
  constructor
  · intro h
    unfold nx at h
    split at h
    · have h2 : x / 2 ^^^ R ^^^ R = 0 ^^^ R := by rw [h]
      rw [Nat.xor_assoc, Nat.xor_self, Nat.xor_zero, Nat.zero_xor] at h2
      have h3 := R_ge
      have h4 : top = one + one := by decide
      omega
    · omega
  · intro h; rw [h, nx_zero]
/-! ### idempotents: 0 and 1 alone -/
def cols : List Nat := [0, 6161591008139076202154902373133594561, 71430717218983613641036104277415506289, 87518597585245962833849474628053070758, 72921817864677867521778898634038080609, 163309321578052146879237778733101511783, 126814247099887467207929949960147586332, 133487668004820722767044853458355047125, 108887185710678174598840578861931466132, 72978216601350599296199603180564021825, 126976600203468727039316187211004055892, 49689517519420395515082114066310337331, 12764899024296983899235621676887115841, 59792954277794326371429463258526948146, 275464514806027128612938827324864, 33882886127255646541338116557250298163, 133385434108064708788808215410435911893, 153238470225796905537047657204766862374, 127777348636302309636952298273557535380, 58594334107495617071392172125656399538, 5725366257701666555538562805218717057, 159324042485362592547018579093184240551, 149021274876537960721224429182834492454, 94333773739946854309780815578084996199, 161752945482599484730126084874801441767, 115575792119390728221592460023876181333, 133436244703473040169882794575366898389, 34751610155981195849944733847405496627, 100972845268357601278728964017462078439, 44935323831972008745566419208193456946, 132003651752985294974180122299820886164, 45594221442569777339127844318073854322, 100983558286137050684044238585428660711, 140308235276559149970208740923126577813, 92325303522414418149753570460923091879, 26944628100264108509229864938392397555, 81071795988965022717357904530596407232, 58275656592719279154056000246173111091, 51613027339492204128265575524803459891, 142140898696765075202304690604976981845, 53639910565545342273528145980335791795, 4726979706490419237355323591502507968, 161542955870533464563010084267448332775, 65334779303751560239471195525024588352, 122557457634345817322758110469731963540, 79569572988994598121356082874814992321, 9537274821874957483351388617584152641, 109427184872331881977228478262674814292, 96504253903287235160744645914913229863, 35809052500294759256374056413191545715, 63089105448741488643398279942380763954, 84108490886122099842324906724524496768, 161537358671016203777973217828391545831, 49921000058860506912943830473554996979, 113870918609522322281985099445019275925, 45994406431766860863727072382817147250, 6116654749483988959971426010360459777, 88394181539591460295416373139500891046, 93226277353508642900164249188457535015, 123506241354959402090274531190302866772, 72992884249465865451566362034747193217, 123492369307601207700488716387690115284, 67288019353279926038130604499846823936, 96617416833907240315124182200439430055, 6161591008139076220601646446843146177, 87518597585245962796955986480633967526, 163309321578052146805450802438263305319, 133487668004820722619470900868678634197, 72978216601350599591347508359916847681, 49689517519420396105377924425015989043, 59792954277794325190837842541115644722, 33882886127255648902521357992072905011, 153238470225796900814681174335121648678, 58594334107495626516125137864946826930, 159324042485362573657552647614603385767, 94333773739946892088712678535246705767, 115575792119390803779456185938199600469, 34751610155981346965672185676052334899, 44935323831971706514111515550899780402, 45594221442570381802037651632661207410, 140308235276560358896028355552301283989, 26944628100266526360869094196741809907, 58275656592714443450777541729474286387, 142140898696755403795747773571579332437, 4726979706471076424241489524707209152, 65334779303712874613243527391433990720, 79569572989071969373811419141996187585, 109427184872177139472317805728312423764, 35809052500604244266195401481916326771, 84108490886741069861967596861974058880, 49921000057622566873658450198655872755, 45994406429290980785156311833018898802, 88394181544543220452557894239097387942, 123506241345055881775991488991109872980, 123492369287794167071922631989304127700, 96617416873521321572256350997211405223, 87518597506017800282691648887090017190, 133487668163277047647999576055766534869, 49689517202507746048320574050840187699, 33882886761080949016636058740424507699, 58594332839845026287895736368243621554, 94333771204645691632253875541840295015, 34751615226583747878589791662865156403, 45594211301365579976202439659035564402, 26944648382676130012539518143993095923, 142140858131936196492406925677076760405, 65334698174074460006561831602428846656, 109427022612900310258954414150302135636, 84108166368187411435240813705953482624, 45993757392183663931702745520977746290, 123504943270841248069084356367027567956, 96614820725092054158442085749046795175, 133492860460135582475628106552095754965, 33893271354798018671893119733082947891, 94354540392079830942767997527157175399, 45552672926497301355174195688401803634, 142223934881672753734463413618344281941, 109593176112373424743067390032837178708, 46326064391129892899928697286047832434, 95950206727199596221990182218906622887, 32564043359013102798989312672802603315, 42894216934927469609366581567841114482, 114910088095513088234682618273958557012, 85316382760920269238759725736663866279, 64161864867486123575827494532326627698, 127851678626037577171681551665634892711, 42781086895802961305837899807692839847, 22349210433241643211303706255459310228]
def lin : List Nat → Nat → Nat → Nat
  | [], _, _ => 0
  | c :: t, i, y => (if y.testBit i then c else 0) ^^^ lin t (i + 1) y
theorem lin_xor : ∀ l i x y, lin l i (x ^^^ y) = lin l i x ^^^ lin l i y := by
  intro l
  induction l with
  | nil => intro i x y; simp [lin]
  | cons c t ih =>
    intro i x y
    rw [lin, lin, lin, ih, Nat.testBit_xor]
    cases x.testBit i <;> cases y.testBit i <;> simp
    · rw [← Nat.xor_assoc, ← Nat.xor_assoc, Nat.xor_comm c]
    · rw [Nat.xor_assoc]
    · rw [xor4, Nat.xor_self, Nat.zero_xor]
def clr (x : Nat) : Nat := if x.testBit 127 then x ^^^ one else x
theorem clr_xor (x y : Nat) : clr (x ^^^ y) = clr x ^^^ clr y := by
  unfold clr
  rw [Nat.testBit_xor]
  cases x.testBit 127 <;> cases y.testBit 127 <;> simp
  · rw [Nat.xor_assoc]
  · rw [Nat.xor_assoc, Nat.xor_assoc, Nat.xor_comm one]
  · rw [xor4, Nat.xor_self, Nat.xor_zero]
theorem lin_check : (List.range 128).all (fun i => lin cols 0 (sq (2 ^ i) ^^^ 2 ^ i) == clr (2 ^ i)) = true := by decide +kernel
theorem lin_clr_aux (x : Nat) : ∀ k, k ≤ 128 → lin cols 0 (sq (x % 2 ^ k) ^^^ x % 2 ^ k) = clr (x % 2 ^ k) := by
  intro k
  induction k with
  | zero => intro _; rw [Nat.pow_zero, Nat.mod_one]; decide +kernel
  | succ k ih =>
    intro hk
    have hp : 2 ^ k < top := by rw [top_eq]; exact Nat.pow_lt_pow_right (by omega) (by omega)
    have hm : x % 2 ^ k < top := Nat.lt_trans (Nat.mod_lt _ (Nat.two_pow_pos k)) hp
    rw [bit_xor, sq_xor (by split; exact hp; decide) hm, xor4, lin_xor, clr_xor, ih (by omega)]
    congr 1
    split
    · have h := List.all_eq_true.1 lin_check k (List.mem_range.2 (by omega))
      exact eq_of_beq h
    · decide +kernel
theorem lin_clr {x : Nat} (hx : x < top) : lin cols 0 (sq x ^^^ x) = clr x := by
  have h := lin_clr_aux x 128 (Nat.le_refl _)
  rwa [← top_eq, Nat.mod_eq_of_lt hx] at h
theorem idem {u : Nat} (hu : u < top) (h : sq u = u) : u = 0 ∨ u = one := by
  have h1 := lin_clr hu
  rw [h, Nat.xor_self] at h1
  have h2 : lin cols 0 0 = 0 := by decide +kernel
  rw [h2] at h1
  unfold clr at h1
  split at h1
  · right
    have h3 : u ^^^ one ^^^ one = 0 ^^^ one := by rw [← h1]
    rwa [Nat.xor_assoc, Nat.xor_self, Nat.xor_zero, Nat.zero_xor] at h3
  · exact .inl h1.symm
/-! ### inverses -/
/-- The product of a, a^2, a^4 .. of k factors, from the j-th on. -/
def pr (a : Nat) : Nat → Nat
  | 0 => one
  | k + 1 => mul (pr a k) (F (k + 1) a)
theorem pr_lt {a : Nat} (ha : a < top) : ∀ k, pr a k < top := by
  intro k
  induction k with
  | zero => exact one_lt
  | succ k ih => exact mul_lt (F_lt _ ha)
/-- a^2 a^4 .. a^(2^k), times a, times a: a^(2^(k+1)). -/
theorem pr_a {a : Nat} (ha : a < top) : ∀ k, mul (mul (pr a k) a) a = F (k + 1) a := by
  intro k
  induction k with
  | zero => rw [pr, one_mul ha]; rfl
  | succ k ih =>
    have hp := pr_lt ha k
    have hf := F_lt (k + 1) ha
    rw [pr, mul_assoc hp hf ha, mul_comm hf ha, ← mul_assoc hp ha hf, mul_assoc (mul_lt ha) hf ha, mul_comm hf ha, ← mul_assoc (mul_lt ha) ha hf, ih, F_succ' (k + 1) a]
    rfl
theorem sq_pr {a : Nat} (ha : a < top) : ∀ k, mul (sq (pr a k)) (sq a) = pr a (k + 1) := by
  intro k
  induction k with
  | zero => rw [pr, pr, pr, show sq one = one by decide +kernel]; rfl
  | succ k ih =>
    have hp := pr_lt ha k
    have hf := F_lt (k + 1) ha
    rw [pr, sq_mul hp hf, ← F_succ', mul_assoc (sq_lt hp) (F_lt _ ha) (sq_lt ha), mul_comm (F_lt _ ha) (sq_lt ha), ← mul_assoc (sq_lt hp) (sq_lt ha) (F_lt _ ha), ih]
    rfl
theorem inverse {a : Nat} (ha : a < top) (h0 : a ≠ 0) : mul (pr a 127) a = one := by
  have hp := pr_lt ha 127
  have hu : mul (pr a 127) a < top := mul_lt ha
  have h1 : mul (mul (pr a 127) a) a = a := by rw [pr_a ha 127]; exact F_id ha
  have h2 : sq (mul (pr a 127) a) = mul (pr a 127) a := by
    rw [sq_mul hp ha, sq_pr ha 127, pr]
    have h3 : F (127 + 1) a = a := F_id ha
    rw [h3]
  rcases idem hu h2 with h | h
  · rw [h, zero_mul ha] at h1
    exact absurd h1.symm h0
  · exact h
theorem pr_zero : ∀ k, pr 0 (k + 1) = 0 := by
  intro k
  rw [pr, F_zero, mul_zero]
/-- There are no divisors of nought. -/
theorem mul_eq_zero {a b : Nat} (ha : a < top) (hb : b < top) : mul a b = 0 ↔ a = 0 ∨ b = 0 := by
  constructor
  · intro h
    by_cases h0 : a = 0
    · exact .inl h0
    right
    have h1 : mul (pr a 127) (mul a b) = b := by rw [← mul_assoc (pr_lt ha _) ha hb, inverse ha h0, one_mul hb]
    rw [h, mul_zero] at h1
    exact h1.symm
  · rintro (h | h)
    · rw [h, zero_mul hb]
    · rw [h, mul_zero]
/-! ### powers -/
def pw (a : Nat) : Nat → Nat
  | 0 => one
  | n + 1 => mul (pw a n) a
theorem pw_lt {a : Nat} (ha : a < top) : ∀ n, pw a n < top := by
  intro n
  cases n with
  | zero => exact one_lt
  | succ n => exact mul_lt ha
theorem pw_add {a : Nat} (ha : a < top) (n : Nat) : ∀ m, mul (pw a n) (pw a m) = pw a (n + m) := by
  intro m
  induction m with
  | zero => exact mul_one (pw_lt ha n)
  | succ m ih => rw [pw, ← mul_assoc (pw_lt ha n) (pw_lt ha m) ha, ih]; rfl
theorem pw_one {a : Nat} (ha : a < top) : pw a 1 = a := one_mul ha
theorem pw_sq {a : Nat} (ha : a < top) : ∀ n, pw (sq a) n = pw a (2 * n) := by
  intro n
  induction n with
  | zero => rfl
  | succ n ih =>
    rw [pw, ih]
    have h : pw a (2 * (n + 1)) = mul (mul (pw a (2 * n)) a) a := rfl
    rw [h, mul_assoc (pw_lt ha _) ha ha]
    rfl
end Go.Proofs.Ytmhmmmkpijbbiab.Gf
