/- Own work, by program: the document's log: numbers, records, marks: walked. -/
import Derived.Test.YtepncdidkjjllaaL4M
namespace Go.Proofs.Ytepncdidkjjllaa
open Go
set_option maxRecDepth 100000 in
theorem rsmall_spec (s : Bs) (hs : s.length ≤ 9223372036854775807) : Fn Try.prog 113 #[vstr s] [] fun v L => v = vint (smallZ s) ∧ L = [] := by
  refine Fn.intro (vs := [vstr s]) Try.func113 rfl rfl ?_
  intro F W
  refine G.seq ?_
  refine G.region ?_
  refine G.q (Quiet.assign rfl) rfl ?_
  refine G.nil ?_
  refine G.then_n ?_
  refine G.seq ?_
  refine G.region ?_
  refine G.q (Quiet.assign rfl) rfl ?_
  refine G.nil ?_
  refine G.then_n ?_
  refine G.seq ?_
  refine G.seq ?_
  refine G.region ?_
  refine G.q (Quiet.assign rfl) rfl ?_
  refine G.nil ?_
  refine G.then_n ?_
  refine G.block ?_
  refine G.loopK (ι := Nat) (fun q E => (4, vint q) :: (3, vint (IntKind.i64.wrap (beZ (s.take q) 0))) :: E) (fun q => []) (fun q => q ≤ s.length) (fun q => s.length - q) (0) (ts := [0, 2]) (.cons rfl (.cons rfl (.nil))) (Nat.zero_le _) ⟨rfl, rfl, rfl, rfl, trivial⟩ (by (repeat (first | exact Picks.nil | (apply Picks.cons; (repeat (first | exact Pick.here | apply Pick.there)))))) ?_
  rintro i hi
  refine G.seq ?_
  refine G.seq ?_
  refine G.region ?_
  refine G.q (Quiet.move rfl) rfl ?_
  refine G.q (Quiet.move rfl) rfl ?_
  refine G.q (Quiet.strlen rfl Try.underlying9 rfl) rfl ?_
  refine G.q (Quiet.int rfl rfl rfl) rfl ?_
  refine G.nil ?_
  refine G.then_n ?_
  refine G.condD rfl (fun h8 => ?_) (fun h8 => ?_)
  · have hi2 : i < s.length := by simpa [bs_size] using h8
    refine G.skip ?_
    refine G.then_n ?_
    refine G.seq ?_
    refine G.block ?_
    refine G.region ?_
    refine G.q (Quiet.move rfl) rfl ?_
    refine G.q (Quiet.int rfl rfl rfl) rfl ?_
    refine G.q (Quiet.move rfl) rfl ?_
    refine G.q (Quiet.move rfl) rfl ?_
    refine G.q (Quiet.strIndex (c := s[i]) rfl rfl Try.underlying9 (by omega) (by simp)) rfl ?_
    refine G.q (Quiet.conv rfl Try.underlying5 Try.underlying3) rfl ?_
    refine G.q (Quiet.to (v' := vint (IntKind.i64.wrap (beZ (s.take (i + 1)) 0))) (Quiet.int rfl rfl rfl) (congrArg (Value.int .i64) (rsmall_next hi2))) rfl ?_
    refine G.q (Quiet.assign rfl) rfl ?_
    refine G.nil ?_
    refine G.blk_n ?_
    refine G.then_n ?_
    refine G.region ?_
    refine G.q (Quiet.move rfl) rfl ?_
    refine G.q (Quiet.add rfl rfl (by omega)) rfl ?_
    refine G.q (Quiet.assign rfl) rfl ?_
    refine G.nil ?_
    refine G.then_n ?_
    exact G.roundK (i + 1) (by omega) (by omega) ⟨rfl, rfl, rfl, rfl, trivial⟩ (by (repeat (first | exact Picks.nil | (apply Picks.cons; (repeat (first | exact Pick.here | apply Pick.there)))))) (by ((repeat (apply Have.cons; (repeat (first | exact Pick.here | apply Pick.there)))); apply Have.base; repeat (first | exact Suff.here | apply Suff.there)))
  · refine G.exit ?_
    refine G.then_e ?_
    refine G.then_e ?_
    refine G.blk_e ?_
    refine G.then_n ?_
    refine G.seq ?_
    refine G.region ?_
    refine G.q (Quiet.move rfl) rfl ?_
    refine G.q (Quiet.assign rfl) rfl ?_
    refine G.nil ?_
    refine G.then_n ?_
    refine G.ret ?_
    exact G.done (l := [.tmp 2]) rfl rfl ⟨by have hi3 : i = s.length := (by have h9 : ¬ (i : Int) < s.length := (by simpa [bs_size] using h8); omega); rw [hi3, List.take_length]; rfl, rfl⟩ (by (repeat (first | exact Picks.nil | (apply Picks.cons; (repeat (first | exact Pick.here | apply Pick.there)))))) (by (repeat (first | exact Suff.here | apply Suff.there)))

def nthZ (n : Int) : Nat → Int
  | 0 => n
  | j + 1 => nthZ n j / 256
theorem nthZ_pow (n : Int) (j : Nat) : nthZ n j = n / 256 ^ j := by
  induction j with
  | zero => rw [nthZ, Int.pow_zero, Int.ediv_one]
  | succ j ih => rw [nthZ, ih, Int.ediv_ediv_of_nonneg (Int.le_of_lt (Int.pow_pos (by decide))), Int.pow_succ]
theorem rbig_le {n : Int} (h : 0 ≤ n ∧ n ≤ 9223372036854775807) (j : Nat) : 0 ≤ nthZ n j ∧ nthZ n j ≤ 9223372036854775807 := by
  rw [nthZ_pow]
  have hp : (0 : Int) < 256 ^ j := Int.pow_pos (by decide)
  exact ⟨Int.ediv_nonneg h.1 (Int.le_of_lt hp), Int.le_trans (Int.ediv_le_self _ h.1) h.2⟩
def dnZ (k : Int) : Nat → Int
  | 0 => k - 1
  | j + 1 => dnZ k j - 1
theorem dnZ_eq (k : Int) (j : Nat) : dnZ k j = k - 1 - j := by
  induction j with
  | zero => rw [dnZ]; omega
  | succ j ih => rw [dnZ, ih]; omega
theorem u8_mod (x : Int) : Value.int .u8 (IntKind.u8.wrap (x % 256)) = vbyte (byteZ x) := by
  rw [vbyteZ]; congr 1; show x % 256 % 256 = x % 256; omega
set_option maxRecDepth 100000 in
theorem rbig_spec (n : Int) (k : Nat) (h0 : 0 ≤ n ∧ n ≤ 9223372036854775807) (hk : k ≤ 8) : Fn Try.prog 130 #[vint n, vint k] [] fun v L => v = vstr (beB n k) ∧ L = [] := by
  refine Fn.intro (vs := [vint n, vint k]) Try.func130 rfl rfl ?_
  intro F W
  refine G.seq ?_
  refine G.region ?_
  refine G.q (Quiet.assign rfl) rfl ?_
  refine G.nil ?_
  refine G.then_n ?_
  refine G.seq ?_
  refine G.region ?_
  refine G.q (Quiet.move rfl) rfl ?_
  refine G.op (OpSpec.make rfl rfl el_31 ze_5 rfl ⟨by simp, by simp; rfl⟩ ?c3) (by (repeat (first | exact Picks.nil | (apply Picks.cons; (repeat (first | exact Pick.here | apply Pick.there)))))) rfl ?nx4
  case c3 => omega
  rintro v L' ⟨bz, rfl, rfl⟩
  refine G.q (Quiet.assign rfl) rfl ?_
  refine G.nil ?_
  simp only [Int.toNat_natCast, Nat.mul_one]
  refine G.ptCast (b := bz) (l' := fillB (List.replicate k zB) 0 n k 0) (by (repeat (first | exact Pick.here | apply Pick.there))) (fillB_0 _ _ _ _).symm ?_
  refine G.then_n ?_
  refine G.seq ?_
  refine G.seq ?_
  refine G.region ?_
  refine G.q (Quiet.move rfl) rfl ?_
  refine G.q (Quiet.sub rfl rfl (by omega)) rfl ?_
  refine G.q (Quiet.assign rfl) rfl ?_
  refine G.nil ?_
  refine G.then_n ?_
  refine G.block ?_
  refine G.loopK (ι := Nat) (fun q E => (6, vint (dnZ k q)) :: (0, vint (nthZ n q)) :: E) (fun q => [ptc bz (fillB (List.replicate k zB) 0 n k q) 5]) (fun q => q ≤ k) (fun q => k - q) (0) (ts := [4, 5]) (.cons rfl (.cons rfl (.nil))) (Nat.zero_le _) ⟨rfl, rfl, rfl, rfl, trivial⟩ (by (repeat (first | exact Picks.nil | (apply Picks.cons; (repeat (first | exact Pick.here | apply Pick.there)))))) ?_
  rintro j hj
  have hdn := dnZ_eq (k : Int) j
  refine G.seq ?_
  refine G.seq ?_
  refine G.region ?_
  refine G.q (Quiet.move rfl) rfl ?_
  refine G.q (Quiet.int rfl rfl rfl) rfl ?_
  refine G.nil ?_
  refine G.then_n ?_
  refine G.condD rfl (fun h12 => ?_) (fun h12 => ?_)
  · have hj2 : j < k := by omega
    have hq := rbig_le h0 j
    have hfl := fillB_len (l := List.replicate k zB) (off := 0) (n := n) (k := k) (i := j) (by omega) (by simp)
    rw [List.length_replicate] at hfl
    refine G.skip ?_
    refine G.then_n ?_
    refine G.seq ?_
    refine G.block ?_
    refine G.seq ?_
    refine G.region ?_
    refine G.q (Quiet.move rfl) rfl ?_
    refine G.q (Quiet.move rfl) rfl ?_
    refine G.q (Quiet.move rfl) rfl ?_
    refine G.q (Quiet.remE rfl rfl hq.1 (by decide)) rfl ?_
    refine G.q (Quiet.as (v' := vbyte (byteZ (n / 256 ^ j))) (by rw [← nthZ_pow]; exact u8_mod _) (Quiet.conv rfl Try.underlying3 Try.underlying5)) rfl ?_
    refine G.q (Quiet.indexAddr rfl rfl el_31 (by omega)) rfl ?_
    refine G.op (OpSpec.store rfl rfl rfl sz_5 ?c16 ?c17) (by (repeat (first | exact Picks.nil | (apply Picks.cons; (repeat (first | exact Pick.here | apply Pick.there)))))) rfl ?nx18
    case c16 => omega
    case c17 => exact nfz0 _ _
    rintro v L' rfl
    refine G.nil ?_
    refine G.then_n ?_
    refine G.region ?_
    refine G.q (Quiet.move rfl) rfl ?_
    refine G.q (Quiet.to (v' := vint (nthZ n (j + 1))) (Quiet.quoE rfl rfl hq (by decide)) rfl) rfl ?_
    refine G.q (Quiet.assign rfl) rfl ?_
    refine G.nil ?_
    refine G.blk_n ?_
    refine G.then_n ?_
    refine G.region ?_
    refine G.q (Quiet.move rfl) rfl ?_
    refine G.q (Quiet.sub rfl rfl (by omega)) rfl ?_
    refine G.q (Quiet.assign rfl) rfl ?_
    refine G.nil ?_
    refine G.then_n ?_
    rw [show 0 + (dnZ (k : Int) j).toNat * 1 = 0 + (k - 1 - j) by omega, fillB_step hj2 (by simp)]
    exact G.roundK (j + 1) (by omega) (by omega) ⟨rfl, rfl, rfl, rfl, trivial⟩ (by (repeat (first | exact Picks.nil | (apply Picks.cons; (repeat (first | exact Pick.here | apply Pick.there)))))) (by ((repeat (apply Have.cons; (repeat (first | exact Pick.here | apply Pick.there)))); apply Have.base; repeat (first | exact Suff.here | apply Suff.there)))
  · obtain rfl : j = k := by omega
    refine G.ptCast (b := bz) (l' := bysL (beB n j)) (by (repeat (first | exact Pick.here | apply Pick.there))) (by rw [fillB_k]; exact spl_all (by simp [bysL_len, beB_len])) ?_
    refine G.exit ?_
    refine G.then_e ?_
    refine G.then_e ?_
    refine G.blk_e ?_
    refine G.then_n ?_
    refine G.seq ?_
    refine G.region ?_
    refine G.q (Quiet.move rfl) rfl ?_
    refine G.q (Quiet.bytesPt (cs := beB n j) rfl Try.underlying31 Try.underlying5 Try.underlying9 (by (repeat (first | exact Pick.here | apply Pick.there))) (by rw [List.drop_zero]; exact List.take_of_length_le (by rw [bysL_len, beB_len]; omega)) (by rw [bysL_len, beB_len]; omega) (by omega)) rfl ?_
    refine G.q (Quiet.assign rfl) rfl ?_
    refine G.nil ?_
    refine G.then_n ?_
    refine G.ret ?_
    exact G.done (l := [.tmp 4]) rfl rfl ⟨rfl, rfl⟩ (by (repeat (first | exact Picks.nil | (apply Picks.cons; (repeat (first | exact Pick.here | apply Pick.there)))))) (by (repeat (first | exact Suff.here | apply Suff.there)))

set_option maxRecDepth 100000 in
theorem rrecord_spec (s : Bs) (hs : s.length ≤ 2147483648) : Fn Try.prog 131 #[vstr s] [] fun v L => v = vstr (recZ s) ∧ L = [] := by
  refine Fn.intro (vs := [vstr s]) Try.func131 rfl rfl ?_
  intro F W
  have hsum := sumZ_range (headZ s)
  have hh : (headZ s).length = s.length + 2 := by simp [headZ, beB_len]; omega
  have hb2 := beB_len 2 (s.length : Int)
  have hb4 := beB_len 4 (sumZ (headZ s))
  have hap : (beB (s.length : Int) 2 ++ s).length = s.length + 2 := hh
  refine G.seq ?_
  refine G.region ?_
  refine G.q (Quiet.assign rfl) rfl ?_
  refine G.nil ?_
  refine G.then_n ?_
  refine G.seq ?_
  refine G.region ?_
  refine G.q (Quiet.move rfl) rfl ?_
  refine G.q (Quiet.strlen rfl Try.underlying9 rfl) rfl ?_
  refine G.op (OpSpec.call Try.func130 rfl rfl (vs := [_, _]) rfl (rbig_spec s.length 2 (by omega) (by decide))) (by (repeat (first | exact Picks.nil | (apply Picks.cons; (repeat (first | exact Pick.here | apply Pick.there)))))) rfl ?nx4
  rintro v L' ⟨rfl, rfl⟩
  refine G.q (Quiet.move rfl) rfl ?_
  refine G.q (Quiet.concat rfl rfl (by omega)) rfl ?_
  refine G.q (Quiet.assign rfl) rfl ?_
  refine G.nil ?_
  refine G.then_n ?_
  refine G.seq ?_
  refine G.region ?_
  refine G.q (Quiet.move rfl) rfl ?_
  refine G.q (Quiet.move rfl) rfl ?_
  refine G.op (OpSpec.call Try.func145 rfl rfl (vs := [_]) rfl (rsum_spec (headZ s) (by omega))) (by (repeat (first | exact Picks.nil | (apply Picks.cons; (repeat (first | exact Pick.here | apply Pick.there)))))) rfl ?nx8
  rintro v L' ⟨rfl, rfl⟩
  refine G.q (Quiet.as (v' := vint (sumZ (headZ s))) (by rw [i64w (by omega)]) (Quiet.conv rfl Try.underlying167 Try.underlying3)) rfl ?_
  refine G.op (OpSpec.call Try.func130 rfl rfl (vs := [_, _]) rfl (rbig_spec (sumZ (headZ s)) 4 (by omega) (by decide))) (by (repeat (first | exact Picks.nil | (apply Picks.cons; (repeat (first | exact Pick.here | apply Pick.there)))))) rfl ?nx11
  rintro v L' ⟨rfl, rfl⟩
  refine G.q (Quiet.concat rfl rfl (by omega)) rfl ?_
  refine G.q (Quiet.assign rfl) rfl ?_
  refine G.nil ?_
  refine G.then_n ?_
  refine G.ret ?_
  exact G.done (l := [.tmp 2]) rfl rfl ⟨rfl, rfl⟩ (by (repeat (first | exact Picks.nil | (apply Picks.cons; (repeat (first | exact Pick.here | apply Pick.there)))))) (by (repeat (first | exact Suff.here | apply Suff.there)))

set_option maxRecDepth 100000 in
theorem rhalf_spec (x : Nat) (vL vO vP : Value) (N At : Int) (Gone : Bool) (l : List Bs) (hl : 2 ≤ l.length ∧ l.length ≤ 32768) : Fn Try.prog 114 #[vptr x] [rkC x vL vO vP N At Gone, strR vL l] fun v L => v = vint (halfL l) ∧ L = [rkC x vL vO vP N At Gone, strR vL l] := by
  refine Fn.intro (vs := [vptr x]) Try.func114 rfl rfl ?_
  intro F W
  refine G.slAny (v := vL) (by (repeat (first | exact Pick.here | apply Pick.there))) fun aL cL e _ => ?_
  subst e
  refine G.seq ?_
  refine G.region ?_
  refine G.q (Quiet.assign rfl) rfl ?_
  refine G.nil ?_
  refine G.then_n ?_
  refine G.seq ?_
  refine G.region ?_
  refine G.q (Quiet.move rfl) rfl ?_
  refine G.q (Quiet.nilp rfl) rfl ?_
  refine G.q (Quiet.fieldAddr rfl fo_102_0) rfl ?_
  refine G.q (Quiet.load rfl ag_22 (by (repeat (first | exact Pick.here | apply Pick.there))) (rfl)) rfl ?_
  refine G.q (Quiet.slen rfl Try.underlying22 rfl) rfl ?_
  refine G.q (Quiet.sub rfl rfl (by omega)) rfl ?_
  refine G.q (Quiet.quoE rfl rfl (by omega) (by decide)) rfl ?_
  refine G.q (Quiet.assign rfl) rfl ?_
  refine G.nil ?_
  refine G.then_n ?_
  refine G.ret ?_
  exact G.done (l := [.tmp 2]) rfl rfl ⟨rfl, rfl⟩ (by (repeat (first | exact Picks.nil | (apply Picks.cons; (repeat (first | exact Pick.here | apply Pick.there)))))) (by (repeat (first | exact Suff.here | apply Suff.there)))

set_option maxRecDepth 100000 in
theorem rright_spec (x : Nat) (vL vO vP : Value) (N At : Int) (Gone : Bool) (δ : Dk) (n : Int) (hn01 : 0 ≤ n ∧ n ≤ 1) (hd : δ.dead = false) (hok : δ.Ok) (hs : 2 ≤ δ.now.length ∧ δ.now.length ≤ 32768) : Fn Try.prog 112 #[vptr x, vint n] [rkC x vL vO vP N At Gone, strR vL δ.now] fun v L => v = .tuple #[vint ((foundZ δ n).elim 0 (·.count)), .bool (foundZ δ n).isSome] ∧ L = [rkC x vL vO vP N At Gone, strR vL δ.now] := by
  refine Fn.intro (vs := [vptr x, vint n]) Try.func112 rfl rfl ?_
  intro F W
  refine G.slAny (v := vL) (by (repeat (first | exact Pick.here | apply Pick.there))) fun aL cL e lL => ?_
  subst e
  have hn2 : n.toNat < δ.now.length := by omega
  have hsl : (δ.now[n.toNat]).length = 64 := hok.sec _ (List.getElem_mem _)
  generalize hsE0 : δ.now[n.toNat] = s at hsl
  have hsE : δ.now.getD n.toNat [] = s := by rw [← hsE0]; simp [hn2]
  have hH : halfZ δ = halfL δ.now := rfl
  have hs26 : (sub s 2 6).length = 4 := by rw [sub_len (by omega)]
  have hs71 : (sub s 7 11).length = 4 := by rw [sub_len (by omega)]
  have hhl : 0 ≤ halfL δ.now ∧ halfL δ.now ≤ 16383 := by unfold halfL; omega
  refine G.seq ?_
  refine G.region ?_
  refine G.q (Quiet.assign rfl) rfl ?_
  refine G.q (Quiet.assign rfl) rfl ?_
  refine G.nil ?_
  refine G.then_n ?_
  refine G.seq ?_
  refine G.slShape (v := .slice aL _ cL) (by (repeat (first | exact Pick.here | apply Pick.there))) (by omega) fun bL cL' e mL _ => ?_
  simp only [Value.slice.injEq, true_and] at e
  obtain ⟨rfl, rfl⟩ := e
  refine G.region ?_
  refine G.q (Quiet.move rfl) rfl ?_
  refine G.q (Quiet.nilp rfl) rfl ?_
  refine G.q (Quiet.fieldAddr rfl fo_102_0) rfl ?_
  refine G.q (Quiet.load rfl ag_22 (by (repeat (first | exact Pick.here | apply Pick.there))) (rfl)) rfl ?_
  refine G.q (Quiet.move rfl) rfl ?_
  refine G.q (Quiet.indexAddr rfl rfl el_22 (by omega)) rfl ?_
  refine G.q (Quiet.to (v' := vstr s) (Quiet.loadSl (v := vstr δ.now[n.toNat]) (i := n.toNat * 1) rfl ag_9 (by (repeat (first | exact Pick.here | apply Pick.there))) (by simp [hn2])) (by rw [hsE0])) rfl ?_
  refine G.q (Quiet.assign rfl) rfl ?_
  refine G.nil ?_
  refine G.then_n ?_
  refine G.seq ?_
  refine G.seq ?_
  refine G.draw [6] [[0, 1, 2, 3, 4, 5, 6, 7], [8, 9, 10, 11, 12, 13, 14, 15, 16, 17, 18, 19, 20, 21, 22, 23, 24, 25, 26]] mixed (by kernel_rfl) ?_
  refine Phases.go [] (by (repeat (first | exact Picks.nil | (apply Picks.cons; (repeat (first | exact Pick.here | apply Pick.there)))))) ?_
  refine D.qw [1, 2, 3, 4, 5, 6, 7] rfl (by kernel_rfl) (Quiet.move rfl) ?_
  refine D.qw [2, 3, 4, 5, 6, 7] rfl (by kernel_rfl) (Quiet.to (v' := vstr (s.take 2)) (Quiet.strTo (j := 2) rfl rfl Try.underlying9 (by omega)) rfl) ?_
  refine D.qw [3, 4, 5, 6, 7] rfl (by kernel_rfl) (Quiet.strne rfl rfl) ?_
  refine D.qw [4, 5, 6, 7] rfl (by kernel_rfl) (Quiet.move rfl) ?_
  refine D.ndec (t := 18) rfl (fun h2_18 => ?_) (fun h2_18 => ?_)
  · refine D.kNT (t := 17) rfl h2_18 ?_
    refine D.gs (t := 18) rfl rfl rfl rfl (by kernel_rfl) ?_
    refine D.gs (t := 18) rfl rfl rfl rfl (by kernel_rfl) ?_
    refine D.gs (t := 18) rfl rfl rfl rfl (by kernel_rfl) ?_
    refine D.gs (t := 18) rfl rfl rfl rfl (by kernel_rfl) ?_
    refine D.ph ?_
    refine Phases.go [] (by (repeat (first | exact Picks.nil | (apply Picks.cons; (repeat (first | exact Pick.here | apply Pick.there)))))) ?_
    refine D.gs (t := 18) rfl rfl rfl rfl (by kernel_rfl) ?_
    refine D.qw [10, 11, 12, 13, 14, 15, 16, 17, 18, 19, 20, 21, 22, 23, 24, 25, 26] rfl (by kernel_rfl) (Quiet.pickT rfl rfl) ?_
    refine D.qw [11, 12, 13, 14, 15, 16, 17, 18, 19, 20, 21, 22, 23, 24, 25, 26] rfl (by kernel_rfl) (Quiet.move rfl) ?_
    refine D.gs (t := 25) rfl rfl rfl rfl (by kernel_rfl) ?_
    refine D.gs (t := 25) rfl rfl rfl rfl (by kernel_rfl) ?_
    refine D.gs (t := 25) rfl rfl rfl rfl (by kernel_rfl) ?_
    refine D.gs (t := 25) rfl rfl rfl rfl (by kernel_rfl) ?_
    refine D.gs (t := 25) rfl rfl rfl rfl (by kernel_rfl) ?_
    refine D.qw [17, 18, 19, 20, 21, 22, 23, 24, 25, 26] rfl (by kernel_rfl) (Quiet.pickT rfl rfl) ?_
    refine D.qw [18, 19, 20, 21, 22, 23, 24, 25, 26] rfl (by kernel_rfl) (Quiet.move rfl) ?_
    refine D.gs (t := 32) rfl rfl rfl rfl (by kernel_rfl) ?_
    refine D.gs (t := 32) rfl rfl rfl rfl (by kernel_rfl) ?_
    refine D.gs (t := 32) rfl rfl rfl rfl (by kernel_rfl) ?_
    refine D.qw [22, 23, 24, 25, 26] rfl (by kernel_rfl) (Quiet.pickT rfl rfl) ?_
    refine D.qw [23, 24, 25, 26] rfl (by kernel_rfl) (Quiet.move rfl) ?_
    refine D.gs (t := 37) rfl rfl rfl rfl (by kernel_rfl) ?_
    refine D.gs (t := 37) rfl rfl rfl rfl (by kernel_rfl) ?_
    refine D.gs (t := 37) rfl rfl rfl rfl (by kernel_rfl) ?_
    refine D.qw [] rfl (by kernel_rfl) (Quiet.pickT rfl rfl) ?_
    refine D.ph ?_
    refine Phases.fin ?_
    refine G.then_n ?_
    refine G.condT rfl ?_
    refine G.seq ?_
    refine G.region ?_
    refine G.q (Quiet.assign rfl) rfl ?_
    refine G.q (Quiet.assign rfl) rfl ?_
    refine G.nil ?_
    refine G.then_n ?_
    refine G.ret ?_
    refine G.then_r ?_
    exact G.done (l := [.tmp 4, .tmp 5]) rfl rfl ⟨by rw [(found_right hd hok hs.1 hn01).1 (.inl (by rw [hsE]; unfold bad1; first | exact .inl (by simpa using h2_18) | exact .inr (.inl (by simpa using h2_25)) | exact .inr (.inr (.inl (by simpa using h2_32))) | exact .inr (.inr (.inr (.inl (by omega)))) | exact .inr (.inr (.inr (.inr (by omega))))))]; rfl, rfl⟩ (by (repeat (first | exact Picks.nil | (apply Picks.cons; (repeat (first | exact Pick.here | apply Pick.there)))))) (by (repeat (first | exact Suff.here | apply Suff.there)))
  · refine D.kNF (t := 17) rfl h2_18 ?_
    refine D.gq (t := 18) rfl rfl rfl (by kernel_rfl) (Quiet.move rfl) ?_
    refine D.gq (t := 18) rfl rfl rfl (by kernel_rfl) (Quiet.to (v' := vstr (sub s 31 60)) (Quiet.strMid (i := 31) (j := 60) rfl rfl rfl Try.underlying9 (by omega)) rfl) ?_
    refine D.gh (t := 18) rfl rfl rfl (by kernel_rfl) (OpSpec.make rfl rfl el_31 ze_5 rfl ⟨by simp, by simp; rfl⟩ ?c19) (by (repeat (first | exact Picks.nil | (apply Picks.cons; (repeat (first | exact Pick.here | apply Pick.there)))))) ?nx20
    case c19 => omega
    rintro v L' ⟨bz, rfl, rfl⟩
    refine D.gqw [] (t := 18) rfl rfl rfl (by kernel_rfl) (Quiet.bytesPt (cs := List.replicate 29 0) rfl Try.underlying31 Try.underlying5 Try.underlying9 (by (repeat (first | exact Pick.here | apply Pick.there))) (by first | (simp [List.map_replicate]; done) | (simp [List.map_replicate]; rfl)) (by simp) (by decide)) ?_
    refine D.ph ?_
    refine Phases.go [] (by (repeat (first | exact Picks.nil | (apply Picks.cons; (repeat (first | exact Pick.here | apply Pick.there)))))) ?_
    refine D.gqw [9, 10, 11, 12, 13, 14, 15, 16, 17, 18, 19, 20, 21, 22, 23, 24, 25, 26] (t := 18) rfl rfl rfl (by kernel_rfl) (Quiet.strne rfl rfl) ?_
    refine D.qw [10, 11, 12, 13, 14, 15, 16, 17, 18, 19, 20, 21, 22, 23, 24, 25, 26] rfl (by kernel_rfl) (Quiet.pickF rfl rfl) ?_
    refine D.qw [11, 12, 13, 14, 15, 16, 17, 18, 19, 20, 21, 22, 23, 24, 25, 26] rfl (by kernel_rfl) (Quiet.move rfl) ?_
    refine D.ndec (t := 25) rfl (fun h2_25 => ?_) (fun h2_25 => ?_)
    · refine D.kNT (t := 23) rfl h2_25 ?_
      refine D.kNT (t := 24) rfl h2_25 ?_
      refine D.gs (t := 25) rfl rfl rfl rfl (by kernel_rfl) ?_
      refine D.gs (t := 25) rfl rfl rfl rfl (by kernel_rfl) ?_
      refine D.gs (t := 25) rfl rfl rfl rfl (by kernel_rfl) ?_
      refine D.gs (t := 25) rfl rfl rfl rfl (by kernel_rfl) ?_
      refine D.gs (t := 25) rfl rfl rfl rfl (by kernel_rfl) ?_
      refine D.qw [17, 18, 19, 20, 21, 22, 23, 24, 25, 26] rfl (by kernel_rfl) (Quiet.pickT rfl rfl) ?_
      refine D.qw [18, 19, 20, 21, 22, 23, 24, 25, 26] rfl (by kernel_rfl) (Quiet.move rfl) ?_
      refine D.gs (t := 32) rfl rfl rfl rfl (by kernel_rfl) ?_
      refine D.gs (t := 32) rfl rfl rfl rfl (by kernel_rfl) ?_
      refine D.gs (t := 32) rfl rfl rfl rfl (by kernel_rfl) ?_
      refine D.qw [22, 23, 24, 25, 26] rfl (by kernel_rfl) (Quiet.pickT rfl rfl) ?_
      refine D.qw [23, 24, 25, 26] rfl (by kernel_rfl) (Quiet.move rfl) ?_
      refine D.gs (t := 37) rfl rfl rfl rfl (by kernel_rfl) ?_
      refine D.gs (t := 37) rfl rfl rfl rfl (by kernel_rfl) ?_
      refine D.gs (t := 37) rfl rfl rfl rfl (by kernel_rfl) ?_
      refine D.qw [] rfl (by kernel_rfl) (Quiet.pickT rfl rfl) ?_
      refine D.ph ?_
      refine Phases.fin ?_
      refine G.then_n ?_
      refine G.condT rfl ?_
      refine G.seq ?_
      refine G.region ?_
      refine G.q (Quiet.assign rfl) rfl ?_
      refine G.q (Quiet.assign rfl) rfl ?_
      refine G.nil ?_
      refine G.then_n ?_
      refine G.ret ?_
      refine G.then_r ?_
      exact G.done (l := [.tmp 4, .tmp 5]) rfl rfl ⟨by rw [(found_right hd hok hs.1 hn01).1 (.inl (by rw [hsE]; unfold bad1; first | exact .inl (by simpa using h2_18) | exact .inr (.inl (by simpa using h2_25)) | exact .inr (.inr (.inl (by simpa using h2_32))) | exact .inr (.inr (.inr (.inl (by omega)))) | exact .inr (.inr (.inr (.inr (by omega))))))]; rfl, rfl⟩ (by (repeat (first | exact Picks.nil | (apply Picks.cons; (repeat (first | exact Pick.here | apply Pick.there)))))) (by (repeat (first | exact Suff.here | apply Suff.there)))
    · refine D.kNF (t := 23) rfl h2_25 ?_
      refine D.kNF (t := 24) rfl h2_25 ?_
      refine D.gqw [12, 15, 16, 17, 18, 19, 20, 21, 22, 23, 24, 25, 26] (t := 25) rfl rfl rfl (by kernel_rfl) (Quiet.move rfl) ?_
      refine D.gqw [15, 16, 17, 18, 19, 20, 21, 22, 23, 24, 25, 26] (t := 25) rfl rfl rfl (by kernel_rfl) (Quiet.to (v' := vstr (sub s 2 6)) (Quiet.strMid (i := 2) (j := 6) rfl rfl rfl Try.underlying9 (by omega)) rfl) ?_
      refine D.gqw [14, 15, 16, 17, 18, 19, 20, 21, 22, 23, 24, 25, 26] (t := 25) rfl rfl rfl (by kernel_rfl) (Quiet.move rfl) ?_
      refine D.gqw [15, 16, 17, 18, 19, 20, 21, 22, 23, 24, 25, 26] (t := 25) rfl rfl rfl (by kernel_rfl) (Quiet.to (v' := vstr (s.drop 60)) (Quiet.strFrom (i := 60) rfl rfl Try.underlying9 (by omega)) rfl) ?_
      refine D.gqw [16, 17, 18, 19, 20, 21, 22, 23, 24, 25, 26] (t := 25) rfl rfl rfl (by kernel_rfl) (Quiet.strne rfl rfl) ?_
      refine D.qw [17, 18, 19, 20, 21, 22, 23, 24, 25, 26] rfl (by kernel_rfl) (Quiet.pickF rfl rfl) ?_
      refine D.qw [18, 19, 20, 21, 22, 23, 24, 25, 26] rfl (by kernel_rfl) (Quiet.move rfl) ?_
      refine D.ndec (t := 32) rfl (fun h2_32 => ?_) (fun h2_32 => ?_)
      · refine D.kNT (t := 30) rfl h2_32 ?_
        refine D.kNT (t := 31) rfl h2_32 ?_
        refine D.gs (t := 32) rfl rfl rfl rfl (by kernel_rfl) ?_
        refine D.gs (t := 32) rfl rfl rfl rfl (by kernel_rfl) ?_
        refine D.gs (t := 32) rfl rfl rfl rfl (by kernel_rfl) ?_
        refine D.qw [22, 23, 24, 25, 26] rfl (by kernel_rfl) (Quiet.pickT rfl rfl) ?_
        refine D.qw [23, 24, 25, 26] rfl (by kernel_rfl) (Quiet.move rfl) ?_
        refine D.gs (t := 37) rfl rfl rfl rfl (by kernel_rfl) ?_
        refine D.gs (t := 37) rfl rfl rfl rfl (by kernel_rfl) ?_
        refine D.gs (t := 37) rfl rfl rfl rfl (by kernel_rfl) ?_
        refine D.qw [] rfl (by kernel_rfl) (Quiet.pickT rfl rfl) ?_
        refine D.ph ?_
        refine Phases.fin ?_
        refine G.then_n ?_
        refine G.condT rfl ?_
        refine G.seq ?_
        refine G.region ?_
        refine G.q (Quiet.assign rfl) rfl ?_
        refine G.q (Quiet.assign rfl) rfl ?_
        refine G.nil ?_
        refine G.then_n ?_
        refine G.ret ?_
        refine G.then_r ?_
        exact G.done (l := [.tmp 4, .tmp 5]) rfl rfl ⟨by rw [(found_right hd hok hs.1 hn01).1 (.inl (by rw [hsE]; unfold bad1; first | exact .inl (by simpa using h2_18) | exact .inr (.inl (by simpa using h2_25)) | exact .inr (.inr (.inl (by simpa using h2_32))) | exact .inr (.inr (.inr (.inl (by omega)))) | exact .inr (.inr (.inr (.inr (by omega))))))]; rfl, rfl⟩ (by (repeat (first | exact Picks.nil | (apply Picks.cons; (repeat (first | exact Pick.here | apply Pick.there)))))) (by (repeat (first | exact Suff.here | apply Suff.there)))
      · refine D.kNF (t := 30) rfl h2_32 ?_
        refine D.kNF (t := 31) rfl h2_32 ?_
        refine D.gqw [19, 20, 21, 22, 23, 24, 25, 26] (t := 32) rfl rfl rfl (by kernel_rfl) (Quiet.move rfl) ?_
        refine D.gqw [20, 21, 22, 23, 24, 25, 26] (t := 32) rfl rfl rfl (by kernel_rfl) (Quiet.strIndex (c := s.getD 15 0) rfl rfl Try.underlying9 (by omega) (by simp [hsl])) ?_
        refine D.gqw [21, 22, 23, 24, 25, 26] (t := 32) rfl rfl rfl (by kernel_rfl) (Quiet.int rfl rfl rfl) ?_
        refine D.qw [22, 23, 24, 25, 26] rfl (by kernel_rfl) (Quiet.pickF rfl rfl) ?_
        refine D.qw [23, 24, 25, 26] rfl (by kernel_rfl) (Quiet.move rfl) ?_
        refine D.dec (t := 37) rfl (fun h2_37 => ?_) (fun h2_37 => ?_)
        · refine D.kDT (t := 35) rfl h2_37 ?_
          refine D.kDT (t := 36) rfl h2_37 ?_
          refine D.gs (t := 37) rfl rfl rfl rfl (by kernel_rfl) ?_
          refine D.gs (t := 37) rfl rfl rfl rfl (by kernel_rfl) ?_
          refine D.gs (t := 37) rfl rfl rfl rfl (by kernel_rfl) ?_
          refine D.qw [] rfl (by kernel_rfl) (Quiet.pickT rfl rfl) ?_
          refine D.ph ?_
          refine Phases.fin ?_
          refine G.then_n ?_
          refine G.condT rfl ?_
          refine G.seq ?_
          refine G.region ?_
          refine G.q (Quiet.assign rfl) rfl ?_
          refine G.q (Quiet.assign rfl) rfl ?_
          refine G.nil ?_
          refine G.then_n ?_
          refine G.ret ?_
          refine G.then_r ?_
          exact G.done (l := [.tmp 4, .tmp 5]) rfl rfl ⟨by rw [(found_right hd hok hs.1 hn01).1 (.inl (by rw [hsE]; unfold bad1; first | exact .inl (by simpa using h2_18) | exact .inr (.inl (by simpa using h2_25)) | exact .inr (.inr (.inl (by simpa using h2_32))) | exact .inr (.inr (.inr (.inl (by omega)))) | exact .inr (.inr (.inr (.inr (by omega))))))]; rfl, rfl⟩ (by (repeat (first | exact Picks.nil | (apply Picks.cons; (repeat (first | exact Pick.here | apply Pick.there)))))) (by (repeat (first | exact Suff.here | apply Suff.there)))
        · refine D.kDF (t := 35) rfl h2_37 ?_
          refine D.kDF (t := 36) rfl h2_37 ?_
          refine D.gqw [24, 25, 26] (t := 37) rfl rfl rfl (by kernel_rfl) (Quiet.move rfl) ?_
          refine D.gqw [25, 26] (t := 37) rfl rfl rfl (by kernel_rfl) (Quiet.strIndex (c := s.getD 23 0) rfl rfl Try.underlying9 (by omega) (by simp [hsl])) ?_
          refine D.gqw [26] (t := 37) rfl rfl rfl (by kernel_rfl) (Quiet.int rfl rfl rfl) ?_
          refine D.qw [] rfl (by kernel_rfl) (Quiet.pickF rfl rfl) ?_
          refine D.ph ?_
          refine Phases.fin ?_
          refine G.then_n ?_
          refine G.condD rfl (fun h41 => ?_) (fun h41 => ?_)
          · refine G.seq ?_
            refine G.region ?_
            refine G.q (Quiet.assign rfl) rfl ?_
            refine G.q (Quiet.assign rfl) rfl ?_
            refine G.nil ?_
            refine G.then_n ?_
            refine G.ret ?_
            refine G.then_r ?_
            exact G.done (l := [.tmp 4, .tmp 5]) rfl rfl ⟨by rw [(found_right hd hok hs.1 hn01).1 (.inl (by rw [hsE]; unfold bad1; first | exact .inl (by simpa using h2_18) | exact .inr (.inl (by simpa using h2_25)) | exact .inr (.inr (.inl (by simpa using h2_32))) | exact .inr (.inr (.inr (.inl (by omega)))) | exact .inr (.inr (.inr (.inr (by omega))))))]; rfl, rfl⟩ (by (repeat (first | exact Picks.nil | (apply Picks.cons; (repeat (first | exact Pick.here | apply Pick.there)))))) (by (repeat (first | exact Suff.here | apply Suff.there)))
          · refine G.skip ?_
            refine G.then_n ?_
            refine G.seq ?_
            refine G.region ?_
            refine G.q (Quiet.move rfl) rfl ?_
            refine G.q (Quiet.to (v' := vstr (sub s 2 6)) (Quiet.strMid (i := 2) (j := 6) rfl rfl rfl Try.underlying9 (by omega)) rfl) rfl ?_
            refine G.op (OpSpec.call Try.func113 rfl rfl (vs := [_]) rfl (rsmall_spec _ ?hs46)) (by (repeat (first | exact Picks.nil | (apply Picks.cons; (repeat (first | exact Pick.here | apply Pick.there)))))) rfl ?nx47
            case hs46 => first | (simp; omega) | omega
            rintro v L' ⟨rfl, rfl⟩
            refine G.q (Quiet.assign rfl) rfl ?_
            refine G.nil ?_
            refine G.then_n ?_
            refine G.seq ?_
            refine G.seq ?_
            refine G.region ?_
            refine G.q (Quiet.move rfl) rfl ?_
            refine G.q (Quiet.int rfl rfl rfl) rfl ?_
            refine G.q (Quiet.move rfl) rfl ?_
            refine G.dec (t := 47) rfl (fun h5_47 => ?_) (fun h5_47 => ?_)
            · refine G.kDT (t := 46) rfl h5_47 ?_
              refine G.gskip (t := 47) rfl rfl rfl rfl ?_
              refine G.gskip (t := 47) rfl rfl rfl rfl ?_
              refine G.gskip (t := 47) rfl rfl rfl rfl ?_
              refine G.gskip (t := 47) rfl rfl rfl rfl ?_
              refine G.q (Quiet.pickT rfl rfl) rfl ?_
              refine G.q (Quiet.move rfl) rfl ?_
              refine G.gskip (t := 53) rfl rfl rfl rfl ?_
              refine G.gskip (t := 53) rfl rfl rfl rfl ?_
              refine G.gskip (t := 53) rfl rfl rfl rfl ?_
              refine G.q (Quiet.pickT rfl rfl) rfl ?_
              refine G.q (Quiet.move rfl) rfl ?_
              refine G.gskip (t := 58) rfl rfl rfl rfl ?_
              refine G.gskip (t := 58) rfl rfl rfl rfl ?_
              refine G.gskip (t := 58) rfl rfl rfl rfl ?_
              refine G.gskip (t := 58) rfl rfl rfl rfl ?_
              refine G.gskip (t := 58) rfl rfl rfl rfl ?_
              refine G.gskip (t := 58) rfl rfl rfl rfl ?_
              refine G.gskip (t := 58) rfl rfl rfl rfl ?_
              refine G.q (Quiet.pickT rfl rfl) rfl ?_
              refine G.nil ?_
              refine G.then_n ?_
              refine G.condT rfl ?_
              refine G.seq ?_
              refine G.region ?_
              refine G.q (Quiet.assign rfl) rfl ?_
              refine G.q (Quiet.assign rfl) rfl ?_
              refine G.nil ?_
              refine G.then_n ?_
              refine G.ret ?_
              refine G.then_r ?_
              exact G.done (l := [.tmp 4, .tmp 5]) rfl rfl ⟨by rw [(found_right hd hok hs.1 hn01).1 (.inr (by rw [hsE]; unfold bad2; first | exact .inl (by omega) | exact .inr (.inl (by omega)) | exact .inr (.inr (.inl (by omega))) | exact .inr (.inr (.inr (by rw [hH]; omega)))))]; rfl, rfl⟩ (by (repeat (first | exact Picks.nil | (apply Picks.cons; (repeat (first | exact Pick.here | apply Pick.there)))))) (by (repeat (first | exact Suff.here | apply Suff.there)))
            · refine G.kDF (t := 46) rfl h5_47 ?_
              refine G.grun (t := 47) rfl rfl rfl ?_
              refine G.q (Quiet.move rfl) rfl ?_
              refine G.grun (t := 47) rfl rfl rfl ?_
              refine G.q (Quiet.remE rfl rfl (by omega) (by omega)) rfl ?_
              refine G.grun (t := 47) rfl rfl rfl ?_
              refine G.q (Quiet.move rfl) rfl ?_
              refine G.grun (t := 47) rfl rfl rfl ?_
              refine G.q (Quiet.int rfl rfl rfl) rfl ?_
              refine G.q (Quiet.pickF rfl rfl) rfl ?_
              refine G.q (Quiet.move rfl) rfl ?_
              refine G.ndec (t := 53) rfl (fun h5_53 => ?_) (fun h5_53 => ?_)
              · refine G.kNT (t := 51) rfl h5_53 ?_
                refine G.kNT (t := 52) rfl h5_53 ?_
                refine G.gskip (t := 53) rfl rfl rfl rfl ?_
                refine G.gskip (t := 53) rfl rfl rfl rfl ?_
                refine G.gskip (t := 53) rfl rfl rfl rfl ?_
                refine G.q (Quiet.pickT rfl rfl) rfl ?_
                refine G.q (Quiet.move rfl) rfl ?_
                refine G.gskip (t := 58) rfl rfl rfl rfl ?_
                refine G.gskip (t := 58) rfl rfl rfl rfl ?_
                refine G.gskip (t := 58) rfl rfl rfl rfl ?_
                refine G.gskip (t := 58) rfl rfl rfl rfl ?_
                refine G.gskip (t := 58) rfl rfl rfl rfl ?_
                refine G.gskip (t := 58) rfl rfl rfl rfl ?_
                refine G.gskip (t := 58) rfl rfl rfl rfl ?_
                refine G.q (Quiet.pickT rfl rfl) rfl ?_
                refine G.nil ?_
                refine G.then_n ?_
                refine G.condT rfl ?_
                refine G.seq ?_
                refine G.region ?_
                refine G.q (Quiet.assign rfl) rfl ?_
                refine G.q (Quiet.assign rfl) rfl ?_
                refine G.nil ?_
                refine G.then_n ?_
                refine G.ret ?_
                refine G.then_r ?_
                exact G.done (l := [.tmp 4, .tmp 5]) rfl rfl ⟨by rw [(found_right hd hok hs.1 hn01).1 (.inr (by rw [hsE]; unfold bad2; first | exact .inl (by omega) | exact .inr (.inl (by omega)) | exact .inr (.inr (.inl (by omega))) | exact .inr (.inr (.inr (by rw [hH]; omega)))))]; rfl, rfl⟩ (by (repeat (first | exact Picks.nil | (apply Picks.cons; (repeat (first | exact Pick.here | apply Pick.there)))))) (by (repeat (first | exact Suff.here | apply Suff.there)))
              · refine G.kNF (t := 51) rfl h5_53 ?_
                refine G.kNF (t := 52) rfl h5_53 ?_
                refine G.grun (t := 53) rfl rfl rfl ?_
                refine G.q (Quiet.move rfl) rfl ?_
                refine G.grun (t := 53) rfl rfl rfl ?_
                refine G.q (Quiet.strIndex (c := s.getD 6 0) rfl rfl Try.underlying9 (by omega) (by simp [hsl])) rfl ?_
                refine G.grun (t := 53) rfl rfl rfl ?_
                refine G.q (Quiet.int rfl rfl rfl) rfl ?_
                refine G.q (Quiet.pickF rfl rfl) rfl ?_
                refine G.q (Quiet.move rfl) rfl ?_
                refine G.dec (t := 58) rfl (fun h5_58 => ?_) (fun h5_58 => ?_)
                · refine G.kDT (t := 56) rfl h5_58 ?_
                  refine G.kDT (t := 57) rfl h5_58 ?_
                  refine G.gskip (t := 58) rfl rfl rfl rfl ?_
                  refine G.gskip (t := 58) rfl rfl rfl rfl ?_
                  refine G.gskip (t := 58) rfl rfl rfl rfl ?_
                  refine G.gskip (t := 58) rfl rfl rfl rfl ?_
                  refine G.gskip (t := 58) rfl rfl rfl rfl ?_
                  refine G.gskip (t := 58) rfl rfl rfl rfl ?_
                  refine G.gskip (t := 58) rfl rfl rfl rfl ?_
                  refine G.q (Quiet.pickT rfl rfl) rfl ?_
                  refine G.nil ?_
                  refine G.then_n ?_
                  refine G.condT rfl ?_
                  refine G.seq ?_
                  refine G.region ?_
                  refine G.q (Quiet.assign rfl) rfl ?_
                  refine G.q (Quiet.assign rfl) rfl ?_
                  refine G.nil ?_
                  refine G.then_n ?_
                  refine G.ret ?_
                  refine G.then_r ?_
                  exact G.done (l := [.tmp 4, .tmp 5]) rfl rfl ⟨by rw [(found_right hd hok hs.1 hn01).1 (.inr (by rw [hsE]; unfold bad2; first | exact .inl (by omega) | exact .inr (.inl (by omega)) | exact .inr (.inr (.inl (by omega))) | exact .inr (.inr (.inr (by rw [hH]; omega)))))]; rfl, rfl⟩ (by (repeat (first | exact Picks.nil | (apply Picks.cons; (repeat (first | exact Pick.here | apply Pick.there)))))) (by (repeat (first | exact Suff.here | apply Suff.there)))
                · refine G.kDF (t := 56) rfl h5_58 ?_
                  refine G.kDF (t := 57) rfl h5_58 ?_
                  refine G.grun (t := 58) rfl rfl rfl ?_
                  refine G.q (Quiet.move rfl) rfl ?_
                  refine G.grun (t := 58) rfl rfl rfl ?_
                  refine G.q (Quiet.to (v' := vstr (sub s 7 11)) (Quiet.strMid (i := 7) (j := 11) rfl rfl rfl Try.underlying9 (by omega)) rfl) rfl ?_
                  refine G.grun (t := 58) rfl rfl rfl ?_
                  refine G.op (OpSpec.call Try.func113 rfl rfl (vs := [_]) rfl (rsmall_spec _ ?hs68)) (by (repeat (first | exact Picks.nil | (apply Picks.cons; (repeat (first | exact Pick.here | apply Pick.there)))))) rfl ?nx69
                  case hs68 => first | (simp; omega) | omega
                  rintro v L' ⟨rfl, rfl⟩
                  refine G.grun (t := 58) rfl rfl rfl ?_
                  refine G.q (Quiet.move rfl) rfl ?_
                  refine G.grun (t := 58) rfl rfl rfl ?_
                  refine G.op (OpSpec.call Try.func114 rfl rfl (vs := [_]) rfl (rhalf_spec _ _ _ _ _ _ _ _ ?hl72)) (by (repeat (first | exact Picks.nil | (apply Picks.cons; (repeat (first | exact Pick.here | apply Pick.there)))))) rfl ?nx73
                  case hl72 => exact hs
                  rintro v L' ⟨rfl, rfl⟩
                  refine G.grun (t := 58) rfl rfl rfl ?_
                  refine G.q (Quiet.mul rfl rfl (by omega)) rfl ?_
                  refine G.grun (t := 58) rfl rfl rfl ?_
                  refine G.q (Quiet.int rfl rfl rfl) rfl ?_
                  refine G.q (Quiet.pickF rfl rfl) rfl ?_
                  refine G.nil ?_
                  refine G.then_n ?_
                  refine G.condD rfl (fun h66 => ?_) (fun h66 => ?_)
                  · refine G.seq ?_
                    refine G.region ?_
                    refine G.q (Quiet.assign rfl) rfl ?_
                    refine G.q (Quiet.assign rfl) rfl ?_
                    refine G.nil ?_
                    refine G.then_n ?_
                    refine G.ret ?_
                    refine G.then_r ?_
                    exact G.done (l := [.tmp 4, .tmp 5]) rfl rfl ⟨by rw [(found_right hd hok hs.1 hn01).1 (.inr (by rw [hsE]; unfold bad2; first | exact .inl (by omega) | exact .inr (.inl (by omega)) | exact .inr (.inr (.inl (by omega))) | exact .inr (.inr (.inr (by rw [hH]; omega)))))]; rfl, rfl⟩ (by (repeat (first | exact Picks.nil | (apply Picks.cons; (repeat (first | exact Pick.here | apply Pick.there)))))) (by (repeat (first | exact Suff.here | apply Suff.there)))
                  · refine G.skip ?_
                    refine G.then_n ?_
                    refine G.seq ?_
                    refine G.region ?_
                    refine G.q (Quiet.move rfl) rfl ?_
                    refine G.q (Quiet.assign rfl) rfl ?_
                    refine G.q (Quiet.assign rfl) rfl ?_
                    refine G.nil ?_
                    refine G.then_n ?_
                    refine G.ret ?_
                    exact G.done (l := [.tmp 4, .tmp 5]) rfl rfl ⟨by rw [(found_right hd hok hs.1 hn01).2 (by rw [hsE]; unfold bad1 bad2; simp only [not_or]; exact ⟨⟨by simpa using h2_18, by simpa using h2_25, by simpa using h2_32, by omega, by omega⟩, by omega, by omega, by omega, by rw [hH]; omega⟩), hsE]; rfl, rfl⟩ (by (repeat (first | exact Picks.nil | (apply Picks.cons; (repeat (first | exact Pick.here | apply Pick.there)))))) (by (repeat (first | exact Suff.here | apply Suff.there)))

end Go.Proofs.Ytepncdidkjjllaa
