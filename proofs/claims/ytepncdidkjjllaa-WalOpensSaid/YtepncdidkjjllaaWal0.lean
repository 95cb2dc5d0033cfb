/- Own work, by program: numbers as bytes, sums, records, marks: walked. -/
import Derived.Test.YtepncdidkjjllaaWal
namespace Go.Proofs.Ytepncdidkjjllaa
open Go
set_option maxRecDepth 100000 in
theorem big_spec (b off k c : Nat) (n : Int) (l : List Value) (T : TypeId) (hk : k ≤ 8) (hl : off + k ≤ l.length) : Fn Try.prog 117 #[.slice (some ⟨b, off, none⟩) k c, vint n] [ptc b l T] fun v L => v = .tuple #[] ∧ L = [ptc b (spl l off (bysL (beB n k))) T] := by
  refine Fn.intro (vs := [.slice (some ⟨b, off, none⟩) k c, vint n]) Try.func117 rfl rfl ?_
  intro F W
  refine G.seq ?_
  refine G.region ?_
  refine G.q (Quiet.move rfl) rfl ?_
  refine G.q (Quiet.slen rfl Try.underlying31 rfl) rfl ?_
  refine G.q (Quiet.move rfl) rfl ?_
  refine G.nil ?_
  refine G.then_n ?_
  refine G.block ?_
  refine G.ptCast (by (repeat (first | exact Pick.here | apply Pick.there))) (fillB_0 l off n k).symm ?_
  refine G.loopK (ι := Nat) (fun q E => (7, vint q) :: E) (fun q => [ptc b (fillB l off n k q) T]) (fun q => q ≤ k) (fun q => k - q) (0) (ts := [0, 1, 6]) (.cons rfl (.cons rfl (.cons rfl (.nil)))) (Nat.zero_le _) ⟨rfl, rfl, rfl, rfl, trivial⟩ (by (repeat (first | exact Picks.nil | (apply Picks.cons; (repeat (first | exact Pick.here | apply Pick.there)))))) ?_
  rintro i hi
  refine G.seq ?_
  refine G.region ?_
  refine G.q (Quiet.int rfl rfl rfl) rfl ?_
  refine G.nil ?_
  refine G.then_n ?_
  refine G.seq ?_
  refine G.condD rfl (fun h8 => ?_) (fun h8 => ?_)
  · have hi2 : i < k := by omega
    refine G.skip ?_
    refine G.then_n ?_
    refine G.seq ?_
    refine G.block ?_
    refine G.seq ?_
    refine G.region ?_
    refine G.q (Quiet.move rfl) rfl ?_
    refine G.q (Quiet.assign rfl) rfl ?_
    refine G.nil ?_
    refine G.then_n ?_
    refine G.region ?_
    refine G.q (Quiet.move rfl) rfl ?_
    refine G.q (Quiet.move rfl) rfl ?_
    refine G.q (Quiet.slen rfl Try.underlying31 rfl) rfl ?_
    refine G.q (Quiet.sub rfl rfl (by omega)) rfl ?_
    refine G.q (Quiet.move rfl) rfl ?_
    refine G.q (Quiet.sub rfl rfl (by omega)) rfl ?_
    refine G.q (Quiet.move rfl) rfl ?_
    refine G.q (Quiet.move rfl) rfl ?_
    refine G.q (Quiet.mul rfl rfl (by omega)) rfl ?_
    refine G.q (Quiet.shr rfl rfl (by first | decide | omega)) rfl ?_
    refine G.q (Quiet.conv rfl Try.underlying3 Try.underlying5) rfl ?_
    refine G.q (Quiet.indexAddr rfl rfl el_31 (by omega)) rfl ?_
    refine G.op (OpSpec.store rfl rfl rfl sz_5 ?c16 ?c17) (by (repeat (first | exact Picks.nil | (apply Picks.cons; (repeat (first | exact Pick.here | apply Pick.there)))))) rfl ?nx18
    case c16 => rw [fillB_len (by omega) hl]; omega
    case c17 => exact nfz0 _ _
    rintro v L' rfl
    refine G.nil ?_
    refine G.blk_n ?_
    refine G.then_n ?_
    refine G.region ?_
    refine G.q (Quiet.add rfl rfl (by omega)) rfl ?_
    refine G.q (Quiet.move rfl) rfl ?_
    refine G.nil ?_
    refine G.then_n ?_
    refine G.ptCast (l' := fillB l off n k (i + 1)) (by (repeat (first | exact Pick.here | apply Pick.there))) (by rw [shr_at (by omega), ← vbyteZ, show off + ((k : Int) - 1 - i).toNat * 1 = off + (k - 1 - i) by omega]; exact fillB_step (by omega) hl) ?_
    exact G.roundK (i + 1) (by omega) (by omega) ⟨rfl, rfl, rfl, rfl, trivial⟩ (by (repeat (first | exact Picks.nil | (apply Picks.cons; (repeat (first | exact Pick.here | apply Pick.there)))))) (by ((repeat (apply Have.cons; (repeat (first | exact Pick.here | apply Pick.there)))); apply Have.base; repeat (first | exact Suff.here | apply Suff.there)))
  · refine G.exit ?_
    refine G.then_e ?_
    refine G.then_e ?_
    refine G.blk_e ?_
    refine G.done_n ?_
    have hi3 : i = k := by omega
    subst hi3
    refine G.ptCast (by (repeat (first | exact Pick.here | apply Pick.there))) (fillB_k l off n i) ?_
    exact G.done (l := []) rfl rfl ⟨rfl, rfl⟩ (by (repeat (first | exact Picks.nil | (apply Picks.cons; (repeat (first | exact Pick.here | apply Pick.there)))))) (by (repeat (first | exact Suff.here | apply Suff.there)))

set_option maxRecDepth 100000 in
theorem small_spec (s : Bs) (hs : s.length ≤ 9223372036854775807) : Fn Try.prog 123 #[vstr s] [] fun v L => v = vint (smallZ s) ∧ L = [] := by
  refine Fn.intro (vs := [vstr s]) Try.func123 rfl rfl ?_
  intro F W
  refine G.seq ?_
  refine G.region ?_
  refine G.q (Quiet.assign rfl) rfl ?_
  refine G.nil ?_
  refine G.then_n ?_
  refine G.seq ?_
  refine G.region ?_
  refine G.q (Quiet.assign rfl) rfl ?_
  refine G.nil ?_
  refine G.then_n ?_
  refine G.seq ?_
  refine G.seq ?_
  refine G.region ?_
  refine G.q (Quiet.move rfl) rfl ?_
  refine G.q (Quiet.strlen rfl Try.underlying9 rfl) rfl ?_
  refine G.q (Quiet.move rfl) rfl ?_
  refine G.nil ?_
  refine G.then_n ?_
  refine G.block ?_
  refine G.loopK (ι := Nat) (fun q E => (7, vint q) :: (3, vint (IntKind.i64.wrap (beZ (s.take q) 0))) :: E) (fun q => []) (fun q => q ≤ s.length) (fun q => s.length - q) (0) (ts := [0, 2, 6]) (.cons rfl (.cons rfl (.cons rfl (.nil)))) (Nat.zero_le _) ⟨rfl, rfl, rfl, rfl, rfl, trivial⟩ (by (repeat (first | exact Picks.nil | (apply Picks.cons; (repeat (first | exact Pick.here | apply Pick.there)))))) ?_
  rintro i hi
  refine G.seq ?_
  refine G.region ?_
  refine G.q (Quiet.int rfl rfl rfl) rfl ?_
  refine G.nil ?_
  refine G.then_n ?_
  refine G.seq ?_
  refine G.condD rfl (fun h8 => ?_) (fun h8 => ?_)
  · have hi2 : i < s.length := by simpa [bs_size] using h8
    refine G.skip ?_
    refine G.then_n ?_
    refine G.seq ?_
    refine G.block ?_
    refine G.seq ?_
    refine G.region ?_
    refine G.q (Quiet.move rfl) rfl ?_
    refine G.q (Quiet.assign rfl) rfl ?_
    refine G.nil ?_
    refine G.then_n ?_
    refine G.region ?_
    refine G.q (Quiet.move rfl) rfl ?_
    refine G.q (Quiet.shl rfl rfl (by first | decide | omega)) rfl ?_
    refine G.q (Quiet.move rfl) rfl ?_
    refine G.q (Quiet.move rfl) rfl ?_
    refine G.q (Quiet.strIndex (c := s[i]) rfl rfl Try.underlying9 (by omega) (by simp)) rfl ?_
    refine G.q (Quiet.conv rfl Try.underlying5 Try.underlying3) rfl ?_
    refine G.q (Quiet.as (v' := vint (IntKind.i64.wrap (beZ (s.take (i + 1)) 0))) (by exact congrArg (Value.int .i64) (small_next hi2)) (Quiet.or rfl rfl)) rfl ?_
    refine G.q (Quiet.assign rfl) rfl ?_
    refine G.nil ?_
    refine G.blk_n ?_
    refine G.then_n ?_
    refine G.region ?_
    refine G.q (Quiet.add rfl rfl (by omega)) rfl ?_
    refine G.q (Quiet.move rfl) rfl ?_
    refine G.nil ?_
    refine G.then_n ?_
    exact G.roundK (i + 1) (by omega) (by omega) ⟨rfl, rfl, rfl, rfl, rfl, trivial⟩ (by (repeat (first | exact Picks.nil | (apply Picks.cons; (repeat (first | exact Pick.here | apply Pick.there)))))) (by ((repeat (apply Have.cons; (repeat (first | exact Pick.here | apply Pick.there)))); apply Have.base; repeat (first | exact Suff.here | apply Suff.there)))
  · refine G.exit ?_
    refine G.then_e ?_
    refine G.then_e ?_
    refine G.blk_e ?_
    refine G.then_n ?_
    refine G.seq ?_
    refine G.region ?_
    refine G.q (Quiet.move rfl) rfl ?_
    refine G.q (Quiet.assign rfl) rfl ?_
    refine G.nil ?_
    refine G.then_n ?_
    refine G.ret ?_
    exact G.done (l := [.tmp 2]) rfl rfl ⟨by have hi3 : i = s.length := (by have h9 : ¬ (i : Int) < s.length := (by simpa [bs_size] using h8); omega); rw [hi3, List.take_length]; rfl, rfl⟩ (by (repeat (first | exact Picks.nil | (apply Picks.cons; (repeat (first | exact Pick.here | apply Pick.there)))))) (by (repeat (first | exact Suff.here | apply Suff.there)))

set_option maxRecDepth 100000 in
theorem sum_spec (s : Bs) (hs : s.length ≤ 9223372036854775807) : Fn Try.prog 122 #[vstr s] [] fun v L => v = .int .u32 (sumZ s) ∧ L = [] := by
  refine Fn.intro (vs := [vstr s]) Try.func122 rfl rfl ?_
  intro F W
  refine G.seq ?_
  refine G.region ?_
  refine G.q (Quiet.assign rfl) rfl ?_
  refine G.nil ?_
  refine G.then_n ?_
  refine G.seq ?_
  refine G.region ?_
  refine G.q (Quiet.assign rfl) rfl ?_
  refine G.nil ?_
  refine G.then_n ?_
  refine G.seq ?_
  refine G.seq ?_
  refine G.region ?_
  refine G.q (Quiet.move rfl) rfl ?_
  refine G.q (Quiet.strlen rfl Try.underlying9 rfl) rfl ?_
  refine G.q (Quiet.move rfl) rfl ?_
  refine G.nil ?_
  refine G.then_n ?_
  refine G.block ?_
  refine G.loopK (ι := Nat) (fun q E => (7, vint q) :: (3, .int .u32 (sumZ (s.take q))) :: E) (fun q => []) (fun q => q ≤ s.length) (fun q => s.length - q) (0) (ts := [0, 2, 6]) (.cons rfl (.cons rfl (.cons rfl (.nil)))) (Nat.zero_le _) ⟨rfl, rfl, rfl, rfl, rfl, trivial⟩ (by (repeat (first | exact Picks.nil | (apply Picks.cons; (repeat (first | exact Pick.here | apply Pick.there)))))) ?_
  rintro i hi
  refine G.seq ?_
  refine G.region ?_
  refine G.q (Quiet.int rfl rfl rfl) rfl ?_
  refine G.nil ?_
  refine G.then_n ?_
  refine G.seq ?_
  refine G.condD rfl (fun h8 => ?_) (fun h8 => ?_)
  · have hi2 : i < s.length := by simpa [bs_size] using h8
    refine G.skip ?_
    refine G.then_n ?_
    refine G.seq ?_
    refine G.block ?_
    refine G.seq ?_
    refine G.region ?_
    refine G.q (Quiet.move rfl) rfl ?_
    refine G.q (Quiet.assign rfl) rfl ?_
    refine G.nil ?_
    refine G.then_n ?_
    refine G.region ?_
    refine G.q (Quiet.move rfl) rfl ?_
    refine G.q (Quiet.move rfl) rfl ?_
    refine G.q (Quiet.move rfl) rfl ?_
    refine G.q (Quiet.strIndex (c := s[i]) rfl rfl Try.underlying9 (by omega) (by simp)) rfl ?_
    refine G.q (Quiet.conv rfl Try.underlying5 Try.underlying167) rfl ?_
    refine G.q (Quiet.xor rfl rfl) rfl ?_
    refine G.q (Quiet.as (v' := .int .u32 (sumZ (s.take (i + 1)))) (by rw [sumZ_next hi2]; rfl) (Quiet.int rfl rfl rfl)) rfl ?_
    refine G.q (Quiet.assign rfl) rfl ?_
    refine G.nil ?_
    refine G.blk_n ?_
    refine G.then_n ?_
    refine G.region ?_
    refine G.q (Quiet.add rfl rfl (by omega)) rfl ?_
    refine G.q (Quiet.move rfl) rfl ?_
    refine G.nil ?_
    refine G.then_n ?_
    exact G.roundK (i + 1) (by omega) (by omega) ⟨rfl, rfl, rfl, rfl, rfl, trivial⟩ (by (repeat (first | exact Picks.nil | (apply Picks.cons; (repeat (first | exact Pick.here | apply Pick.there)))))) (by ((repeat (apply Have.cons; (repeat (first | exact Pick.here | apply Pick.there)))); apply Have.base; repeat (first | exact Suff.here | apply Suff.there)))
  · refine G.exit ?_
    refine G.then_e ?_
    refine G.then_e ?_
    refine G.blk_e ?_
    refine G.then_n ?_
    refine G.seq ?_
    refine G.region ?_
    refine G.q (Quiet.move rfl) rfl ?_
    refine G.q (Quiet.assign rfl) rfl ?_
    refine G.nil ?_
    refine G.then_n ?_
    refine G.ret ?_
    exact G.done (l := [.tmp 2]) rfl rfl ⟨by have hi3 : i = s.length := (by have h9 : ¬ (i : Int) < s.length := (by simpa [bs_size] using h8); omega); rw [hi3, List.take_length], rfl⟩ (by (repeat (first | exact Picks.nil | (apply Picks.cons; (repeat (first | exact Pick.here | apply Pick.there)))))) (by (repeat (first | exact Suff.here | apply Suff.there)))

set_option maxRecDepth 100000 in
theorem rsum_spec (s : Bs) (hs : s.length ≤ 9223372036854775807) : Fn Try.prog 145 #[vstr s] [] fun v L => v = .int .u32 (sumZ s) ∧ L = [] := by
  refine Fn.intro (vs := [vstr s]) Try.func145 rfl rfl ?_
  intro F W
  refine G.seq ?_
  refine G.region ?_
  refine G.q (Quiet.assign rfl) rfl ?_
  refine G.nil ?_
  refine G.then_n ?_
  refine G.seq ?_
  refine G.region ?_
  refine G.q (Quiet.assign rfl) rfl ?_
  refine G.nil ?_
  refine G.then_n ?_
  refine G.seq ?_
  refine G.seq ?_
  refine G.region ?_
  refine G.q (Quiet.assign rfl) rfl ?_
  refine G.nil ?_
  refine G.then_n ?_
  refine G.block ?_
  refine G.loopK (ι := Nat) (fun q E => (4, vint q) :: (3, .int .u32 (sumZ (s.take q))) :: E) (fun q => []) (fun q => q ≤ s.length) (fun q => s.length - q) (0) (ts := [0, 2]) (.cons rfl (.cons rfl (.nil))) (Nat.zero_le _) ⟨rfl, rfl, rfl, rfl, trivial⟩ (by (repeat (first | exact Picks.nil | (apply Picks.cons; (repeat (first | exact Pick.here | apply Pick.there)))))) ?_
  rintro i hi
  refine G.seq ?_
  refine G.seq ?_
  refine G.region ?_
  refine G.q (Quiet.move rfl) rfl ?_
  refine G.q (Quiet.move rfl) rfl ?_
  refine G.q (Quiet.strlen rfl Try.underlying9 rfl) rfl ?_
  refine G.q (Quiet.int rfl rfl rfl) rfl ?_
  refine G.nil ?_
  refine G.then_n ?_
  refine G.condD rfl (fun h8 => ?_) (fun h8 => ?_)
  · have hi2 : i < s.length := by simpa [bs_size] using h8
    refine G.skip ?_
    refine G.then_n ?_
    refine G.seq ?_
    refine G.block ?_
    refine G.region ?_
    refine G.q (Quiet.move rfl) rfl ?_
    refine G.q (Quiet.move rfl) rfl ?_
    refine G.q (Quiet.move rfl) rfl ?_
    refine G.q (Quiet.strIndex (c := s[i]) rfl rfl Try.underlying9 (by omega) (by simp)) rfl ?_
    refine G.q (Quiet.conv rfl Try.underlying5 Try.underlying167) rfl ?_
    refine G.q (Quiet.xor rfl rfl) rfl ?_
    refine G.q (Quiet.as (v' := .int .u32 (sumZ (s.take (i + 1)))) (by rw [sumZ_next hi2]; rfl) (Quiet.int rfl rfl rfl)) rfl ?_
    refine G.q (Quiet.assign rfl) rfl ?_
    refine G.nil ?_
    refine G.blk_n ?_
    refine G.then_n ?_
    refine G.region ?_
    refine G.q (Quiet.move rfl) rfl ?_
    refine G.q (Quiet.add rfl rfl (by omega)) rfl ?_
    refine G.q (Quiet.assign rfl) rfl ?_
    refine G.nil ?_
    refine G.then_n ?_
    exact G.roundK (i + 1) (by omega) (by omega) ⟨rfl, rfl, rfl, rfl, trivial⟩ (by (repeat (first | exact Picks.nil | (apply Picks.cons; (repeat (first | exact Pick.here | apply Pick.there)))))) (by ((repeat (apply Have.cons; (repeat (first | exact Pick.here | apply Pick.there)))); apply Have.base; repeat (first | exact Suff.here | apply Suff.there)))
  · refine G.exit ?_
    refine G.then_e ?_
    refine G.then_e ?_
    refine G.blk_e ?_
    refine G.then_n ?_
    refine G.seq ?_
    refine G.region ?_
    refine G.q (Quiet.move rfl) rfl ?_
    refine G.q (Quiet.assign rfl) rfl ?_
    refine G.nil ?_
    refine G.then_n ?_
    refine G.ret ?_
    exact G.done (l := [.tmp 2]) rfl rfl ⟨by have hi3 : i = s.length := (by have h9 : ¬ (i : Int) < s.length := (by simpa [bs_size] using h8); omega); rw [hi3, List.take_length], rfl⟩ (by (repeat (first | exact Picks.nil | (apply Picks.cons; (repeat (first | exact Pick.here | apply Pick.there)))))) (by (repeat (first | exact Suff.here | apply Suff.there)))

end Go.Proofs.Ytepncdidkjjllaa
