/- Short names for what the printed texts name most often. -/
import Derived.Test.YtoaacdjcjicemaaWWords
import Derived.Test.YtoaacdjcjicemaaWLast
namespace Go.Proofs.YtoaacdjcjicemaaW.PrintWords
open Go.RowKit
abbrev wA := @below_alloc
abbrev wN := @pw_below_drewN
abbrev wD := @below_drew1
abbrev wS := @below_set
abbrev s1 := @List.setIfInBounds_toArray
abbrev s2 := @List.set_cons_zero
abbrev s3 := @List.set_cons_succ
abbrev bC := @blk_cell
abbrev bF := @blk_frozen
abbrev bB := @blk_below
abbrev bN := @blk_drewN
abbrev bD := @blk_drew
abbrev bA := @blk_alloc
abbrev bL := @World.block_lt_of_cell?
abbrev oT := @of_decide_eq_true
abbrev dT := @decide_eq_true
abbrev dF := @decide_eq_false
abbrev rN := @Kd.R_drewN
abbrev rD := @Kd.R_drew
abbrev rA := @Kd.R_alloc
abbrev rB := @Kd.R_below
abbrev lD := @List.length_drop
abbrev lT := @List.length_take
abbrev K0 := @Aside0.mk
end Go.Proofs.YtoaacdjcjicemaaW.PrintWords
