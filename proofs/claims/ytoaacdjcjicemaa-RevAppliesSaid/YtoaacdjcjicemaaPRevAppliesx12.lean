-- written by a program of this session (the print, turned)
import Derived.Test.YtoaacdjcjicemaaPRevAppliesx0
import Derived.Test.YtoaacdjcjicemaaPRevAppliesx1
import Derived.Test.YtoaacdjcjicemaaPRevAppliesx10
import Derived.Test.YtoaacdjcjicemaaPRevAppliesx11
import Derived.Test.YtoaacdjcjicemaaWAl
namespace Go.Proofs.Ytoaacdjcjicemaa.PRevApplies
open Go.RowKit Go.Proofs.YtoaacdjcjicemaaW.PrintWords Go.Proofs.YtoaacdjcjicemaaW.PrintLast Go.Proofs.YtoaacdjcjicemaaW.PrintMore
attribute [local go_sem] cell_self cell_there leq_str geq_str gtr_str max2_str max2_int min2_int max_two min_two max_three min_three max_four min_four   -- for this text's walks alone
set_option linter.unusedVariables false
set_option linter.unusedSimpArgs false
abbrev q12_0 : Array Bool := #[false, false, false, false, false, false, false, false, false, false, false, false, false, false, false, false, false, false, false, false, false, false, false, false, false, false, false, false, false, false, false, false, false, false, false, false, false, false, false, false, false, false, false, false, false, false, false, false, false, false, false, false, false, false]
abbrev q12_1 : Array Bool := #[true, false, false, false, false, false, false, false, false, false, false, false, false, false, false, false, false, false, false, false, false, false, false, false, false, false, false, false, false, false, false, false, false, false, false, false, false, false, false, false, false, false, false, false, false, false, false, false, false, false, false, false, false, false]
abbrev q12_2 : Array Bool := #[true, false, true, false, false, false, false, false, false, false, false, false, false, false, false, false, false, false, false, false, false, false, false, false, false, false, false, false, false, false, false, false, false, false, false, false, false, false, false, false, false, false, false, false, false, false, false, false, false, false, false, false, false, false]
abbrev q12_3 : Array Bool := #[true, true, true, false, false, false, false, false, false, false, false, false, false, false, false, false, false, false, false, false, false, false, false, false, false, false, false, false, false, false, false, false, false, false, false, false, false, false, false, false, false, false, false, false, false, false, false, false, false, false, false, false, false, false]
abbrev q12_4 : Array Bool := #[true, true, true, true, false, false, false, false, false, false, false, false, false, false, false, false, false, false, false, false, false, false, false, false, false, false, false, false, false, false, false, false, false, false, false, false, false, false, false, false, false, false, false, false, false, false, false, false, false, false, false, false, false, false]
abbrev q12_5 : Array Bool := #[true, true, true, true, true, false, false, false, false, false, false, false, false, false, false, false, false, false, false, false, false, false, false, false, false, false, false, false, false, false, false, false, false, false, false, false, false, false, false, false, false, false, false, false, false, false, false, false, false, false, false, false, false, false]
abbrev q12_6 : Array Bool := #[true, true, true, true, true, true, false, false, false, false, false, false, false, false, false, false, false, false, false, false, false, false, false, false, false, false, false, false, false, false, false, false, false, false, false, false, false, false, false, false, false, false, false, false, false, false, false, false, false, false, false, false, false, false]
abbrev q12_7 : Array Bool := #[true, true, true, true, true, true, true, false, false, false, false, false, false, false, false, false, false, false, false, false, false, false, false, false, false, false, false, false, false, false, false, false, false, false, false, false, false, false, false, false, false, false, false, false, false, false, false, false, false, false, false, false, false, false]
abbrev q12_8 : Array Bool := #[true, true, true, true, true, true, true, false, true, false, false, false, false, false, false, false, false, false, false, false, false, false, false, false, false, false, false, false, false, false, false, false, false, false, false, false, false, false, false, false, false, false, false, false, false, false, false, false, false, false, false, false, false, false]
abbrev q12_9 : Array Bool := #[true, true, true, true, true, true, true, true, true, false, false, false, false, false, false, false, false, false, false, false, false, false, false, false, false, false, false, false, false, false, false, false, false, false, false, false, false, false, false, false, false, false, false, false, false, false, false, false, false, false, false, false, false, false]
abbrev q12_10 : Array Bool := #[true, true, true, true, true, true, true, true, true, true, false, false, false, false, false, false, false, false, false, false, false, false, false, false, false, false, false, false, false, false, false, false, false, false, false, false, false, false, false, false, false, false, false, false, false, false, false, false, false, false, false, false, false, false]
abbrev q12_11 : Array Bool := #[true, true, true, true, true, true, true, true, true, true, true, false, false, false, false, false, false, false, false, false, false, false, false, false, false, false, false, false, false, false, false, false, false, false, false, false, false, false, false, false, false, false, false, false, false, false, false, false, false, false, false, false, false, false]
abbrev q12_12 : Array Bool := #[true, true, true, true, true, true, true, true, true, true, true, true, false, false, false, false, false, false, false, false, false, false, false, false, false, false, false, false, false, false, false, false, false, false, false, false, false, false, false, false, false, false, false, false, false, false, false, false, false, false, false, false, false, false]
abbrev q12_13 : Array Bool := #[true, true, true, true, true, true, true, true, true, true, true, true, true, false, false, false, false, false, false, false, false, false, false, false, false, false, false, false, false, false, false, false, false, false, false, false, false, false, false, false, false, false, false, false, false, false, false, false, false, false, false, false, false, false]
abbrev q12_14 : Array Bool := #[true, true, true, true, true, true, true, true, true, true, true, true, true, true, false, false, false, false, false, false, false, false, false, false, false, false, false, false, false, false, false, false, false, false, false, false, false, false, false, false, false, false, false, false, false, false, false, false, false, false, false, false, false, false]
abbrev q12_15 : Array Bool := #[true, true, true, true, true, true, true, true, true, true, true, true, true, true, false, false, true, false, false, false, false, false, false, false, false, false, false, false, false, false, false, false, false, false, false, false, false, false, false, false, false, false, false, false, false, false, false, false, false, false, false, false, false, false]
abbrev q12_16 : Array Bool := #[true, true, true, true, true, true, true, true, true, true, true, true, true, true, true, false, true, false, false, false, false, false, false, false, false, false, false, false, false, false, false, false, false, false, false, false, false, false, false, false, false, false, false, false, false, false, false, false, false, false, false, false, false, false]
abbrev q12_17 : Array Bool := #[true, true, true, true, true, true, true, true, true, true, true, true, true, true, true, false, true, true, false, false, false, false, false, false, false, false, false, false, false, false, false, false, false, false, false, false, false, false, false, false, false, false, false, false, false, false, false, false, false, false, false, false, false, false]
abbrev q12_18 : Array Bool := #[true, true, true, true, true, true, true, true, true, true, true, true, true, true, true, true, true, true, false, false, false, false, false, false, false, false, false, false, false, false, false, false, false, false, false, false, false, false, false, false, false, false, false, false, false, false, false, false, false, false, false, false, false, false]
abbrev q12_19 : Array Bool := #[true, true, true, true, true, true, true, true, true, true, true, true, true, true, true, true, true, true, true, false, false, false, false, false, false, false, false, false, false, false, false, false, false, false, false, false, false, false, false, false, false, false, false, false, false, false, false, false, false, false, false, false, false, false]
abbrev q12_20 : Array Bool := #[true, true, true, true, true, true, true, true, true, true, true, true, true, true, true, true, true, true, true, true, false, false, false, false, false, false, false, false, false, false, false, false, false, false, false, false, false, false, false, false, false, false, false, false, false, false, false, false, false, false, false, false, false, false]
abbrev q12_21 : Array Bool := #[true, true, true, true, true, true, true, true, true, true, true, true, true, true, true, true, true, true, true, true, true, false, false, false, false, false, false, false, false, false, false, false, false, false, false, false, false, false, false, false, false, false, false, false, false, false, false, false, false, false, false, false, false, false]
abbrev q12_22 : Array Bool := #[true, true, true, true, true, true, true, true, true, true, true, true, true, true, true, true, true, true, true, true, true, true, false, false, false, false, false, false, false, false, false, false, false, false, false, false, false, false, false, false, false, false, false, false, false, false, false, false, false, false, false, false, false, false]
abbrev q12_23 : Array Bool := #[true, true, true, true, true, true, true, true, true, true, true, true, true, true, true, true, true, true, true, true, true, true, false, true, false, false, false, false, false, false, false, false, false, false, false, false, false, false, false, false, false, false, false, false, false, false, false, false, false, false, false, false, false, false]
abbrev q12_24 : Array Bool := #[true, true, true, true, true, true, true, true, true, true, true, true, true, true, true, true, true, true, true, true, true, true, true, true, false, false, false, false, false, false, false, false, false, false, false, false, false, false, false, false, false, false, false, false, false, false, false, false, false, false, false, false, false, false]
abbrev q12_25 : Array Bool := #[true, true, true, true, true, true, true, true, true, true, true, true, true, true, true, true, true, true, true, true, true, true, true, true, true, false, false, false, false, false, false, false, false, false, false, false, false, false, false, false, false, false, false, false, false, false, false, false, false, false, false, false, false, false]
abbrev q12_26 : Array Bool := #[true, true, true, true, true, true, true, true, true, true, true, true, true, true, true, true, true, true, true, true, true, true, true, true, true, true, false, false, false, false, false, false, false, false, false, false, false, false, false, false, false, false, false, false, false, false, false, false, false, false, false, false, false, false]
abbrev q12_27 : Array Bool := #[true, true, true, true, true, true, true, true, true, true, true, true, true, true, true, true, true, true, true, true, true, true, true, true, true, true, true, false, false, false, false, false, false, false, false, false, false, false, false, false, false, false, false, false, false, false, false, false, false, false, false, false, false, false]
abbrev q12_28 : Array Bool := #[true, true, true, true, true, true, true, true, true, true, true, true, true, true, true, true, true, true, true, true, true, true, true, true, true, true, true, true, false, false, false, false, false, false, false, false, false, false, false, false, false, false, false, false, false, false, false, false, false, false, false, false, false, false]
abbrev q12_29 : Array Bool := #[true, true, true, true, true, true, true, true, true, true, true, true, true, true, true, true, true, true, true, true, true, true, true, true, true, true, true, true, true, false, false, false, false, false, false, false, false, false, false, false, false, false, false, false, false, false, false, false, false, false, false, false, false, false]
abbrev q12_30 : Array Bool := #[true, true, true, true, true, true, true, true, true, true, true, true, true, true, true, true, true, true, true, true, true, true, true, true, true, true, true, true, true, false, false, true, false, false, false, false, false, false, false, false, false, false, false, false, false, false, false, false, false, false, false, false, false, false]
abbrev q12_31 : Array Bool := #[true, true, true, true, true, true, true, true, true, true, true, true, true, true, true, true, true, true, true, true, true, true, true, true, true, true, true, true, true, true, false, true, false, false, false, false, false, false, false, false, false, false, false, false, false, false, false, false, false, false, false, false, false, false]
abbrev q12_32 : Array Bool := #[true, true, true, true, true, true, true, true, true, true, true, true, true, true, true, true, true, true, true, true, true, true, true, true, true, true, true, true, true, true, true, true, false, false, false, false, false, false, false, false, false, false, false, false, false, false, false, false, false, false, false, false, false, false]
abbrev q12_33 : Array Bool := #[true, true, true, true, true, true, true, true, true, true, true, true, true, true, true, true, true, true, true, true, true, true, true, true, true, true, true, true, true, true, true, true, true, false, false, false, false, false, false, false, false, false, false, false, false, false, false, false, false, false, false, false, false, false]
abbrev q12_34 : Array Bool := #[true, true, true, true, true, true, true, true, true, true, true, true, true, true, true, true, true, true, true, true, true, true, true, true, true, true, true, true, true, true, true, true, true, true, false, false, false, false, false, false, false, false, false, false, false, false, false, false, false, false, false, false, false, false]
abbrev q12_35 : Array Bool := #[true, true, true, true, true, true, true, true, true, true, true, true, true, true, true, true, true, true, true, true, true, true, true, true, true, true, true, true, true, true, true, true, true, true, true, false, false, false, false, false, false, false, false, false, false, false, false, false, false, false, false, false, false, false]
abbrev q12_36 : Array Bool := #[true, true, true, true, true, true, true, true, true, true, true, true, true, true, true, true, true, true, true, true, true, true, true, true, true, true, true, true, true, true, true, true, true, true, true, true, false, false, false, false, false, false, false, false, false, false, false, false, false, false, false, false, false, false]
abbrev q12_37 : Array Bool := #[true, true, true, true, true, true, true, true, true, true, true, true, true, true, true, true, true, true, true, true, true, true, true, true, true, true, true, true, true, true, true, true, true, true, true, true, true, false, false, false, false, false, false, false, false, false, false, false, false, false, false, false, false, false]
abbrev q12_38 : Array Bool := #[true, true, true, true, true, true, true, true, true, true, true, true, true, true, true, true, true, true, true, true, true, true, true, true, true, true, true, true, true, true, true, true, true, true, true, true, true, true, false, false, false, false, false, false, false, false, false, false, false, false, false, false, false, false]
abbrev q12_39 : Array Bool := #[true, true, true, true, true, true, true, true, true, true, true, true, true, true, true, true, true, true, true, true, true, true, true, true, true, true, true, true, true, true, true, true, true, true, true, true, true, true, false, false, true, false, false, false, false, false, false, false, false, false, false, false, false, false]
abbrev q12_40 : Array Bool := #[true, true, true, true, true, true, true, true, true, true, true, true, true, true, true, true, true, true, true, true, true, true, true, true, true, true, true, true, true, true, true, true, true, true, true, true, true, true, true, false, true, false, false, false, false, false, false, false, false, false, false, false, false, false]
abbrev q12_41 : Array Bool := #[true, true, true, true, true, true, true, true, true, true, true, true, true, true, true, true, true, true, true, true, true, true, true, true, true, true, true, true, true, true, true, true, true, true, true, true, true, true, true, true, true, false, false, false, false, false, false, false, false, false, false, false, false, false]
abbrev q12_42 : Array Bool := #[true, true, true, true, true, true, true, true, true, true, true, true, true, true, true, true, true, true, true, true, true, true, true, true, true, true, true, true, true, true, true, true, true, true, true, true, true, true, true, true, true, true, false, false, false, false, false, false, false, false, false, false, false, false]
abbrev q12_43 : Array Bool := #[true, true, true, true, true, true, true, true, true, true, true, true, true, true, true, true, true, true, true, true, true, true, true, true, true, true, true, true, true, true, true, true, true, true, true, true, true, true, true, true, true, true, true, false, false, false, false, false, false, false, false, false, false, false]
abbrev q12_44 : Array Bool := #[true, true, true, true, true, true, true, true, true, true, true, true, true, true, true, true, true, true, true, true, true, true, true, true, true, true, true, true, true, true, true, true, true, true, true, true, true, true, true, true, true, true, true, true, false, false, false, false, false, false, false, false, false, false]
abbrev q12_45 : Array Bool := #[true, true, true, true, true, true, true, true, true, true, true, true, true, true, true, true, true, true, true, true, true, true, true, true, true, true, true, true, true, true, true, true, true, true, true, true, true, true, true, true, true, true, true, true, true, false, false, false, false, false, false, false, false, false]
abbrev q12_46 : Array Bool := #[true, true, true, true, true, true, true, true, true, true, true, true, true, true, true, true, true, true, true, true, true, true, true, true, true, true, true, true, true, true, true, true, true, true, true, true, true, true, true, true, true, true, true, true, true, true, false, false, false, false, false, false, false, false]
abbrev q12_47 : Array Bool := #[true, true, true, true, true, true, true, true, true, true, true, true, true, true, true, true, true, true, true, true, true, true, true, true, true, true, true, true, true, true, true, true, true, true, true, true, true, true, true, true, true, true, true, true, true, true, true, false, false, false, false, false, false, false]
abbrev q12_48 : Array Bool := #[true, true, true, true, true, true, true, true, true, true, true, true, true, true, true, true, true, true, true, true, true, true, true, true, true, true, true, true, true, true, true, true, true, true, true, true, true, true, true, true, true, true, true, true, true, true, true, false, false, true, false, false, false, false]
abbrev q12_49 : Array Bool := #[true, true, true, true, true, true, true, true, true, true, true, true, true, true, true, true, true, true, true, true, true, true, true, true, true, true, true, true, true, true, true, true, true, true, true, true, true, true, true, true, true, true, true, true, true, true, true, true, false, true, false, false, false, false]
abbrev q12_50 : Array Bool := #[true, true, true, true, true, true, true, true, true, true, true, true, true, true, true, true, true, true, true, true, true, true, true, true, true, true, true, true, true, true, true, true, true, true, true, true, true, true, true, true, true, true, true, true, true, true, true, true, true, true, false, false, false, false]
abbrev q12_51 : Array Bool := #[true, true, true, true, true, true, true, true, true, true, true, true, true, true, true, true, true, true, true, true, true, true, true, true, true, true, true, true, true, true, true, true, true, true, true, true, true, true, true, true, true, true, true, true, true, true, true, true, true, true, true, false, false, false]
abbrev q12_52 : Array Bool := #[true, true, true, true, true, true, true, true, true, true, true, true, true, true, true, true, true, true, true, true, true, true, true, true, true, true, true, true, true, true, true, true, true, true, true, true, true, true, true, true, true, true, true, true, true, true, true, true, true, true, true, true, false, false]
abbrev q12_53 : Array Bool := #[true, true, true, true, true, true, true, true, true, true, true, true, true, true, true, true, true, true, true, true, true, true, true, true, true, true, true, true, true, true, true, true, true, true, true, true, true, true, true, true, true, true, true, true, true, true, true, true, true, true, true, true, true, false]
abbrev q12_54 : Array Bool := #[true, true, true, true, true, true, true, true, true, true, true, true, true, true, true, true, true, true, true, true, true, true, true, true, true, true, true, true, true, true, true, true, true, true, true, true, true, true, true, true, true, true, true, true, true, true, true, true, true, true, true, true, true, true]
abbrev q12_55 : Array Bool := #[false, false, false, false, false, false, false, false, false, false, false, false, false, false, false, false, false, false, false, false, false, false, false, false, false, false, false, false, false, false, false, false, false, false, false, false, false, false, false, false]
abbrev q12_56 : Array Bool := #[true, false, false, false, false, false, false, false, false, false, false, false, false, false, false, false, false, false, false, false, false, false, false, false, false, false, false, false, false, false, false, false, false, false, false, false, false, false, false, false]
abbrev q12_57 : Array Bool := #[true, false, true, false, false, false, false, false, false, false, false, false, false, false, false, false, false, false, false, false, false, false, false, false, false, false, false, false, false, false, false, false, false, false, false, false, false, false, false, false]
abbrev q12_58 : Array Bool := #[true, false, true, false, false, true, false, false, false, false, false, false, false, false, false, false, false, false, false, false, false, false, false, false, false, false, false, false, false, false, false, false, false, false, false, false, false, false, false, false]
abbrev q12_59 : Array Bool := #[true, false, true, false, false, true, false, true, false, false, false, false, false, false, false, false, false, false, false, false, false, false, false, false, false, false, false, false, false, false, false, false, false, false, false, false, false, false, false, false]
abbrev q12_60 : Array Bool := #[true, true, true, false, false, true, false, true, false, false, false, false, false, false, false, false, false, false, false, false, false, false, false, false, false, false, false, false, false, false, false, false, false, false, false, false, false, false, false, false]
abbrev q12_61 : Array Bool := #[true, true, true, true, false, true, false, true, false, false, false, false, false, false, false, false, false, false, false, false, false, false, false, false, false, false, false, false, false, false, false, false, false, false, false, false, false, false, false, false]
abbrev q12_62 : Array Bool := #[true, true, true, true, true, true, false, true, false, false, false, false, false, false, false, false, false, false, false, false, false, false, false, false, false, false, false, false, false, false, false, false, false, false, false, false, false, false, false, false]
abbrev q12_63 : Array Bool := #[true, true, true, true, true, true, true, true, false, false, false, false, false, false, false, false, false, false, false, false, false, false, false, false, false, false, false, false, false, false, false, false, false, false, false, false, false, false, false, false]
abbrev q12_64 : Array Bool := #[true, true, true, true, true, true, true, true, true, false, false, false, false, false, false, false, false, false, false, false, false, false, false, false, false, false, false, false, false, false, false, false, false, false, false, false, false, false, false, false]
abbrev q12_65 : Array Bool := #[true, true, true, true, true, true, true, true, true, true, false, false, false, false, false, false, false, false, false, false, false, false, false, false, false, false, false, false, false, false, false, false, false, false, false, false, false, false, false, false]
abbrev q12_66 : Array Bool := #[true, true, true, true, true, true, true, true, true, true, true, false, false, false, false, false, false, false, false, false, false, false, false, false, false, false, false, false, false, false, false, false, false, false, false, false, false, false, false, false]
abbrev q12_67 : Array Bool := #[true, true, true, true, true, true, true, true, true, true, true, true, false, false, false, false, false, false, false, false, false, false, false, false, false, false, false, false, false, false, false, false, false, false, false, false, false, false, false, false]
abbrev q12_68 : Array Bool := #[true, true, true, true, true, true, true, true, true, true, true, true, true, false, false, false, false, false, false, false, false, false, false, false, false, false, false, false, false, false, false, false, false, false, false, false, false, false, false, false]
abbrev q12_69 : Array Bool := #[true, true, true, true, true, true, true, true, true, true, true, true, true, true, false, false, false, false, false, false, false, false, false, false, false, false, false, false, false, false, false, false, false, false, false, false, false, false, false, false]
abbrev q12_70 : Array Bool := #[true, true, true, true, true, true, true, true, true, true, true, true, true, true, false, true, false, false, false, false, false, false, false, false, false, false, false, false, false, false, false, false, false, false, false, false, false, false, false, false]
abbrev q12_71 : Array Bool := #[true, true, true, true, true, true, true, true, true, true, true, true, true, true, false, true, false, false, true, false, false, false, false, false, false, false, false, false, false, false, false, false, false, false, false, false, false, false, false, false]
abbrev q12_72 : Array Bool := #[true, true, true, true, true, true, true, true, true, true, true, true, true, true, false, true, false, false, true, false, true, false, false, false, false, false, false, false, false, false, false, false, false, false, false, false, false, false, false, false]
abbrev q12_73 : Array Bool := #[true, true, true, true, true, true, true, true, true, true, true, true, true, true, true, true, false, false, true, false, true, false, false, false, false, false, false, false, false, false, false, false, false, false, false, false, false, false, false, false]
abbrev q12_74 : Array Bool := #[true, true, true, true, true, true, true, true, true, true, true, true, true, true, true, true, true, false, true, false, true, false, false, false, false, false, false, false, false, false, false, false, false, false, false, false, false, false, false, false]
abbrev q12_75 : Array Bool := #[true, true, true, true, true, true, true, true, true, true, true, true, true, true, true, true, true, true, true, false, true, false, false, false, false, false, false, false, false, false, false, false, false, false, false, false, false, false, false, false]
abbrev q12_76 : Array Bool := #[true, true, true, true, true, true, true, true, true, true, true, true, true, true, true, true, true, true, true, true, true, false, false, false, false, false, false, false, false, false, false, false, false, false, false, false, false, false, false, false]
abbrev q12_77 : Array Bool := #[true, true, true, true, true, true, true, true, true, true, true, true, true, true, true, true, true, true, true, true, true, true, false, false, false, false, false, false, false, false, false, false, false, false, false, false, false, false, false, false]
abbrev q12_78 : Array Bool := #[true, true, true, true, true, true, true, true, true, true, true, true, true, true, true, true, true, true, true, true, true, true, true, false, false, false, false, false, false, false, false, false, false, false, false, false, false, false, false, false]
abbrev q12_79 : Array Bool := #[true, true, true, true, true, true, true, true, true, true, true, true, true, true, true, true, true, true, true, true, true, true, true, true, false, false, false, false, false, false, false, false, false, false, false, false, false, false, false, false]
abbrev q12_80 : Array Bool := #[true, true, true, true, true, true, true, true, true, true, true, true, true, true, true, true, true, true, true, true, true, true, true, true, true, false, false, false, false, false, false, false, false, false, false, false, false, false, false, false]
abbrev q12_81 : Array Bool := #[true, true, true, true, true, true, true, true, true, true, true, true, true, true, true, true, true, true, true, true, true, true, true, true, true, true, false, false, false, false, false, false, false, false, false, false, false, false, false, false]
abbrev q12_82 : Array Bool := #[true, true, true, true, true, true, true, true, true, true, true, true, true, true, true, true, true, true, true, true, true, true, true, true, true, true, true, false, false, false, false, false, false, false, false, false, false, false, false, false]
abbrev q12_83 : Array Bool := #[true, true, true, true, true, true, true, true, true, true, true, true, true, true, true, true, true, true, true, true, true, true, true, true, true, true, true, true, false, false, false, false, false, false, false, false, false, false, false, false]
abbrev q12_84 : Array Bool := #[true, true, true, true, true, true, true, true, true, true, true, true, true, true, true, true, true, true, true, true, true, true, true, true, true, true, true, true, false, true, false, false, false, false, false, false, false, false, false, false]
abbrev q12_85 : Array Bool := #[true, true, true, true, true, true, true, true, true, true, true, true, true, true, true, true, true, true, true, true, true, true, true, true, true, true, true, true, false, true, false, false, true, false, false, false, false, false, false, false]
abbrev q12_86 : Array Bool := #[true, true, true, true, true, true, true, true, true, true, true, true, true, true, true, true, true, true, true, true, true, true, true, true, true, true, true, true, false, true, false, false, true, false, true, false, false, false, false, false]
abbrev q12_87 : Array Bool := #[true, true, true, true, true, true, true, true, true, true, true, true, true, true, true, true, true, true, true, true, true, true, true, true, true, true, true, true, true, true, false, false, true, false, true, false, false, false, false, false]
abbrev q12_88 : Array Bool := #[true, true, true, true, true, true, true, true, true, true, true, true, true, true, true, true, true, true, true, true, true, true, true, true, true, true, true, true, true, true, true, false, true, false, true, false, false, false, false, false]
abbrev q12_89 : Array Bool := #[true, true, true, true, true, true, true, true, true, true, true, true, true, true, true, true, true, true, true, true, true, true, true, true, true, true, true, true, true, true, true, true, true, false, true, false, false, false, false, false]
abbrev q12_90 : Array Bool := #[true, true, true, true, true, true, true, true, true, true, true, true, true, true, true, true, true, true, true, true, true, true, true, true, true, true, true, true, true, true, true, true, true, true, true, false, false, false, false, false]
abbrev q12_91 : Array Bool := #[true, true, true, true, true, true, true, true, true, true, true, true, true, true, true, true, true, true, true, true, true, true, true, true, true, true, true, true, true, true, true, true, true, true, true, true, false, false, false, false]
abbrev q12_92 : Array Bool := #[true, true, true, true, true, true, true, true, true, true, true, true, true, true, true, true, true, true, true, true, true, true, true, true, true, true, true, true, true, true, true, true, true, true, true, true, true, false, false, false]
abbrev q12_93 : Array Bool := #[true, true, true, true, true, true, true, true, true, true, true, true, true, true, true, true, true, true, true, true, true, true, true, true, true, true, true, true, true, true, true, true, true, true, true, true, true, true, false, false]
abbrev q12_94 : Array Bool := #[true, true, true, true, true, true, true, true, true, true, true, true, true, true, true, true, true, true, true, true, true, true, true, true, true, true, true, true, true, true, true, true, true, true, true, true, true, true, true, false]
abbrev q12_95 : Array Bool := #[true, true, true, true, true, true, true, true, true, true, true, true, true, true, true, true, true, true, true, true, true, true, true, true, true, true, true, true, true, true, true, true, true, true, true, true, true, true, true, true]
attribute [local go_sem high] eqA23
/-! ### rundlelaw08_Same: function 21 -/
mutual
def rundlelaw08_Same.j0 : Nat → Bool → Int → Int → ByteArray → ByteArray → Bool → Bool → List ByteArray → List ByteArray → List Bool → List Int → Int → Int → ByteArray → ByteArray → Bool → Bool → List (S62) → Option (Int)
 | 0, _, _, _, _, _, _, _, _, _, _, _, _, _, _, _, _, _, _ => none
 | k + 1, x60, x332000, x332001, x332002, x332003, x332004, x332005, x332006, x332007, x332008, x332009, x333000, x333001, x333002, x333003, x333004, x333005, x333006 => if x60 = true then (some 0) else (rundlelaw08_Same.l0 k ([] : List ByteArray) 0 x332000 x332001 x332002 x332003 x332004 x332005 x332006 x332007 x332008 x332009 x333000 x333001 x333002 x333003 x333004 x333005 x333006)
def rundlelaw08_Same.l0 : Nat → List ByteArray → Int → Int → Int → ByteArray → ByteArray → Bool → Bool → List ByteArray → List ByteArray → List Bool → List Int → Int → Int → ByteArray → ByteArray → Bool → Bool → List (S62) → Option (Int)
 | 0, _, _, _, _, _, _, _, _, _, _, _, _, _, _, _, _, _, _, _ => none
 | k + 1, x5, x6, x332000, x332001, x332002, x332003, x332004, x332005, x332006, x332007, x332008, x332009, x333000, x333001, x333002, x333003, x333004, x333005, x333006 => if x6 < (x333006.length : Int) then (if 0 ≤ x6 then (if x6 < (x332006.length : Int) then (if (rdOf ByteArray.empty x332006 x6).toList = ((rd_T62 x333006 x6).f0).toList then (if x6 < (x332007.length : Int) then (if (rdOf ByteArray.empty x332007 x6).toList = ((rd_T62 x333006 x6).f1).toList then (if x6 < (x332008.length : Int) then (if ((rdOf false x332008 x6) != ((rd_T62 x333006 x6).f2)) = true then (some 0) else (if x5.length < 8796093022208 then (rundlelaw08_Same.l0 k (x5 ++ [(rd_T62 x333006 x6).f0]) (wrap64 (x6 + 1)) x332000 x332001 x332002 x332003 x332004 x332005 x332006 x332007 x332008 x332009 x333000 x333001 x333002 x333003 x333004 x333005 x333006) else (none))) else (none)) else (some 0)) else (none)) else (some 0)) else (none)) else (none)) else (if x333005 = true then (rundlelaw08_Same.j2 k x5 true x332000 x332001 x332002 x332003 x332004 x332005 x332006 x332007 x332008 x332009) else (if (x332009.length : Int) = 0 then (if (x5.length : Int) = 0 then (if x333000 = 0 then (if x333001 = 0 then (rundlelaw08_Same.j2 k x5 (x333002.toList.isEmpty && (x333003.toList.isEmpty && (!x333004))) x332000 x332001 x332002 x332003 x332004 x332005 x332006 x332007 x332008 x332009) else (rundlelaw08_Same.j2 k x5 false x332000 x332001 x332002 x332003 x332004 x332005 x332006 x332007 x332008 x332009)) else (rundlelaw08_Same.j2 k x5 false x332000 x332001 x332002 x332003 x332004 x332005 x332006 x332007 x332008 x332009)) else (rundlelaw08_Same.j2 k x5 false x332000 x332001 x332002 x332003 x332004 x332005 x332006 x332007 x332008 x332009)) else (rundlelaw08_Same.j2 k x5 false x332000 x332001 x332002 x332003 x332004 x332005 x332006 x332007 x332008 x332009)))
def rundlelaw08_Same.j2 : Nat → List ByteArray → Bool → Int → Int → ByteArray → ByteArray → Bool → Bool → List ByteArray → List ByteArray → List Bool → List Int → Option (Int)
 | 0, _, _, _, _, _, _, _, _, _, _, _, _ => none
 | k + 1, x5, x145, x332000, x332001, x332002, x332003, x332004, x332005, x332006, x332007, x332008, x332009 => if x145 = true then (some 1) else ((rundleref06_Build.f k x5).bind fun t346 => ((rundlelaw06_Numbers.f k x332009 t346).bind fun t349 => (some t349)))
end
def rundlelaw08_Same.f (k : Nat) (a0_0 : Int) (a0_1 : Int) (a0_2 : ByteArray) (a0_3 : ByteArray) (a0_4 : Bool) (a0_5 : Bool) (l0_6 : List ByteArray) (l0_7 : List ByteArray) (l0_8 : List Bool) (l0_9 : List Int) (a1_0 : Int) (a1_1 : Int) (a1_2 : ByteArray) (a1_3 : ByteArray) (a1_4 : Bool) (a1_5 : Bool) (l1_6 : List (S62)) : Option (Int) := if a0_0 = a1_0 then (if a0_1 = a1_1 then ((rundlelaw04_Plain.f a0_2 a0_3 a0_4).bind fun bt333 => (if (!(bt333.1.toList == a1_2.toList) || (!(bt333.2.1.toList == a1_3.toList) || (!(bt333.2.2 == a1_4)))) = true then (rundlelaw08_Same.j0 k true a0_0 a0_1 a0_2 a0_3 a0_4 a0_5 l0_6 l0_7 l0_8 l0_9 a1_0 a1_1 a1_2 a1_3 a1_4 a1_5 l1_6) else (if (a0_5 != a1_5) = true then (rundlelaw08_Same.j0 k true a0_0 a0_1 a0_2 a0_3 a0_4 a0_5 l0_6 l0_7 l0_8 l0_9 a1_0 a1_1 a1_2 a1_3 a1_4 a1_5 l1_6) else (if (l0_6.length : Int) = (l1_6.length : Int) then (if (l0_7.length : Int) = (l1_6.length : Int) then (rundlelaw08_Same.j0 k ((l0_8.length : Int) != (l1_6.length : Int)) a0_0 a0_1 a0_2 a0_3 a0_4 a0_5 l0_6 l0_7 l0_8 l0_9 a1_0 a1_1 a1_2 a1_3 a1_4 a1_5 l1_6) else (rundlelaw08_Same.j0 k true a0_0 a0_1 a0_2 a0_3 a0_4 a0_5 l0_6 l0_7 l0_8 l0_9 a1_0 a1_1 a1_2 a1_3 a1_4 a1_5 l1_6)) else (rundlelaw08_Same.j0 k true a0_0 a0_1 a0_2 a0_3 a0_4 a0_5 l0_6 l0_7 l0_8 l0_9 a1_0 a1_1 a1_2 a1_3 a1_4 a1_5 l1_6))))) else (rundlelaw08_Same.j0 k true a0_0 a0_1 a0_2 a0_3 a0_4 a0_5 l0_6 l0_7 l0_8 l0_9 a1_0 a1_1 a1_2 a1_3 a1_4 a1_5 l1_6)) else (rundlelaw08_Same.j0 k true a0_0 a0_1 a0_2 a0_3 a0_4 a0_5 l0_6 l0_7 l0_8 l0_9 a1_0 a1_1 a1_2 a1_3 a1_4 a1_5 l1_6)
def rundlelaw08_Same.T1 : Bool × List (List Nat × List Nat) := (true, [([], []), ([0], [0]), ([], []), ([2], [2]), ([1, 3], [1, 3]), ([4], [4]), ([5], [5]), ([6, 5], [5, 6]), ([5], [5]), ([8, 5], [5, 8]), ([7, 9, 5], [5, 7, 9]), ([5, 10], [5, 10]), ([11, 5], [11]), ([12], [12]), ([13, 12], [12, 13]), ([14, 12, 12], [12, 14]), ([12], [12]), ([16, 12], [12, 16]), ([15, 17, 12], [12, 15, 17]), ([12, 18], [12, 18]), ([19, 15], [19]), ([20], [20]), ([21, 20], [20, 21]), ([20], [20]), ([23, 20], [20, 23]), ([22, 24, 20], [20, 22, 24]), ([20, 25], [20, 25]), ([26, 20], [26]), ([27], [27]), ([28, 27], [27, 28]), ([29, 27], [27, 29]), ([27], [27]), ([31, 27], [27, 31]), ([32, 27], [27, 32]), ([30, 33, 27], [27, 30, 33]), ([27, 34], [27, 34]), ([35, 27], [35]), ([36], [36]), ([37, 36], [36, 37]), ([38, 36], [36, 38]), ([36], [36]), ([40, 36], [36, 40]), ([41, 36], [36, 41]), ([39, 42, 36], [36, 39, 42]), ([36, 43], [36, 43]), ([44, 36], [44]), ([45], [45]), ([46, 45], [45, 46]), ([47, 45], [45, 47]), ([45], [45]), ([49, 45], [45, 49]), ([50, 45], [45, 50]), ([48, 51, 45], [45, 48, 51]), ([45, 52], [45, 52])])
def rundlelaw08_Same.B1 : List Nat := [0, 1, 0, 4, 15, 31, 63, 127, 63, 319, 1023, 2047, 4095, 8191, 16383, 32767, 8191, 73727, 262143, 524287, 1048575, 2097151, 4194303, 2097151, 10485759, 33554431, 67108863, 134217727, 268435455, 536870911, 1073741823, 268435455, 2415919103, 6710886399, 17179869183, 34359738367, 68719476735, 137438953471, 274877906943, 549755813887, 137438953471, 1236950581247, 3435973836799, 8796093022207, 17592186044415, 35184372088831, 70368744177663, 140737488355327, 281474976710655, 70368744177663, 633318697598975, 1759218604441599, 4503599627370495, 9007199254740991]
theorem rundlelaw08_Same.tab1 : rtab .any (opsOf Try.f21 1) = rundlelaw08_Same.T1 := by kernel_rfl
theorem rundlelaw08_Same.bits1 : waitsOk rundlelaw08_Same.T1.2 rundlelaw08_Same.B1 = true := by kernel_rfl
def rundlelaw08_Same.T7 : Bool × List (List Nat × List Nat) := (true, [([], []), ([0], [0]), ([], []), ([1, 2], [1, 2]), ([3], [3]), ([], []), ([5], [5]), ([], []), ([6, 7], [6, 7]), ([8], [8]), ([9], [9]), ([4, 10], [4, 10]), ([11], [11]), ([12], [12]), ([13, 12], [12, 13]), ([12], [12]), ([14, 15, 12], [12, 14, 15]), ([16, 12], [12, 16]), ([12], [12]), ([18, 12], [12, 18]), ([12], [12]), ([19, 20, 12], [12, 19, 20]), ([21, 12], [12, 21]), ([22, 12], [12, 22]), ([17, 23, 12], [12, 17, 23]), ([12, 24], [12, 24]), ([25, 12], [25]), ([26], [26]), ([27, 26], [26, 27]), ([26], [26]), ([28, 29, 26], [26, 28, 29]), ([30, 26], [26, 30]), ([26], [26]), ([32, 26], [26, 32]), ([26], [26]), ([33, 34, 26], [26, 33, 34]), ([35, 26], [26, 35]), ([36, 26], [26, 36]), ([31, 37, 26], [26, 31, 37]), ([26, 38], [26, 38])])
def rundlelaw08_Same.B7 : List Nat := [0, 1, 0, 7, 15, 0, 32, 0, 224, 480, 992, 2047, 4095, 8191, 16383, 8191, 65535, 131071, 8191, 270335, 8191, 1843199, 3940351, 8134655, 16777215, 33554431, 67108863, 134217727, 268435455, 134217727, 1073741823, 2147483647, 134217727, 4429185023, 134217727, 30198988799, 64558727167, 133278203903, 274877906943, 549755813887]
theorem rundlelaw08_Same.tab7 : rtab .any (opsOf Try.f21 7) = rundlelaw08_Same.T7 := by kernel_rfl
theorem rundlelaw08_Same.bits7 : waitsOk rundlelaw08_Same.T7.2 rundlelaw08_Same.B7 = true := by kernel_rfl
theorem j0_no {k : Nat} {v r : Int} {lo hi : ByteArray} {al de : Bool} {ks vs : List ByteArray} {gs : List Bool} {T : List Int} {v2 r2 : Int} {lo2 hi2 : ByteArray} {al2 de2 : Bool} {L : List S62} {x : Int} (h : rundlelaw08_Same.j0 k true v r lo hi al de ks vs gs T v2 r2 lo2 hi2 al2 de2 L = some x) : ¬ x = 1 := by
 cases k with
 | zero => simp [rundlelaw08_Same.j0] at h
 | succ k =>
  simp only [rundlelaw08_Same.j0, if_true] at h
  have := Option.some.inj h
  omega
set_option maxHeartbeats 8000000 in
set_option maxRecDepth 100000 in
theorem rundlelaw08_Same.calls (k : Nat) (a0_0 : Int) (a0_1 : Int) (a0_2 : ByteArray) (a0_3 : ByteArray) (a0_4 : Bool) (a0_5 : Bool) (A0_6 : Option Addr) (c0_6 : Nat) (l0_6 : List ByteArray) (A0_7 : Option Addr) (c0_7 : Nat) (l0_7 : List ByteArray) (A0_8 : Option Addr) (c0_8 : Nat) (l0_8 : List Bool) (A0_9 : Option Addr) (c0_9 : Nat) (l0_9 : List Int) (a1_0 : Int) (a1_1 : Int) (a1_2 : ByteArray) (a1_3 : ByteArray) (a1_4 : Bool) (a1_5 : Bool) (A1_6 : Option Addr) (c1_6 : Nat) (l1_6 : List (S62)) (r : Int) (w : World) (hr0_6 : Kd.C Kd.string w A0_6 l0_6.length l0_6) (hc0_6 : l0_6.length ≤ c0_6) (hr0_7 : Kd.C Kd.string w A0_7 l0_7.length l0_7) (hc0_7 : l0_7.length ≤ c0_7) (hr0_8 : Kd.C Kd.bool w A0_8 l0_8.length l0_8) (hc0_8 : l0_8.length ≤ c0_8) (hr0_9 : Kd.C (Kd.int .i64) w A0_9 l0_9.length l0_9) (hc0_9 : l0_9.length ≤ c0_9) (hr1_6 : Kd.C k62 w A1_6 l1_6.length l1_6) (hc1_6 : l1_6.length ≤ c1_6) (h : rundlelaw08_Same.f k a0_0 a0_1 a0_2 a0_3 a0_4 a0_5 l0_6 l0_7 l0_8 l0_9 a1_0 a1_1 a1_2 a1_3 a1_4 a1_5 l1_6 = some r) (hrt : r = 1) :
  Calls Try.prog 21 #[.agg #[.int .i64 a0_0, .int .i64 a0_1, .string a0_2, .string a0_3, .bool a0_4, .bool a0_5, .slice A0_6 l0_6.length c0_6, .slice A0_7 l0_7.length c0_7, .slice A0_8 l0_8.length c0_8, .slice A0_9 l0_9.length c0_9], .agg #[.int .i64 a1_0, .int .i64 a1_1, .string a1_2, .string a1_3, .bool a1_4, .bool a1_5, .slice A1_6 l1_6.length c1_6]] w fun e w' => e = .returned (.int .i64 r) ∧ Below w.heap.size w w' := by
 have hu37 := Try.underlying37
 have hu29 := Try.underlying29
 have hu32 := Try.underlying32
 have hu23 := Try.underlying23
 have HR0_6 := K0 hr0_6
 have HC0_6 := K0 hc0_6
 clear hr0_6 hc0_6
 have HR0_7 := K0 hr0_7
 have HC0_7 := K0 hc0_7
 clear hr0_7 hc0_7
 have HR0_8 := K0 hr0_8
 have HC0_8 := K0 hc0_8
 clear hr0_8 hc0_8
 have HR0_9 := K0 hr0_9
 have HC0_9 := K0 hc0_9
 clear hr0_9 hc0_9
 have HR1_6 := K0 hr1_6
 have HC1_6 := K0 hc1_6
 clear hr1_6 hc1_6
 have HB := K0 (Below.refl w.heap.size w)
 have H : (if a0_0 = a1_0 then (if a0_1 = a1_1 then ((rundlelaw04_Plain.f a0_2 a0_3 a0_4).bind fun bt333 => (if (!(bt333.1.toList == a1_2.toList) || (!(bt333.2.1.toList == a1_3.toList) || (!(bt333.2.2 == a1_4)))) = true then (rundlelaw08_Same.j0 k true a0_0 a0_1 a0_2 a0_3 a0_4 a0_5 l0_6 l0_7 l0_8 l0_9 a1_0 a1_1 a1_2 a1_3 a1_4 a1_5 l1_6) else (if (a0_5 != a1_5) = true then (rundlelaw08_Same.j0 k true a0_0 a0_1 a0_2 a0_3 a0_4 a0_5 l0_6 l0_7 l0_8 l0_9 a1_0 a1_1 a1_2 a1_3 a1_4 a1_5 l1_6) else (if (l0_6.length : Int) = (l1_6.length : Int) then (if (l0_7.length : Int) = (l1_6.length : Int) then (rundlelaw08_Same.j0 k ((l0_8.length : Int) != (l1_6.length : Int)) a0_0 a0_1 a0_2 a0_3 a0_4 a0_5 l0_6 l0_7 l0_8 l0_9 a1_0 a1_1 a1_2 a1_3 a1_4 a1_5 l1_6) else (rundlelaw08_Same.j0 k true a0_0 a0_1 a0_2 a0_3 a0_4 a0_5 l0_6 l0_7 l0_8 l0_9 a1_0 a1_1 a1_2 a1_3 a1_4 a1_5 l1_6)) else (rundlelaw08_Same.j0 k true a0_0 a0_1 a0_2 a0_3 a0_4 a0_5 l0_6 l0_7 l0_8 l0_9 a1_0 a1_1 a1_2 a1_3 a1_4 a1_5 l1_6))))) else (rundlelaw08_Same.j0 k true a0_0 a0_1 a0_2 a0_3 a0_4 a0_5 l0_6 l0_7 l0_8 l0_9 a1_0 a1_1 a1_2 a1_3 a1_4 a1_5 l1_6)) else (rundlelaw08_Same.j0 k true a0_0 a0_1 a0_2 a0_3 a0_4 a0_5 l0_6 l0_7 l0_8 l0_9 a1_0 a1_1 a1_2 a1_3 a1_4 a1_5 l1_6)) = some r := h
 clear h
 have HC3 := K0 H
 clear H
 go_enter Try.func21, Try.ntmps21
 go_upto_region 1 with (first | ((with_reducible refine gate_dst (N := 2) rfl ?_); (try (refine gate_guard (by rfl) ?_; dsimp only)); refine box_event ?hg (N := 2) ?hd (cs := #[.int .i64 a0_0, .int .i64 a0_1, .string a0_2, .string a0_3, .bool a0_4, .bool a0_5, .slice A0_6 l0_6.length c0_6, .slice A0_7 l0_7.length c0_7, .slice A0_8 l0_8.length c0_8, .slice A0_9 l0_9.length c0_9]) (t := 37) ?hr ?_; (case hd => rfl); (case hg => rfl); (case hr => first | (go_simp; done) | (go_simp; rfl)); intro gb331 hg w4 hbox hb; have n0_ := K0 (below_step (by repeat (first | (with_reducible first | exact HB.out | apply wA | apply wN | apply wD) | exact HB.out)) hb); have n1_ := K0 (hbox); have n2_ := K0 ((by rw [hg]; exact (below_size (by repeat (first | (with_reducible first | exact HB.out | apply wA | apply wN | apply wD) | exact HB.out))) : w.heap.size ≤ gb331)); have n3_ := K0 ((by rw [hg]; exact (below_size (by repeat (first | (with_reducible first | exact HB.out | apply wA | apply wN | apply wD) | exact HB.out))) : w.heap.size ≤ gb331)); clear HB; have HB := n0_; have BK331 := n1_; have GW331 := n2_; have GE331 := n3_; clear n0_ n1_ n2_ n3_; clear hb hbox hg) | ((with_reducible refine gate_dst (N := 3) rfl ?_); (try (refine gate_guard (by rfl) ?_; dsimp only)); refine box_event ?hg (N := 3) ?hd (cs := #[.int .i64 a1_0, .int .i64 a1_1, .string a1_2, .string a1_3, .bool a1_4, .bool a1_5, .slice A1_6 l1_6.length c1_6]) (t := 29) ?hr ?_; (case hd => rfl); (case hg => rfl); (case hr => first | (go_simp; done) | (go_simp; rfl)); intro gb332 hg w5 hbox hb; have n0_ := K0 (bB (g := gb331) (o := .cells #[.int .i64 a0_0, .int .i64 a0_1, .string a0_2, .string a0_3, .bool a0_4, .bool a0_5, .slice A0_6 l0_6.length c0_6, .slice A0_7 l0_7.length c0_7, .slice A0_8 l0_8.length c0_8, .slice A0_9 l0_9.length c0_9] 37 (0, 0)) (by (with_reducible repeat (first | refine bN ?_ _ | refine bD ?_ | refine bA ?_ _)); exact BK331.out) hb); have n1_ := K0 (below_step (by repeat (first | (with_reducible first | exact HB.out | apply wA | apply wN | apply wD | refine wS ?_ GE331.out) | exact HB.out)) hb); have n2_ := K0 (hbox); have n3_ := K0 ((by rw [hg]; exact (below_size (by repeat (first | (with_reducible first | exact HB.out | apply wA | apply wN | apply wD | refine wS ?_ GE331.out) | exact HB.out))) : w.heap.size ≤ gb332)); have n4_ := K0 ((by rw [hg]; exact (below_size (by repeat (first | (with_reducible first | exact HB.out | apply wA | apply wN | apply wD | refine wS ?_ GE331.out) | exact HB.out))) : w.heap.size ≤ gb332)); have n5_ := K0 ((by rw [hg]; exact Nat.ne_of_lt (blk_lt (g := gb331) (o := .cells #[.int .i64 a0_0, .int .i64 a0_1, .string a0_2, .string a0_3, .bool a0_4, .bool a0_5, .slice A0_6 l0_6.length c0_6, .slice A0_7 l0_7.length c0_7, .slice A0_8 l0_8.length c0_8, .slice A0_9 l0_9.length c0_9] 37 (0, 0)) (by (with_reducible repeat (first | refine bN ?_ _ | refine bD ?_ | refine bA ?_ _)); exact BK331.out)) : gb331 ≠ gb332)); have n6_ := K0 ((by rw [hg]; exact Nat.ne_of_gt (blk_lt (g := gb331) (o := .cells #[.int .i64 a0_0, .int .i64 a0_1, .string a0_2, .string a0_3, .bool a0_4, .bool a0_5, .slice A0_6 l0_6.length c0_6, .slice A0_7 l0_7.length c0_7, .slice A0_8 l0_8.length c0_8, .slice A0_9 l0_9.length c0_9] 37 (0, 0)) (by (with_reducible repeat (first | refine bN ?_ _ | refine bD ?_ | refine bA ?_ _)); exact BK331.out)) : gb332 ≠ gb331)); clear BK331; clear HB; have BK331 := n0_; have HB := n1_; have BK332 := n2_; have GW332 := n3_; have GE332 := n4_; have NB331_332 := n5_; have NB332_331 := n6_; clear n0_ n1_ n2_ n3_ n4_ n5_ n6_; clear hb hbox hg))
 (try simp only [Act.put, s1, s2, s3])
 go_cut [60] (fun v60 wc => ∃ (kq : Nat) (x60_2 : Bool), v60 = .bool x60_2 ∧ Aside0 (rundlelaw08_Same.j0 kq x60_2 a0_0 a0_1 a0_2 a0_3 a0_4 a0_5 l0_6 l0_7 l0_8 l0_9 a1_0 a1_1 a1_2 a1_3 a1_4 a1_5 l1_6 = some r) ∧ Aside0 (kq ≤ k) ∧ Aside0 (wc.heap[gb331]? = some (.cells #[.int .i64 a0_0, .int .i64 a0_1, .string a0_2, .string a0_3, .bool a0_4, .bool a0_5, (.slice A0_6 l0_6.length c0_6), (.slice A0_7 l0_7.length c0_7), (.slice A0_8 l0_8.length c0_8), (.slice A0_9 l0_9.length c0_9)] 37 (0, 0))) ∧ Aside0 (wc.heap[gb332]? = some (.cells #[.int .i64 a1_0, .int .i64 a1_1, .string a1_2, .string a1_3, .bool a1_4, .bool a1_5, (.slice A1_6 l1_6.length c1_6)] 29 (0, 0))) ∧ Aside0 (Below w.heap.size w wc))
 case first =>
  have H := HC3.out
  clear HC3
  by_cases c6 : a0_0 = a1_0
  ·
   rw [if_pos c6] at H; have c6b0 : (a0_0 == a1_0) = true := beq_iff_eq.mpr c6; have c6b1 : (a0_0 != a1_0) = false := bne_eq_false_iff_eq.mpr c6; clear c6; (first | rw [c6b0] | (simp only [i64_w, i32_w]; rw [c6b0]) | skip)
   by_cases c7 : a0_1 = a1_1
   ·
    rw [if_pos c7] at H; have c7b0 : (a0_1 == a1_1) = true := beq_iff_eq.mpr c7; have c7b1 : (a0_1 != a1_1) = false := bne_eq_false_iff_eq.mpr c7; clear c7; replace H := Option.bind_eq_some_iff.mp H; obtain ⟨⟨t333, t334, t335⟩, A80, H⟩ := H; replace H : (if (!(t333.toList == a1_2.toList) || (!(t334.toList == a1_3.toList) || (!(t335 == a1_4)))) = true then (rundlelaw08_Same.j0 k true a0_0 a0_1 a0_2 a0_3 a0_4 a0_5 l0_6 l0_7 l0_8 l0_9 a1_0 a1_1 a1_2 a1_3 a1_4 a1_5 l1_6) else (if (a0_5 != a1_5) = true then (rundlelaw08_Same.j0 k true a0_0 a0_1 a0_2 a0_3 a0_4 a0_5 l0_6 l0_7 l0_8 l0_9 a1_0 a1_1 a1_2 a1_3 a1_4 a1_5 l1_6) else (if (l0_6.length : Int) = (l1_6.length : Int) then (if (l0_7.length : Int) = (l1_6.length : Int) then (rundlelaw08_Same.j0 k ((l0_8.length : Int) != (l1_6.length : Int)) a0_0 a0_1 a0_2 a0_3 a0_4 a0_5 l0_6 l0_7 l0_8 l0_9 a1_0 a1_1 a1_2 a1_3 a1_4 a1_5 l1_6) else (rundlelaw08_Same.j0 k true a0_0 a0_1 a0_2 a0_3 a0_4 a0_5 l0_6 l0_7 l0_8 l0_9 a1_0 a1_1 a1_2 a1_3 a1_4 a1_5 l1_6)) else (rundlelaw08_Same.j0 k true a0_0 a0_1 a0_2 a0_3 a0_4 a0_5 l0_6 l0_7 l0_8 l0_9 a1_0 a1_1 a1_2 a1_3 a1_4 a1_5 l1_6)))) = some r := H; have A8 := K0 A80; clear A80; by_cases c9 : (!(t333.toList == a1_2.toList) || (!(t334.toList == a1_3.toList) || (!(t335 == a1_4)))) = true
    · rw [if_pos c9] at H; exact absurd hrt (j0_no H)
    rw [if_neg c9] at H; have c9b0 : (!(t333.toList == a1_2.toList) || (!(t334.toList == a1_3.toList) || (!(t335 == a1_4)))) = false := by simpa using c9
    clear c9; by_cases c12 : (a0_5 != a1_5) = true
    · rw [if_pos c12] at H; exact absurd hrt (j0_no H)
    rw [if_neg c12] at H; have c12b0 : (a0_5 != a1_5) = false := by simpa using c12
    (try (have c12b1 : decide (a0_5 = a1_5) = true := by simpa using c12))
    (try (have c12b2 : (a0_5 == a1_5) = true := by simpa using c12))
    clear c12; by_cases c15 : (l0_6.length : Int) = (l1_6.length : Int)
    ·
     rw [if_pos c15] at H; have c15b0 : ((l0_6.length : Int) == (l1_6.length : Int)) = true := beq_iff_eq.mpr c15; have c15b1 : ((l0_6.length : Int) != (l1_6.length : Int)) = false := bne_eq_false_iff_eq.mpr c15; have c15b2 : (l0_6.length == l1_6.length) = true := by first | simpa using c15 | (simp at c15 ⊢; omega)
     clear c15; by_cases c16 : (l0_7.length : Int) = (l1_6.length : Int)
     ·
      rw [if_pos c16] at H; have c16b0 : ((l0_7.length : Int) == (l1_6.length : Int)) = true := beq_iff_eq.mpr c16; have c16b1 : ((l0_7.length : Int) != (l1_6.length : Int)) = false := bne_eq_false_iff_eq.mpr c16; have c16b2 : (l0_7.length == l1_6.length) = true := by first | simpa using c16 | (simp at c16 ⊢; omega)
      clear c16; have H' := K0 H; clear H; try go_wp2
      have n0_ := K0 (bD BK331.out); have n1_ := K0 (bD BK332.out); have n2_ := K0 (wD HB.out); clear BK331 BK332 HB; have BK331 := n0_; have BK332 := n1_; have HB := n2_; clear n0_ n1_ n2_; refine start_ (n := 54) (S := fun w' => w'.cell? ⟨gb331, 0, none⟩ = some (.int .i64 a0_0) ∧ w'.cell? ⟨gb331, 1, none⟩ = some (.int .i64 a0_1) ∧ w'.cell? ⟨gb331, 2, none⟩ = some (.string a0_2) ∧ w'.cell? ⟨gb331, 3, none⟩ = some (.string a0_3) ∧ w'.cell? ⟨gb331, 4, none⟩ = some (.bool a0_4) ∧ w'.cell? ⟨gb331, 5, none⟩ = some (.bool a0_5) ∧ w'.cell? ⟨gb331, 6, none⟩ = some (.slice A0_6 l0_6.length c0_6) ∧ w'.cell? ⟨gb331, 7, none⟩ = some (.slice A0_7 l0_7.length c0_7) ∧ w'.cell? ⟨gb331, 8, none⟩ = some (.slice A0_8 l0_8.length c0_8) ∧ w'.cell? ⟨gb331, 9, none⟩ = some (.slice A0_9 l0_9.length c0_9) ∧ w'.cell? ⟨gb332, 0, none⟩ = some (.int .i64 a1_0) ∧ w'.cell? ⟨gb332, 1, none⟩ = some (.int .i64 a1_1) ∧ w'.cell? ⟨gb332, 2, none⟩ = some (.string a1_2) ∧ w'.cell? ⟨gb332, 3, none⟩ = some (.string a1_3) ∧ w'.cell? ⟨gb332, 4, none⟩ = some (.bool a1_4) ∧ w'.cell? ⟨gb332, 5, none⟩ = some (.bool a1_5) ∧ w'.cell? ⟨gb332, 6, none⟩ = some (.slice A1_6 l1_6.length c1_6)) (ds := []) q12_0 (by kernel_rfl) rfl rfl ⟨(bC BK331.out 0).trans rfl, (bC BK331.out 1).trans rfl, (bC BK331.out 2).trans rfl, (bC BK331.out 3).trans rfl, (bC BK331.out 4).trans rfl, (bC BK331.out 5).trans rfl, (bC BK331.out 6).trans rfl, (bC BK331.out 7).trans rfl, (bC BK331.out 8).trans rfl, (bC BK331.out 9).trans rfl, (bC BK332.out 0).trans rfl, (bC BK332.out 1).trans rfl, (bC BK332.out 2).trans rfl, (bC BK332.out 3).trans rfl, (bC BK332.out 4).trans rfl, (bC BK332.out 5).trans rfl, (bC BK332.out 6).trans rfl⟩ (fun hHeld => ?_); refine with_tabW rundlelaw08_Same.tab1 rundlelaw08_Same.bits1 (fun HT_ HW_ => ?_)
      generalize w5.drew = w17 at BK331 BK332 HB hHeld ⊢; refine pure_ (i := 0) (N := some 7) (v := ?_) (a' := ?_) q12_1 rfl rfl (any_of HT_.out (by kernel_rfl)) (fun _ _ _ h => h) (Or.inl ⟨by rfl, ?_⟩) ?_ ?_; rotate_left
      · intro w'; go_simp; with_reducible rfl
      rotate_left
      · simp only [Act.put, s1, s2, s3, i64_w, i32_w]; rfl
      refine pure_ (i := 2) (N := some 9) (v := ?_) (a' := ?_) q12_2 rfl rfl (any_of HT_.out (by kernel_rfl)) (fun _ _ _ h => h) (Or.inl ⟨by rfl, ?_⟩) ?_ ?_; rotate_left
      · intro w'; go_simp; with_reducible rfl
      rotate_left
      · simp only [Act.put, s1, s2, s3, i64_w, i32_w]; rfl
      refine take_ (i := 1) (N := some 8) (v := ?_) (a' := ?_) q12_3 rfl rfl (take_ofW HT_.out HW_.out (by kernel_rfl)) (fun _ _ _ h => h) (Or.inl ⟨by rfl, ?_⟩) hHeld ?_ ?_; rotate_left
      · rintro w' ⟨s0, s1, s2, s3, s4, s5, s6, s7, s8, s9, s10, s11, s12, s13, s14, s15, s16⟩; go_simp; with_reducible rfl
      rotate_left
      · simp only [Act.put, s1, s2, s3, i64_w, i32_w]; rfl
      refine take_ (i := 3) (N := some 10) (v := ?_) (a' := ?_) q12_4 rfl rfl (take_ofW HT_.out HW_.out (by kernel_rfl)) (fun _ _ _ h => h) (Or.inl ⟨by rfl, ?_⟩) hHeld ?_ ?_; rotate_left
      · rintro w' ⟨s0, s1, s2, s3, s4, s5, s6, s7, s8, s9, s10, s11, s12, s13, s14, s15, s16⟩; go_simp; with_reducible rfl
      rotate_left
      · simp only [Act.put, s1, s2, s3, i64_w, i32_w]; rfl
      refine pure_ (i := 4) (N := some 11) (v := ?_) (a' := ?_) q12_5 rfl rfl (any_of HT_.out (by kernel_rfl)) (fun _ _ _ h => h) (Or.inl ⟨by rfl, ?_⟩) ?_ ?_; rotate_left
      · intro w'; go_simp; with_reducible rfl
      rotate_left
      · simp only [Act.put, s1, s2, s3, i64_w, i32_w]; rfl
      refine pure_ (i := 5) (N := some 12) (v := ?_) (a' := ?_) q12_6 rfl rfl (any_of HT_.out (by kernel_rfl)) (fun _ _ _ h => h) (Or.inl ⟨by rfl, ?_⟩) ?_ ?_; rotate_left
      · intro w'; go_simp; with_reducible rfl
      rotate_left
      · simp only [Act.put, s1, s2, s3, i64_w, i32_w]; rfl
      refine pure_ (i := 6) (N := some 13) (v := ?_) (a' := ?_) q12_7 rfl rfl (any_of HT_.out (by kernel_rfl)) (fun _ _ _ h => h) (Or.inl ⟨by rfl, ?_⟩) ?_ ?_; rotate_left
      · intro w'; go_simp; with_reducible rfl
      rotate_left
      · simp only [Act.put, s1, s2, s3, i64_w, i32_w]; rfl
      refine pure_ (i := 8) (N := some 15) (v := ?_) (a' := ?_) q12_8 rfl rfl (any_of HT_.out (by kernel_rfl)) (fun _ _ _ h => h) (Or.inl ⟨by rfl, ?_⟩) ?_ ?_; rotate_left
      · intro w'; go_simp; with_reducible rfl
      rotate_left
      · simp only [Act.put, s1, s2, s3, i64_w, i32_w]; rfl
      refine take_ (i := 7) (N := some 14) (v := ?_) (a' := ?_) q12_9 rfl rfl (take_ofW HT_.out HW_.out (by kernel_rfl)) (fun _ _ _ h => h) (Or.inl ⟨by rfl, ?_⟩) hHeld ?_ ?_; rotate_left
      · rintro w' ⟨s0, s1, s2, s3, s4, s5, s6, s7, s8, s9, s10, s11, s12, s13, s14, s15, s16⟩; go_simp; with_reducible rfl
      rotate_left
      · simp only [Act.put, s1, s2, s3, i64_w, i32_w]; rfl
      refine take_ (i := 9) (N := some 16) (v := ?_) (a' := ?_) q12_10 rfl rfl (take_ofW HT_.out HW_.out (by kernel_rfl)) (fun _ _ _ h => h) (Or.inl ⟨by rfl, ?_⟩) hHeld ?_ ?_; rotate_left
      · rintro w' ⟨s0, s1, s2, s3, s4, s5, s6, s7, s8, s9, s10, s11, s12, s13, s14, s15, s16⟩; go_simp; with_reducible rfl
      rotate_left
      · simp only [Act.put, s1, s2, s3, i64_w, i32_w]; rfl
      refine pure_ (i := 10) (N := some 17) (v := ?_) (a' := ?_) q12_11 rfl rfl (any_of HT_.out (by kernel_rfl)) (fun _ _ _ h => h) (Or.inl ⟨by rfl, ?_⟩) ?_ ?_; rotate_left
      · intro w'; go_simp; with_reducible rfl
      rotate_left
      · simp only [Act.put, s1, s2, s3, i64_w, i32_w]; rfl
      refine pure_ (i := 11) (N := some 18) (v := ?_) (a' := ?_) q12_12 rfl rfl (any_of HT_.out (by kernel_rfl)) (fun _ _ _ h => h) (Or.inl ⟨by rfl, ?_⟩) ?_ ?_; rotate_left
      · intro w'; go_simp; with_reducible rfl
      rotate_left
      · simp only [Act.put, s1, s2, s3, i64_w, i32_w]; rfl
      refine pure_ (i := 12) (N := some 19) (v := ?_) (a' := ?_) q12_13 rfl rfl (any_of HT_.out (by kernel_rfl)) (fun _ _ _ h => h) (Or.inl ⟨by rfl, ?_⟩) ?_ ?_; rotate_left
      · intro w'; go_simp; with_reducible rfl
      rotate_left
      · simp only [Act.put, s1, s2, s3, i64_w, i32_w]; rfl
      refine pure_ (i := 13) (N := some 20) (v := ?_) (a' := ?_) q12_14 rfl rfl (any_of HT_.out (by kernel_rfl)) (fun _ _ _ h => h) (Or.inl ⟨by rfl, ?_⟩) ?_ ?_; rotate_left
      · intro w'; go_simp; with_reducible rfl
      rotate_left
      · simp only [Act.put, s1, s2, s3, i64_w, i32_w]; rfl
      refine pure_ (i := 16) (N := some 23) (v := ?_) (a' := ?_) q12_15 rfl rfl (any_of HT_.out (by kernel_rfl)) (fun _ _ _ h => h) (Or.inl ⟨by rfl, ?_⟩) ?_ ?_; rotate_left
      · intro w'; go_simp; with_reducible rfl
      rotate_left
      · simp only [Act.put, s1, s2, s3, i64_w, i32_w]; rfl
      refine take_ (i := 14) (N := some 21) (v := ?_) (a' := ?_) q12_16 rfl rfl (take_ofW HT_.out HW_.out (by kernel_rfl)) (fun _ _ _ h => h) (Or.inl ⟨by rfl, ?_⟩) hHeld ?_ ?_; rotate_left
      · rintro w' ⟨s0, s1, s2, s3, s4, s5, s6, s7, s8, s9, s10, s11, s12, s13, s14, s15, s16⟩; go_simp; with_reducible rfl
      rotate_left
      · simp only [Act.put, s1, s2, s3, i64_w, i32_w]; rfl
      refine take_ (i := 17) (N := some 24) (v := ?_) (a' := ?_) q12_17 rfl rfl (take_ofW HT_.out HW_.out (by kernel_rfl)) (fun _ _ _ h => h) (Or.inl ⟨by rfl, ?_⟩) hHeld ?_ ?_; rotate_left
      · rintro w' ⟨s0, s1, s2, s3, s4, s5, s6, s7, s8, s9, s10, s11, s12, s13, s14, s15, s16⟩; go_simp; with_reducible rfl
      rotate_left
      · simp only [Act.put, s1, s2, s3, i64_w, i32_w]; rfl
      refine one_ (i := 15) (N := some 22) q12_18 rfl rfl (one_of HT_.out (by kernel_rfl)) (by decide) (fun K hK => ?_); refine goes_ Try.func60 (by kernel_rfl) rfl #[.agg #[.string a0_2, .string a0_3, .bool a0_4]] (by rfl) rfl rfl (by (try simp only [List.map_toArray, List.map_cons, List.map_nil]); first | done | rfl | (simp only [lD, lT]; rfl)) ?_; with_reducible refine (rundlelaw04_Plain.calls a0_2 a0_3 a0_4 t333 t334 t335 _ A8.out).mono ?_
      rintro e w18 ⟨rfl, hb⟩; refine ⟨_, rfl, ?_⟩; have n0_ := K0 (bB (g := gb331) (o := .cells #[.int .i64 a0_0, .int .i64 a0_1, .string a0_2, .string a0_3, .bool a0_4, .bool a0_5, .slice A0_6 l0_6.length c0_6, .slice A0_7 l0_7.length c0_7, .slice A0_8 l0_8.length c0_8, .slice A0_9 l0_9.length c0_9] 37 (0, 0)) (by (with_reducible repeat (first | refine bN ?_ _ | refine bD ?_ | refine bA ?_ _)); exact BK331.out) hb); have n1_ := K0 (bB (g := gb332) (o := .cells #[.int .i64 a1_0, .int .i64 a1_1, .string a1_2, .string a1_3, .bool a1_4, .bool a1_5, .slice A1_6 l1_6.length c1_6] 29 (0, 0)) (by (with_reducible repeat (first | refine bN ?_ _ | refine bD ?_ | refine bA ?_ _)); exact BK332.out) hb); have n2_ := K0 (below_step (by repeat (first | (with_reducible first | exact HB.out | apply wA | apply wN | apply wD | refine wS ?_ GE331.out | refine wS ?_ GE332.out) | exact HB.out)) hb); clear BK331 BK332 HB; have BK331 := n0_; have BK332 := n1_; have HB := n2_; clear n0_ n1_ n2_; (try clear hb)
      (try clear hb2)
      (try clear hk)
      (try clear hi)
      refine hK.out _ _ ⟨(bC BK331.out 0).trans rfl, (bC BK331.out 1).trans rfl, (bC BK331.out 2).trans rfl, (bC BK331.out 3).trans rfl, (bC BK331.out 4).trans rfl, (bC BK331.out 5).trans rfl, (bC BK331.out 6).trans rfl, (bC BK331.out 7).trans rfl, (bC BK331.out 8).trans rfl, (bC BK331.out 9).trans rfl, (bC BK332.out 0).trans rfl, (bC BK332.out 1).trans rfl, (bC BK332.out 2).trans rfl, (bC BK332.out 3).trans rfl, (bC BK332.out 4).trans rfl, (bC BK332.out 5).trans rfl, (bC BK332.out 6).trans rfl⟩ (fun hHeld => ?_); clear hK K; refine norm_ (a' := ?_) ?_ ?_; rotate_left
      · show Act.put _ (some 22) _ = _; simp only [Act.put, s1, s2, s3, i64_w, i32_w]; rfl
      refine pure_ (i := 18) (N := some 25) (v := ?_) (a' := ?_) q12_19 rfl rfl (any_of HT_.out (by kernel_rfl)) (fun _ _ _ h => h) (Or.inl ⟨by rfl, ?_⟩) ?_ ?_; rotate_left
      · intro w'; go_simp; with_reducible rfl
      rotate_left
      · simp only [Act.put, s1, s2, s3, i64_w, i32_w]; rfl
      refine pure_ (i := 19) (N := some 26) (v := ?_) (a' := ?_) q12_20 rfl rfl (any_of HT_.out (by kernel_rfl)) (fun _ _ _ h => h) (Or.inl ⟨by rfl, ?_⟩) ?_ ?_; rotate_left
      · intro w'; go_simp; with_reducible rfl
      rotate_left
      · simp only [Act.put, s1, s2, s3, i64_w, i32_w]; rfl
      refine pure_ (i := 20) (N := some 27) (v := ?_) (a' := ?_) q12_21 rfl rfl (any_of HT_.out (by kernel_rfl)) (fun _ _ _ h => h) (Or.inl ⟨by rfl, ?_⟩) ?_ ?_; rotate_left
      · intro w'; go_simp; with_reducible rfl
      rotate_left
      · simp only [Act.put, s1, s2, s3, i64_w, i32_w]; rfl
      refine pure_ (i := 21) (N := some 28) (v := ?_) (a' := ?_) q12_22 rfl rfl (any_of HT_.out (by kernel_rfl)) (fun _ _ _ h => h) (Or.inl ⟨by rfl, ?_⟩) ?_ ?_; rotate_left
      · intro w'; go_simp; with_reducible rfl
      rotate_left
      · simp only [Act.put, s1, s2, s3, i64_w, i32_w]; rfl
      refine pure_ (i := 23) (N := some 30) (v := ?_) (a' := ?_) q12_23 rfl rfl (any_of HT_.out (by kernel_rfl)) (fun _ _ _ h => h) (Or.inl ⟨by rfl, ?_⟩) ?_ ?_; rotate_left
      · intro w'; go_simp; with_reducible rfl
      rotate_left
      · simp only [Act.put, s1, s2, s3, i64_w, i32_w]; rfl
      refine take_ (i := 22) (N := some 29) (v := ?_) (a' := ?_) q12_24 rfl rfl (take_ofW HT_.out HW_.out (by kernel_rfl)) (fun _ _ _ h => h) (Or.inl ⟨by rfl, ?_⟩) hHeld ?_ ?_; rotate_left
      · rintro w' ⟨s0, s1, s2, s3, s4, s5, s6, s7, s8, s9, s10, s11, s12, s13, s14, s15, s16⟩; go_simp; with_reducible rfl
      rotate_left
      · simp only [Act.put, s1, s2, s3, i64_w, i32_w]; rfl
      refine take_ (i := 24) (N := some 31) (v := ?_) (a' := ?_) q12_25 rfl rfl (take_ofW HT_.out HW_.out (by kernel_rfl)) (fun _ _ _ h => h) (Or.inl ⟨by rfl, ?_⟩) hHeld ?_ ?_; rotate_left
      · rintro w' ⟨s0, s1, s2, s3, s4, s5, s6, s7, s8, s9, s10, s11, s12, s13, s14, s15, s16⟩; go_simp; with_reducible rfl
      rotate_left
      · simp only [Act.put, s1, s2, s3, i64_w, i32_w]; rfl
      refine pure_ (i := 25) (N := some 32) (v := ?_) (a' := ?_) q12_26 rfl rfl (any_of HT_.out (by kernel_rfl)) (fun _ _ _ h => h) (Or.inl ⟨by rfl, ?_⟩) ?_ ?_; rotate_left
      · intro w'; go_simp; with_reducible rfl
      rotate_left
      · simp only [Act.put, s1, s2, s3, i64_w, i32_w]; rfl
      refine pure_ (i := 26) (N := some 33) (v := ?_) (a' := ?_) q12_27 rfl rfl (any_of HT_.out (by kernel_rfl)) (fun _ _ _ h => h) (Or.inl ⟨by rfl, ?_⟩) ?_ ?_; rotate_left
      · intro w'; go_simp; with_reducible rfl
      rotate_left
      · simp only [Act.put, s1, s2, s3, i64_w, i32_w]; rfl
      refine pure_ (i := 27) (N := some 34) (v := ?_) (a' := ?_) q12_28 rfl rfl (any_of HT_.out (by kernel_rfl)) (fun _ _ _ h => h) (Or.inl ⟨by rfl, ?_⟩) ?_ ?_; rotate_left
      · intro w'; go_simp; with_reducible rfl
      rotate_left
      · simp only [Act.put, s1, s2, s3, i64_w, i32_w]; rfl
      refine pure_ (i := 28) (N := some 35) (v := ?_) (a' := ?_) q12_29 rfl rfl (any_of HT_.out (by kernel_rfl)) (fun _ _ _ h => h) (Or.inl ⟨by rfl, ?_⟩) ?_ ?_; rotate_left
      · intro w'; go_simp; with_reducible rfl
      rotate_left
      · simp only [Act.put, s1, s2, s3, i64_w, i32_w]; rfl
      refine pure_ (i := 31) (N := some 38) (v := ?_) (a' := ?_) q12_30 rfl rfl (any_of HT_.out (by kernel_rfl)) (fun _ _ _ h => h) (Or.inl ⟨by rfl, ?_⟩) ?_ ?_; rotate_left
      · intro w'; go_simp; with_reducible rfl
      rotate_left
      · simp only [Act.put, s1, s2, s3, i64_w, i32_w]; rfl
      refine take_ (i := 29) (N := some 36) (v := ?_) (a' := ?_) q12_31 rfl rfl (take_ofW HT_.out HW_.out (by kernel_rfl)) (fun _ _ _ h => h) (Or.inl ⟨by rfl, ?_⟩) hHeld ?_ ?_; rotate_left
      · rintro w' ⟨s0, s1, s2, s3, s4, s5, s6, s7, s8, s9, s10, s11, s12, s13, s14, s15, s16⟩; go_simp; with_reducible rfl
      rotate_left
      · simp only [Act.put, s1, s2, s3, i64_w, i32_w]; rfl
      refine pure_ (i := 30) (N := some 37) (v := ?_) (a' := ?_) q12_32 rfl rfl (any_of HT_.out (by kernel_rfl)) (fun _ _ _ h => h) (Or.inl ⟨by rfl, ?_⟩) ?_ ?_; rotate_left
      · intro w'; go_simp; with_reducible rfl
      rotate_left
      · simp only [Act.put, s1, s2, s3, i64_w, i32_w]; rfl
      refine take_ (i := 32) (N := some 39) (v := ?_) (a' := ?_) q12_33 rfl rfl (take_ofW HT_.out HW_.out (by kernel_rfl)) (fun _ _ _ h => h) (Or.inl ⟨by rfl, ?_⟩) hHeld ?_ ?_; rotate_left
      · rintro w' ⟨s0, s1, s2, s3, s4, s5, s6, s7, s8, s9, s10, s11, s12, s13, s14, s15, s16⟩; go_simp; with_reducible rfl
      rotate_left
      · simp only [Act.put, s1, s2, s3, i64_w, i32_w]; rfl
      refine pure_ (i := 33) (N := some 40) (v := ?_) (a' := ?_) q12_34 rfl rfl (any_of HT_.out (by kernel_rfl)) (fun _ _ _ h => h) (Or.inl ⟨by rfl, ?_⟩) ?_ ?_; rotate_left
      · intro w'; go_simp; with_reducible rfl
      rotate_left
      · simp only [Act.put, s1, s2, s3, i64_w, i32_w]; rfl
      refine pure_ (i := 34) (N := some 41) (v := ?_) (a' := ?_) q12_35 rfl rfl (any_of HT_.out (by kernel_rfl)) (fun _ _ _ h => h) (Or.inl ⟨by rfl, ?_⟩) ?_ ?_; rotate_left
      · intro w'; go_simp; with_reducible rfl
      rotate_left
      · simp only [Act.put, s1, s2, s3, i64_w, i32_w]; rfl
      refine pure_ (i := 35) (N := some 42) (v := ?_) (a' := ?_) q12_36 rfl rfl (any_of HT_.out (by kernel_rfl)) (fun _ _ _ h => h) (Or.inl ⟨by rfl, ?_⟩) ?_ ?_; rotate_left
      · intro w'; go_simp; with_reducible rfl
      rotate_left
      · simp only [Act.put, s1, s2, s3, i64_w, i32_w]; rfl
      refine pure_ (i := 36) (N := some 43) (v := ?_) (a' := ?_) q12_37 rfl rfl (any_of HT_.out (by kernel_rfl)) (fun _ _ _ h => h) (Or.inl ⟨by rfl, ?_⟩) ?_ ?_; rotate_left
      · intro w'; go_simp; with_reducible rfl
      rotate_left
      · simp only [Act.put, s1, s2, s3, i64_w, i32_w]; rfl
      refine pure_ (i := 37) (N := some 44) (v := ?_) (a' := ?_) q12_38 rfl rfl (any_of HT_.out (by kernel_rfl)) (fun _ _ _ h => h) (Or.inl ⟨by rfl, ?_⟩) ?_ ?_; rotate_left
      · intro w'; go_simp; with_reducible rfl
      rotate_left
      · simp only [Act.put, s1, s2, s3, i64_w, i32_w]; rfl
      refine pure_ (i := 40) (N := some 47) (v := ?_) (a' := ?_) q12_39 rfl rfl (any_of HT_.out (by kernel_rfl)) (fun _ _ _ h => h) (Or.inl ⟨by rfl, ?_⟩) ?_ ?_; rotate_left
      · intro w'; go_simp; with_reducible rfl
      rotate_left
      · simp only [Act.put, s1, s2, s3, i64_w, i32_w]; rfl
      refine take_ (i := 38) (N := some 45) (v := ?_) (a' := ?_) q12_40 rfl rfl (take_ofW HT_.out HW_.out (by kernel_rfl)) (fun _ _ _ h => h) (Or.inl ⟨by rfl, ?_⟩) hHeld ?_ ?_; rotate_left
      · rintro w' ⟨s0, s1, s2, s3, s4, s5, s6, s7, s8, s9, s10, s11, s12, s13, s14, s15, s16⟩; go_simp; with_reducible rfl
      rotate_left
      · simp only [Act.put, s1, s2, s3, i64_w, i32_w]; rfl
      refine pure_ (i := 39) (N := some 46) (v := ?_) (a' := ?_) q12_41 rfl rfl (any_of HT_.out (by kernel_rfl)) (fun _ _ _ h => h) (Or.inl ⟨by rfl, ?_⟩) ?_ ?_; rotate_left
      · intro w'; go_simp; with_reducible rfl
      rotate_left
      · simp only [Act.put, s1, s2, s3, i64_w, i32_w]; rfl
      refine take_ (i := 41) (N := some 48) (v := ?_) (a' := ?_) q12_42 rfl rfl (take_ofW HT_.out HW_.out (by kernel_rfl)) (fun _ _ _ h => h) (Or.inl ⟨by rfl, ?_⟩) hHeld ?_ ?_; rotate_left
      · rintro w' ⟨s0, s1, s2, s3, s4, s5, s6, s7, s8, s9, s10, s11, s12, s13, s14, s15, s16⟩; go_simp; with_reducible rfl
      rotate_left
      · simp only [Act.put, s1, s2, s3, i64_w, i32_w]; rfl
      refine pure_ (i := 42) (N := some 49) (v := ?_) (a' := ?_) q12_43 rfl rfl (any_of HT_.out (by kernel_rfl)) (fun _ _ _ h => h) (Or.inl ⟨by rfl, ?_⟩) ?_ ?_; rotate_left
      · intro w'; go_simp; with_reducible rfl
      rotate_left
      · simp only [Act.put, s1, s2, s3, i64_w, i32_w]; rfl
      refine pure_ (i := 43) (N := some 50) (v := ?_) (a' := ?_) q12_44 rfl rfl (any_of HT_.out (by kernel_rfl)) (fun _ _ _ h => h) (Or.inl ⟨by rfl, ?_⟩) ?_ ?_; rotate_left
      · intro w'; go_simp; with_reducible rfl
      rotate_left
      · simp only [Act.put, s1, s2, s3, i64_w, i32_w]; rfl
      refine pure_ (i := 44) (N := some 51) (v := ?_) (a' := ?_) q12_45 rfl rfl (any_of HT_.out (by kernel_rfl)) (fun _ _ _ h => h) (Or.inl ⟨by rfl, ?_⟩) ?_ ?_; rotate_left
      · intro w'; go_simp; with_reducible rfl
      rotate_left
      · simp only [Act.put, s1, s2, s3, i64_w, i32_w]; rfl
      refine pure_ (i := 45) (N := some 52) (v := ?_) (a' := ?_) q12_46 rfl rfl (any_of HT_.out (by kernel_rfl)) (fun _ _ _ h => h) (Or.inl ⟨by rfl, ?_⟩) ?_ ?_; rotate_left
      · intro w'; go_simp; with_reducible rfl
      rotate_left
      · simp only [Act.put, s1, s2, s3, i64_w, i32_w]; rfl
      refine pure_ (i := 46) (N := some 53) (v := ?_) (a' := ?_) q12_47 rfl rfl (any_of HT_.out (by kernel_rfl)) (fun _ _ _ h => h) (Or.inl ⟨by rfl, ?_⟩) ?_ ?_; rotate_left
      · intro w'; go_simp; with_reducible rfl
      rotate_left
      · simp only [Act.put, s1, s2, s3, i64_w, i32_w]; rfl
      refine pure_ (i := 49) (N := some 56) (v := ?_) (a' := ?_) q12_48 rfl rfl (any_of HT_.out (by kernel_rfl)) (fun _ _ _ h => h) (Or.inl ⟨by rfl, ?_⟩) ?_ ?_; rotate_left
      · intro w'; go_simp; with_reducible rfl
      rotate_left
      · simp only [Act.put, s1, s2, s3, i64_w, i32_w]; rfl
      refine take_ (i := 47) (N := some 54) (v := ?_) (a' := ?_) q12_49 rfl rfl (take_ofW HT_.out HW_.out (by kernel_rfl)) (fun _ _ _ h => h) (Or.inl ⟨by rfl, ?_⟩) hHeld ?_ ?_; rotate_left
      · rintro w' ⟨s0, s1, s2, s3, s4, s5, s6, s7, s8, s9, s10, s11, s12, s13, s14, s15, s16⟩; go_simp; with_reducible rfl
      rotate_left
      · simp only [Act.put, s1, s2, s3, i64_w, i32_w]; rfl
      refine pure_ (i := 48) (N := some 55) (v := ?_) (a' := ?_) q12_50 rfl rfl (any_of HT_.out (by kernel_rfl)) (fun _ _ _ h => h) (Or.inl ⟨by rfl, ?_⟩) ?_ ?_; rotate_left
      · intro w'; go_simp; with_reducible rfl
      rotate_left
      · simp only [Act.put, s1, s2, s3, i64_w, i32_w]; rfl
      refine take_ (i := 50) (N := some 57) (v := ?_) (a' := ?_) q12_51 rfl rfl (take_ofW HT_.out HW_.out (by kernel_rfl)) (fun _ _ _ h => h) (Or.inl ⟨by rfl, ?_⟩) hHeld ?_ ?_; rotate_left
      · rintro w' ⟨s0, s1, s2, s3, s4, s5, s6, s7, s8, s9, s10, s11, s12, s13, s14, s15, s16⟩; go_simp; with_reducible rfl
      rotate_left
      · simp only [Act.put, s1, s2, s3, i64_w, i32_w]; rfl
      refine pure_ (i := 51) (N := some 58) (v := ?_) (a' := ?_) q12_52 rfl rfl (any_of HT_.out (by kernel_rfl)) (fun _ _ _ h => h) (Or.inl ⟨by rfl, ?_⟩) ?_ ?_; rotate_left
      · intro w'; go_simp; with_reducible rfl
      rotate_left
      · simp only [Act.put, s1, s2, s3, i64_w, i32_w]; rfl
      refine pure_ (i := 52) (N := some 59) (v := ?_) (a' := ?_) q12_53 rfl rfl (any_of HT_.out (by kernel_rfl)) (fun _ _ _ h => h) (Or.inl ⟨by rfl, ?_⟩) ?_ ?_; rotate_left
      · intro w'; go_simp; with_reducible rfl
      rotate_left
      · simp only [Act.put, s1, s2, s3, i64_w, i32_w]; rfl
      refine pure_ (i := 53) (N := some 60) (v := ?_) (a' := ?_) q12_54 rfl rfl (any_of HT_.out (by kernel_rfl)) (fun _ _ _ h => h) (Or.inl ⟨by rfl, ?_⟩) ?_ ?_; rotate_left
      · intro w'; go_simp; with_reducible rfl
      rotate_left
      · simp only [Act.put, s1, s2, s3, i64_w, i32_w]; rfl
      refine done_ (done_of HT_.out (by kernel_rfl)) ?_; try go_wp2
      go_meet
      case rel => exact ⟨_, (((l0_8.length : Int) != (l1_6.length : Int))), (by first | rfl | (simp; done) | (simp [*]; done)), H', ⟨by first | omega | exact Nat.le_refl _⟩, ⟨by (with_reducible repeat (first | refine bN ?_ _ | refine bD ?_ | refine bA ?_ _)); exact BK331.out⟩, ⟨by (with_reducible repeat (first | refine bN ?_ _ | refine bD ?_ | refine bA ?_ _)); exact BK332.out⟩, ⟨by repeat (first | (with_reducible first | exact HB.out | apply wA | apply wN | apply wD | refine wS ?_ GE331.out | refine wS ?_ GE332.out) | exact HB.out)⟩⟩
     rw [if_neg c16] at H; exact absurd hrt (j0_no H)
    rw [if_neg c15] at H; exact absurd hrt (j0_no H)
   rw [if_neg c7] at H; exact absurd hrt (j0_no H)
  rw [if_neg c6] at H
  exact absurd hrt (j0_no H)
 case rest =>
  clear HC3
  try clear c1
  try clear p2
  try clear c6
  try clear c6b0
  try clear c6b1
  obtain ⟨kq, x60_2, rfl, HA, HJ2, BK331, BK332, HB⟩ := hcut
  cases kq with
  | zero => exact absurd HA.out (by simp [rundlelaw08_Same.j0])
  | succ kj2 =>
   have H := HA.out; clear HA; simp only [rundlelaw08_Same.j0] at H; by_cases c25 : x60_2 = true
   ·
    subst c25; have H1 : (some 0) = some r := by rw [if_pos rfl] at H; exact H
    clear H; have H := H1; clear H1; obtain rfl := Option.some.inj H; go_wp2
    go_ret; exact ⟨by first | rfl | (simp [errW_none, errW_some] <;> rfl) | (simp [*, errW_none, errW_some] <;> rfl), by repeat (first | (with_reducible first | exact HB.out | apply wA | apply wN | apply wD | refine wS ?_ GE331.out | refine wS ?_ GE332.out) | exact HB.out)⟩
   replace c25 := Bool.eq_false_iff.mpr c25; subst c25; have H1 : (rundlelaw08_Same.l0 kj2 ([] : List ByteArray) 0 a0_0 a0_1 a0_2 a0_3 a0_4 a0_5 l0_6 l0_7 l0_8 l0_9 a1_0 a1_1 a1_2 a1_3 a1_4 a1_5 l1_6) = some r := by rw [if_neg (show ¬ (false = true) by decide)] at H; exact H
   clear H; have H := H1; clear H1; have H' := K0 H; clear H; go_wp2
   go_loopg [5, 6] kj2 (fun kq v5 v6 w' => ∃ (x5_2 : List ByteArray) (x6_2 : Int), v6 = .int .i64 x6_2 ∧ Aside0 (rundlelaw08_Same.l0 kq x5_2 x6_2 a0_0 a0_1 a0_2 a0_3 a0_4 a0_5 l0_6 l0_7 l0_8 l0_9 a1_0 a1_1 a1_2 a1_3 a1_4 a1_5 l1_6 = some r) ∧ Aside0 (kq ≤ kj2) ∧ Aside0 (Kd.R Kd.string 9 w' w.heap.size (fun _ => True) v5 x5_2) ∧ Aside0 (w'.heap[gb331]? = some (.cells #[.int .i64 a0_0, .int .i64 a0_1, .string a0_2, .string a0_3, .bool a0_4, .bool a0_5, (.slice A0_6 l0_6.length c0_6), (.slice A0_7 l0_7.length c0_7), (.slice A0_8 l0_8.length c0_8), (.slice A0_9 l0_9.length c0_9)] 37 (0, 0))) ∧ Aside0 (w'.heap[gb332]? = some (.cells #[.int .i64 a1_0, .int .i64 a1_1, .string a1_2, .string a1_3, .bool a1_4, .bool a1_5, (.slice A1_6 l1_6.length c1_6)] 29 (0, 0))) ∧ Aside0 (Below w.heap.size w w'))
   case atStart => exact ⟨(([] : List ByteArray)), (0), (by first | rfl | (simp; done) | (simp [*]; done)), H', ⟨Nat.le_refl _⟩, ⟨by first | exact Kd.R_nil _ _ _ _ _ | exact Kd.N_nil _ _ _ _ _ | exact Kd.V_nil _ _ _ _ _ | exact Kd.Q_nil _ _ _ _ _ | exact Kd.S_nil _ _ _ _ _⟩, ⟨by (with_reducible repeat (first | refine bN ?_ _ | refine bD ?_ | refine bA ?_ _)); exact BK331.out⟩, ⟨by (with_reducible repeat (first | refine bN ?_ _ | refine bD ?_ | refine bA ?_ _)); exact BK332.out⟩, ⟨by repeat (first | (with_reducible first | exact HB.out | apply wA | apply wN | apply wD | refine wS ?_ GE331.out | refine wS ?_ GE332.out) | exact HB.out)⟩⟩
   case round =>
    clear H'; try clear c1
    try clear c2
    try clear p2
    try clear c6
    try clear c6b0
    try clear c6b1
    try clear c25
    try clear p2
    obtain ⟨x5_2, x6_2, rfl, HA, HK2, HO_5, BK331, BK332, HB⟩ := hrel
    cases gk with
    | zero => exact absurd HA.out (by simp [rundlelaw08_Same.l0])
    | succ k2 =>
     have H := HA.out; clear HA; simp only [rundlelaw08_Same.l0] at H; by_cases c26 : x6_2 < (l1_6.length : Int)
     ·
      rw [if_pos c26] at H; have c26b0 : decide (x6_2 < (l1_6.length : Int)) = true := dT c26; clear c26; by_cases c27 : 0 ≤ x6_2
      ·
       rw [if_pos c27] at H; have c27b0 : decide (0 ≤ x6_2) = true := dT c27; clear c27; by_cases c28 : x6_2 < (l0_6.length : Int)
       ·
        rw [if_pos c28] at H; have c28b0 : decide (x6_2 < (l0_6.length : Int)) = true := dT c28; clear c28; by_cases c29 : (rdOf ByteArray.empty l0_6 x6_2).toList = ((rd_T62 l1_6 x6_2).f0).toList
        ·
         rw [if_pos c29] at H; have c29b0 : ((rdOf ByteArray.empty l0_6 x6_2).toList == ((rd_T62 l1_6 x6_2).f0).toList) = true := beq_iff_eq.mpr c29; have c29b1 : ((rdOf ByteArray.empty l0_6 x6_2).toList != ((rd_T62 l1_6 x6_2).f0).toList) = false := bne_eq_false_iff_eq.mpr c29; clear c29; by_cases c30 : x6_2 < (l0_7.length : Int)
         ·
          rw [if_pos c30] at H; have c30b0 : decide (x6_2 < (l0_7.length : Int)) = true := dT c30; clear c30; by_cases c31 : (rdOf ByteArray.empty l0_7 x6_2).toList = ((rd_T62 l1_6 x6_2).f1).toList
          ·
           rw [if_pos c31] at H; have c31b0 : ((rdOf ByteArray.empty l0_7 x6_2).toList == ((rd_T62 l1_6 x6_2).f1).toList) = true := beq_iff_eq.mpr c31; have c31b1 : ((rdOf ByteArray.empty l0_7 x6_2).toList != ((rd_T62 l1_6 x6_2).f1).toList) = false := bne_eq_false_iff_eq.mpr c31; clear c31; by_cases c32 : x6_2 < (l0_8.length : Int)
           ·
            rw [if_pos c32] at H; have c32b0 : decide (x6_2 < (l0_8.length : Int)) = true := dT c32; clear c32; by_cases c33 : ((rdOf false l0_8 x6_2) != ((rd_T62 l1_6 x6_2).f2)) = true
            · rw [if_pos c33] at H; exact absurd ((Option.some.inj H).trans hrt) (by decide)
            rw [if_neg c33] at H; have c33b0 : ((rdOf false l0_8 x6_2) != ((rd_T62 l1_6 x6_2).f2)) = false := by simpa using c33
            (try (have c33b1 : decide ((rdOf false l0_8 x6_2) = ((rd_T62 l1_6 x6_2).f2)) = true := by simpa using c33))
            (try (have c33b2 : ((rdOf false l0_8 x6_2) == ((rd_T62 l1_6 x6_2).f2)) = true := by simpa using c33))
            clear c33; by_cases c37 : x5_2.length < 8796093022208
            ·
             rw [if_pos c37] at H; have LMc37 := K0 c37; clear c37; obtain ⟨y343, hy343⟩ : ∃ y_ : List ByteArray, y_ = (x5_2 ++ [(rd_T62 l1_6 x6_2).f0]) := ⟨_, rfl⟩; replace H : (rundlelaw08_Same.l0 k2 y343 (wrap64 (x6_2 + 1)) a0_0 a0_1 a0_2 a0_3 a0_4 a0_5 l0_6 l0_7 l0_8 l0_9 a1_0 a1_1 a1_2 a1_3 a1_4 a1_5 l1_6) = some r := by first | (rw [hy343]; with_reducible exact H) | (have H2_ := (Option.bind_some _ _).symm.trans H; rw [hy343]; with_reducible exact H2_) | (have H2_ := (Option.bind_some _ _).symm.trans H; with_reducible exact H2_) | with_reducible exact H | (rw [hy343]; exact H) | exact H
             have Ny343 := K0 hy343; clear hy343; have H' := K0 H; clear H; have hnb38 := NB332_331.out; have hnc38 := NB331_332.out; have hcz39_0 : wr.cell? ⟨gb332, 0, none⟩ = some (.int .i64 a1_0) := (bC BK332.out 0).trans rfl; have hcz39_1 : wr.cell? ⟨gb332, 1, none⟩ = some (.int .i64 a1_1) := (bC BK332.out 1).trans rfl; have hcz39_2 : wr.cell? ⟨gb332, 2, none⟩ = some (.string a1_2) := (bC BK332.out 2).trans rfl; have hcz39_3 : wr.cell? ⟨gb332, 3, none⟩ = some (.string a1_3) := (bC BK332.out 3).trans rfl; have hcz39_4 : wr.cell? ⟨gb332, 4, none⟩ = some (.bool a1_4) := (bC BK332.out 4).trans rfl; have hcz39_5 : wr.cell? ⟨gb332, 5, none⟩ = some (.bool a1_5) := (bC BK332.out 5).trans rfl; have hcz39_6 : wr.cell? ⟨gb332, 6, none⟩ = some (.slice A1_6 l1_6.length c1_6) := (bC BK332.out 6).trans rfl; have hfz39_0 := bF BK332.out 0; have hfz39_1 := bF BK332.out 1; have hfz39_2 := bF BK332.out 2; have hfz39_3 := bF BK332.out 3; have hfz39_4 := bF BK332.out 4; have hfz39_5 := bF BK332.out 5; have hfz39_6 := bF BK332.out 6; try go_wp2
             have n0_ := K0 (rD HO_5.out); have n1_ := K0 (bD BK331.out); have n2_ := K0 (bD BK332.out); have n3_ := K0 (wD HB.out); clear HO_5 BK331 BK332 HB; have HO_5 := n0_; have BK331 := n1_; have BK332 := n2_; have HB := n3_; clear n0_ n1_ n2_ n3_; have p336 : 0 ≤ (x6_2 : Int) := oT (by first | (with_reducible assumption) | assumption); have q336 : x6_2 < (l0_6.length : Int) := oT (by first | (with_reducible assumption) | assumption); obtain ⟨ad336, e336, hx336_0⟩ := Kd.at_string HR0_6.out x6_2 p336 q336; have hw336_0 := hx336_0
             cases e336; replace hx336_0 := (HB.out.cell (bL w _ hx336_0)).trans hx336_0; replace p336 := eq_true p336; replace q336 := eq_true q336; have p337 : 0 ≤ (x6_2 : Int) := oT (by first | (with_reducible assumption) | assumption); have q337 : x6_2 < (l1_6.length : Int) := oT (by first | (with_reducible assumption) | assumption); obtain ⟨ad337, e337, hx337_0, hx337_1, hx337_2⟩ := at_T62 HR1_6.out x6_2 p337 q337; have hw337_2 := hx337_2; have hw337_1 := hx337_1; have hw337_0 := hx337_0
             cases e337; replace hx337_0 := (HB.out.cell (bL w _ hx337_0)).trans hx337_0; replace hx337_1 := (HB.out.cell (bL w _ hx337_1)).trans hx337_1; replace hx337_2 := (HB.out.cell (bL w _ hx337_2)).trans hx337_2; replace p337 := eq_true p337; replace q337 := eq_true q337; have p338 : 0 ≤ (x6_2 : Int) := oT (by first | (with_reducible assumption) | assumption); have q338 : x6_2 < (l0_7.length : Int) := oT (by first | (with_reducible assumption) | assumption); obtain ⟨ad338, e338, hx338_0⟩ := Kd.at_string HR0_7.out x6_2 p338 q338; have hw338_0 := hx338_0
             cases e338; replace hx338_0 := (HB.out.cell (bL w _ hx338_0)).trans hx338_0; replace p338 := eq_true p338; replace q338 := eq_true q338; have p339 : 0 ≤ (x6_2 : Int) := oT (by first | (with_reducible assumption) | assumption); have q339 : x6_2 < (l1_6.length : Int) := oT (by first | (with_reducible assumption) | assumption); obtain ⟨ad339, e339, hx339_0, hx339_1, hx339_2⟩ := at_T62 HR1_6.out x6_2 p339 q339; have hw339_2 := hx339_2; have hw339_1 := hx339_1; have hw339_0 := hx339_0; obtain rfl : ad337 = ad339 := (by injection e339); replace hx339_0 := (HB.out.cell (bL w _ hx339_0)).trans hx339_0; replace hx339_1 := (HB.out.cell (bL w _ hx339_1)).trans hx339_1; replace hx339_2 := (HB.out.cell (bL w _ hx339_2)).trans hx339_2; replace p339 := eq_true p339; replace q339 := eq_true q339; have p340 : 0 ≤ (x6_2 : Int) := oT (by first | (with_reducible assumption) | assumption); have q340 : x6_2 < (l0_8.length : Int) := oT (by first | (with_reducible assumption) | assumption); obtain ⟨ad340, e340, hx340_0⟩ := Kd.at_bool HR0_8.out x6_2 p340 q340; have hw340_0 := hx340_0
             cases e340; replace hx340_0 := (HB.out.cell (bL w _ hx340_0)).trans hx340_0; replace p340 := eq_true p340; replace q340 := eq_true q340; have p341 : 0 ≤ (x6_2 : Int) := oT (by first | (with_reducible assumption) | assumption); have q341 : x6_2 < (l1_6.length : Int) := oT (by first | (with_reducible assumption) | assumption); obtain ⟨ad341, e341, hx341_0, hx341_1, hx341_2⟩ := at_T62 HR1_6.out x6_2 p341 q341; have hw341_2 := hx341_2; have hw341_1 := hx341_1; have hw341_0 := hx341_0; obtain rfl : ad337 = ad341 := (by injection e341); replace hx341_0 := (HB.out.cell (bL w _ hx341_0)).trans hx341_0; replace hx341_1 := (HB.out.cell (bL w _ hx341_1)).trans hx341_1; replace hx341_2 := (HB.out.cell (bL w _ hx341_2)).trans hx341_2; replace p341 := eq_true p341; replace q341 := eq_true q341; refine start_ (n := 40) (S := fun w' => w'.cell? ⟨gb331, 0, none⟩ = some (.int .i64 a0_0) ∧ w'.cell? ⟨gb331, 1, none⟩ = some (.int .i64 a0_1) ∧ w'.cell? ⟨gb331, 2, none⟩ = some (.string a0_2) ∧ w'.cell? ⟨gb331, 3, none⟩ = some (.string a0_3) ∧ w'.cell? ⟨gb331, 4, none⟩ = some (.bool a0_4) ∧ w'.cell? ⟨gb331, 5, none⟩ = some (.bool a0_5) ∧ w'.cell? ⟨gb331, 6, none⟩ = some (.slice (some ad336) l0_6.length c0_6) ∧ w'.cell? ⟨gb331, 7, none⟩ = some (.slice (some ad338) l0_7.length c0_7) ∧ w'.cell? ⟨gb331, 8, none⟩ = some (.slice (some ad340) l0_8.length c0_8) ∧ w'.cell? ⟨gb331, 9, none⟩ = some (.slice A0_9 l0_9.length c0_9) ∧ w'.cell? ⟨gb332, 0, none⟩ = some (.int .i64 a1_0) ∧ w'.cell? ⟨gb332, 1, none⟩ = some (.int .i64 a1_1) ∧ w'.cell? ⟨gb332, 2, none⟩ = some (.string a1_2) ∧ w'.cell? ⟨gb332, 3, none⟩ = some (.string a1_3) ∧ w'.cell? ⟨gb332, 4, none⟩ = some (.bool a1_4) ∧ w'.cell? ⟨gb332, 5, none⟩ = some (.bool a1_5) ∧ w'.cell? ⟨gb332, 6, none⟩ = some (.slice (some ad337) l1_6.length c1_6) ∧ w'.cell? (ad336.add (x6_2).toNat) = some (.string (rdOf ByteArray.empty l0_6 x6_2)) ∧ w'.cell? (ad337.add ((x6_2).toNat * 3)) = some (.string ((rd_T62 l1_6 x6_2).f0)) ∧ w'.cell? ⟨(ad337.add ((x6_2).toNat * 3)).block, (ad337.add ((x6_2).toNat * 3)).off + 1, none⟩ = some (.string ((rd_T62 l1_6 x6_2).f1)) ∧ w'.cell? ⟨(ad337.add ((x6_2).toNat * 3)).block, (ad337.add ((x6_2).toNat * 3)).off + 2, none⟩ = some (.bool ((rd_T62 l1_6 x6_2).f2)) ∧ w'.cell? (ad338.add (x6_2).toNat) = some (.string (rdOf ByteArray.empty l0_7 x6_2)) ∧ w'.cell? (ad337.add ((x6_2).toNat * 3)) = some (.string ((rd_T62 l1_6 x6_2).f0)) ∧ w'.cell? ⟨(ad337.add ((x6_2).toNat * 3)).block, (ad337.add ((x6_2).toNat * 3)).off + 1, none⟩ = some (.string ((rd_T62 l1_6 x6_2).f1)) ∧ w'.cell? ⟨(ad337.add ((x6_2).toNat * 3)).block, (ad337.add ((x6_2).toNat * 3)).off + 2, none⟩ = some (.bool ((rd_T62 l1_6 x6_2).f2)) ∧ w'.cell? (ad340.add (x6_2).toNat) = some (.bool (rdOf false l0_8 x6_2)) ∧ w'.cell? (ad337.add ((x6_2).toNat * 3)) = some (.string ((rd_T62 l1_6 x6_2).f0)) ∧ w'.cell? ⟨(ad337.add ((x6_2).toNat * 3)).block, (ad337.add ((x6_2).toNat * 3)).off + 1, none⟩ = some (.string ((rd_T62 l1_6 x6_2).f1)) ∧ w'.cell? ⟨(ad337.add ((x6_2).toNat * 3)).block, (ad337.add ((x6_2).toNat * 3)).off + 2, none⟩ = some (.bool ((rd_T62 l1_6 x6_2).f2))) (ds := []) q12_55 (by kernel_rfl) rfl rfl ⟨(bC BK331.out 0).trans rfl, (bC BK331.out 1).trans rfl, (bC BK331.out 2).trans rfl, (bC BK331.out 3).trans rfl, (bC BK331.out 4).trans rfl, (bC BK331.out 5).trans rfl, (bC BK331.out 6).trans rfl, (bC BK331.out 7).trans rfl, (bC BK331.out 8).trans rfl, (bC BK331.out 9).trans rfl, (bC BK332.out 0).trans rfl, (bC BK332.out 1).trans rfl, (bC BK332.out 2).trans rfl, (bC BK332.out 3).trans rfl, (bC BK332.out 4).trans rfl, (bC BK332.out 5).trans rfl, (bC BK332.out 6).trans rfl, ((HB.out.cell (bL w _ hw336_0)).trans hw336_0), ((HB.out.cell (bL w _ hw337_0)).trans hw337_0), ((HB.out.cell (bL w _ hw337_1)).trans hw337_1), ((HB.out.cell (bL w _ hw337_2)).trans hw337_2), ((HB.out.cell (bL w _ hw338_0)).trans hw338_0), ((HB.out.cell (bL w _ hw339_0)).trans hw339_0), ((HB.out.cell (bL w _ hw339_1)).trans hw339_1), ((HB.out.cell (bL w _ hw339_2)).trans hw339_2), ((HB.out.cell (bL w _ hw340_0)).trans hw340_0), ((HB.out.cell (bL w _ hw341_0)).trans hw341_0), ((HB.out.cell (bL w _ hw341_1)).trans hw341_1), ((HB.out.cell (bL w _ hw341_2)).trans hw341_2)⟩ (fun hHeld => ?_); refine with_tabW rundlelaw08_Same.tab7 rundlelaw08_Same.bits7 (fun HT_ HW_ => ?_)
             generalize wr.drew = w40 at HO_5 BK331 BK332 HB hx336_0 hx337_0 hx337_1 hx337_2 hx338_0 hx339_0 hx339_1 hx339_2 hx340_0 hx341_0 hx341_1 hx341_2 hHeld ⊢; refine pure_ (i := 0) (N := some 68) (v := ?_) (a' := ?_) q12_56 rfl rfl (any_of HT_.out (by kernel_rfl)) (fun _ _ _ h => h) (Or.inl ⟨by rfl, ?_⟩) ?_ ?_; rotate_left
             · intro w'; go_simp; with_reducible rfl
             rotate_left
             · simp only [Act.put, s1, s2, s3, i64_w, i32_w]; rfl
             refine pure_ (i := 2) (N := some 70) (v := ?_) (a' := ?_) q12_57 rfl rfl (any_of HT_.out (by kernel_rfl)) (fun _ _ _ h => h) (Or.inl ⟨by rfl, ?_⟩) ?_ ?_; rotate_left
             · intro w'; go_simp; with_reducible rfl
             rotate_left
             · simp only [Act.put, s1, s2, s3, i64_w, i32_w]; rfl
             refine pure_ (i := 5) (N := some 73) (v := ?_) (a' := ?_) q12_58 rfl rfl (any_of HT_.out (by kernel_rfl)) (fun _ _ _ h => h) (Or.inl ⟨by rfl, ?_⟩) ?_ ?_; rotate_left
             · intro w'; go_simp; with_reducible rfl
             rotate_left
             · simp only [Act.put, s1, s2, s3, i64_w, i32_w]; rfl
             refine pure_ (i := 7) (N := some 75) (v := ?_) (a' := ?_) q12_59 rfl rfl (any_of HT_.out (by kernel_rfl)) (fun _ _ _ h => h) (Or.inl ⟨by rfl, ?_⟩) ?_ ?_; rotate_left
             · intro w'; go_simp; with_reducible rfl
             rotate_left
             · simp only [Act.put, s1, s2, s3, i64_w, i32_w]; rfl
             refine take_ (i := 1) (N := some 69) (v := ?_) (a' := ?_) q12_60 rfl rfl (take_ofW HT_.out HW_.out (by kernel_rfl)) (fun _ _ _ h => h) (Or.inl ⟨by rfl, ?_⟩) hHeld ?_ ?_; rotate_left
             · rintro w' ⟨s0, s1, s2, s3, s4, s5, s6, s7, s8, s9, s10, s11, s12, s13, s14, s15, s16, s17, s18, s19, s20, s21, s22, s23, s24, s25, s26, s27, s28⟩; go_simp; with_reducible rfl
             rotate_left
             · simp only [Act.put, s1, s2, s3, i64_w, i32_w]; rfl
             refine pure_ (i := 3) (N := some 71) (v := ?_) (a' := ?_) q12_61 rfl rfl (any_of HT_.out (by kernel_rfl)) (fun _ _ _ h => h) (Or.inl ⟨by rfl, ?_⟩) ?_ ?_; rotate_left
             · intro w'; go_simp; with_reducible rfl
             rotate_left
             · simp only [Act.put, s1, s2, s3, i64_w, i32_w]; rfl
             refine take_ (i := 4) (N := some 72) (v := ?_) (a' := ?_) q12_62 rfl rfl (take_ofW HT_.out HW_.out (by kernel_rfl)) (fun _ _ _ h => h) (Or.inl ⟨by rfl, ?_⟩) hHeld ?_ ?_; rotate_left
             · rintro w' ⟨s0, s1, s2, s3, s4, s5, s6, s7, s8, s9, s10, s11, s12, s13, s14, s15, s16, s17, s18, s19, s20, s21, s22, s23, s24, s25, s26, s27, s28⟩; go_simp; with_reducible rfl
             rotate_left
             · simp only [Act.put, s1, s2, s3, i64_w, i32_w]; rfl
             refine take_ (i := 6) (N := some 74) (v := ?_) (a' := ?_) q12_63 rfl rfl (take_ofW HT_.out HW_.out (by kernel_rfl)) (fun _ _ _ h => h) (Or.inl ⟨by rfl, ?_⟩) hHeld ?_ ?_; rotate_left
             · rintro w' ⟨s0, s1, s2, s3, s4, s5, s6, s7, s8, s9, s10, s11, s12, s13, s14, s15, s16, s17, s18, s19, s20, s21, s22, s23, s24, s25, s26, s27, s28⟩; go_simp; with_reducible rfl
             rotate_left
             · simp only [Act.put, s1, s2, s3, i64_w, i32_w]; rfl
             refine pure_ (i := 8) (N := some 76) (v := ?_) (a' := ?_) q12_64 rfl rfl (any_of HT_.out (by kernel_rfl)) (fun _ _ _ h => h) (Or.inl ⟨by rfl, ?_⟩) ?_ ?_; rotate_left
             · intro w'; go_simp; with_reducible rfl
             rotate_left
             · simp only [Act.put, s1, s2, s3, i64_w, i32_w]; rfl
             refine pure_ (i := 9) (N := some 77) (v := ?_) (a' := ?_) q12_65 rfl rfl (any_of HT_.out (by kernel_rfl)) (fun _ _ _ h => h) (Or.inl ⟨by rfl, ?_⟩) ?_ ?_; rotate_left
             · intro w'; go_simp; with_reducible rfl
             rotate_left
             · simp only [Act.put, s1, s2, s3, i64_w, i32_w]; rfl
             refine take_ (i := 10) (N := some 78) (v := ?_) (a' := ?_) q12_66 rfl rfl (take_ofW HT_.out HW_.out (by kernel_rfl)) (fun _ _ _ h => h) (Or.inl ⟨by rfl, ?_⟩) hHeld ?_ ?_; rotate_left
             · rintro w' ⟨s0, s1, s2, s3, s4, s5, s6, s7, s8, s9, s10, s11, s12, s13, s14, s15, s16, s17, s18, s19, s20, s21, s22, s23, s24, s25, s26, s27, s28⟩; go_simp; with_reducible rfl
             rotate_left
             · simp only [Act.put, s1, s2, s3, i64_w, i32_w]; rfl
             refine pure_ (i := 11) (N := some 79) (v := ?_) (a' := ?_) q12_67 rfl rfl (any_of HT_.out (by kernel_rfl)) (fun _ _ _ h => h) (Or.inl ⟨by rfl, ?_⟩) ?_ ?_; rotate_left
             · intro w'; go_simp; with_reducible rfl
             rotate_left
             · simp only [Act.put, s1, s2, s3, i64_w, i32_w]; rfl
             refine pure_ (i := 12) (N := some 80) (v := ?_) (a' := ?_) q12_68 rfl rfl (any_of HT_.out (by kernel_rfl)) (fun _ _ _ h => h) (Or.inl ⟨by rfl, ?_⟩) ?_ ?_; rotate_left
             · intro w'; go_simp; with_reducible rfl
             rotate_left
             · simp only [Act.put, s1, s2, s3, i64_w, i32_w]; rfl
             refine pure_ (i := 13) (N := some 81) (v := ?_) (a' := ?_) q12_69 rfl rfl (any_of HT_.out (by kernel_rfl)) (fun _ _ _ h => h) (Or.inl ⟨by rfl, ?_⟩) ?_ ?_; rotate_left
             · intro w'; go_simp; with_reducible rfl
             rotate_left
             · simp only [Act.put, s1, s2, s3, i64_w, i32_w]; rfl
             refine pure_ (i := 15) (N := some 83) (v := ?_) (a' := ?_) q12_70 rfl rfl (any_of HT_.out (by kernel_rfl)) (fun _ _ _ h => h) (Or.inl ⟨by rfl, ?_⟩) ?_ ?_; rotate_left
             · intro w'; go_simp; with_reducible rfl
             rotate_left
             · simp only [Act.put, s1, s2, s3, i64_w, i32_w]; rfl
             refine pure_ (i := 18) (N := some 86) (v := ?_) (a' := ?_) q12_71 rfl rfl (any_of HT_.out (by kernel_rfl)) (fun _ _ _ h => h) (Or.inl ⟨by rfl, ?_⟩) ?_ ?_; rotate_left
             · intro w'; go_simp; with_reducible rfl
             rotate_left
             · simp only [Act.put, s1, s2, s3, i64_w, i32_w]; rfl
             refine pure_ (i := 20) (N := some 88) (v := ?_) (a' := ?_) q12_72 rfl rfl (any_of HT_.out (by kernel_rfl)) (fun _ _ _ h => h) (Or.inl ⟨by rfl, ?_⟩) ?_ ?_; rotate_left
             · intro w'; go_simp; with_reducible rfl
             rotate_left
             · simp only [Act.put, s1, s2, s3, i64_w, i32_w]; rfl
             refine take_ (i := 14) (N := some 82) (v := ?_) (a' := ?_) q12_73 rfl rfl (take_ofW HT_.out HW_.out (by kernel_rfl)) (fun _ _ _ h => h) (Or.inl ⟨by rfl, ?_⟩) hHeld ?_ ?_; rotate_left
             · rintro w' ⟨s0, s1, s2, s3, s4, s5, s6, s7, s8, s9, s10, s11, s12, s13, s14, s15, s16, s17, s18, s19, s20, s21, s22, s23, s24, s25, s26, s27, s28⟩; go_simp; with_reducible rfl
             rotate_left
             · simp only [Act.put, s1, s2, s3, i64_w, i32_w]; rfl
             refine pure_ (i := 16) (N := some 84) (v := ?_) (a' := ?_) q12_74 rfl rfl (any_of HT_.out (by kernel_rfl)) (fun _ _ _ h => h) (Or.inl ⟨by rfl, ?_⟩) ?_ ?_; rotate_left
             · intro w'; go_simp; with_reducible rfl
             rotate_left
             · simp only [Act.put, s1, s2, s3, i64_w, i32_w]; rfl
             refine take_ (i := 17) (N := some 85) (v := ?_) (a' := ?_) q12_75 rfl rfl (take_ofW HT_.out HW_.out (by kernel_rfl)) (fun _ _ _ h => h) (Or.inl ⟨by rfl, ?_⟩) hHeld ?_ ?_; rotate_left
             · rintro w' ⟨s0, s1, s2, s3, s4, s5, s6, s7, s8, s9, s10, s11, s12, s13, s14, s15, s16, s17, s18, s19, s20, s21, s22, s23, s24, s25, s26, s27, s28⟩; go_simp; with_reducible rfl
             rotate_left
             · simp only [Act.put, s1, s2, s3, i64_w, i32_w]; rfl
             refine take_ (i := 19) (N := some 87) (v := ?_) (a' := ?_) q12_76 rfl rfl (take_ofW HT_.out HW_.out (by kernel_rfl)) (fun _ _ _ h => h) (Or.inl ⟨by rfl, ?_⟩) hHeld ?_ ?_; rotate_left
             · rintro w' ⟨s0, s1, s2, s3, s4, s5, s6, s7, s8, s9, s10, s11, s12, s13, s14, s15, s16, s17, s18, s19, s20, s21, s22, s23, s24, s25, s26, s27, s28⟩; go_simp; with_reducible rfl
             rotate_left
             · simp only [Act.put, s1, s2, s3, i64_w, i32_w]; rfl
             refine pure_ (i := 21) (N := some 89) (v := ?_) (a' := ?_) q12_77 rfl rfl (any_of HT_.out (by kernel_rfl)) (fun _ _ _ h => h) (Or.inl ⟨by rfl, ?_⟩) ?_ ?_; rotate_left
             · intro w'; go_simp; with_reducible rfl
             rotate_left
             · simp only [Act.put, s1, s2, s3, i64_w, i32_w]; rfl
             refine pure_ (i := 22) (N := some 90) (v := ?_) (a' := ?_) q12_78 rfl rfl (any_of HT_.out (by kernel_rfl)) (fun _ _ _ h => h) (Or.inl ⟨by rfl, ?_⟩) ?_ ?_; rotate_left
             · intro w'; go_simp; with_reducible rfl
             rotate_left
             · simp only [Act.put, s1, s2, s3, i64_w, i32_w]; rfl
             refine take_ (i := 23) (N := some 91) (v := ?_) (a' := ?_) q12_79 rfl rfl (take_ofW HT_.out HW_.out (by kernel_rfl)) (fun _ _ _ h => h) (Or.inl ⟨by rfl, ?_⟩) hHeld ?_ ?_; rotate_left
             · rintro w' ⟨s0, s1, s2, s3, s4, s5, s6, s7, s8, s9, s10, s11, s12, s13, s14, s15, s16, s17, s18, s19, s20, s21, s22, s23, s24, s25, s26, s27, s28⟩; go_simp; with_reducible rfl
             rotate_left
             · simp only [Act.put, s1, s2, s3, i64_w, i32_w]; rfl
             refine pure_ (i := 24) (N := some 92) (v := ?_) (a' := ?_) q12_80 rfl rfl (any_of HT_.out (by kernel_rfl)) (fun _ _ _ h => h) (Or.inl ⟨by rfl, ?_⟩) ?_ ?_; rotate_left
             · intro w'; go_simp; with_reducible rfl
             rotate_left
             · simp only [Act.put, s1, s2, s3, i64_w, i32_w]; rfl
             refine pure_ (i := 25) (N := some 93) (v := ?_) (a' := ?_) q12_81 rfl rfl (any_of HT_.out (by kernel_rfl)) (fun _ _ _ h => h) (Or.inl ⟨by rfl, ?_⟩) ?_ ?_; rotate_left
             · intro w'; go_simp; with_reducible rfl
             rotate_left
             · simp only [Act.put, s1, s2, s3, i64_w, i32_w]; rfl
             refine pure_ (i := 26) (N := some 94) (v := ?_) (a' := ?_) q12_82 rfl rfl (any_of HT_.out (by kernel_rfl)) (fun _ _ _ h => h) (Or.inl ⟨by rfl, ?_⟩) ?_ ?_; rotate_left
             · intro w'; go_simp; with_reducible rfl
             rotate_left
             · simp only [Act.put, s1, s2, s3, i64_w, i32_w]; rfl
             refine pure_ (i := 27) (N := some 95) (v := ?_) (a' := ?_) q12_83 rfl rfl (any_of HT_.out (by kernel_rfl)) (fun _ _ _ h => h) (Or.inl ⟨by rfl, ?_⟩) ?_ ?_; rotate_left
             · intro w'; go_simp; with_reducible rfl
             rotate_left
             · simp only [Act.put, s1, s2, s3, i64_w, i32_w]; rfl
             refine pure_ (i := 29) (N := some 97) (v := ?_) (a' := ?_) q12_84 rfl rfl (any_of HT_.out (by kernel_rfl)) (fun _ _ _ h => h) (Or.inl ⟨by rfl, ?_⟩) ?_ ?_; rotate_left
             · intro w'; go_simp; with_reducible rfl
             rotate_left
             · simp only [Act.put, s1, s2, s3, i64_w, i32_w]; rfl
             refine pure_ (i := 32) (N := some 100) (v := ?_) (a' := ?_) q12_85 rfl rfl (any_of HT_.out (by kernel_rfl)) (fun _ _ _ h => h) (Or.inl ⟨by rfl, ?_⟩) ?_ ?_; rotate_left
             · intro w'; go_simp; with_reducible rfl
             rotate_left
             · simp only [Act.put, s1, s2, s3, i64_w, i32_w]; rfl
             refine pure_ (i := 34) (N := some 102) (v := ?_) (a' := ?_) q12_86 rfl rfl (any_of HT_.out (by kernel_rfl)) (fun _ _ _ h => h) (Or.inl ⟨by rfl, ?_⟩) ?_ ?_; rotate_left
             · intro w'; go_simp; with_reducible rfl
             rotate_left
             · simp only [Act.put, s1, s2, s3, i64_w, i32_w]; rfl
             refine take_ (i := 28) (N := some 96) (v := ?_) (a' := ?_) q12_87 rfl rfl (take_ofW HT_.out HW_.out (by kernel_rfl)) (fun _ _ _ h => h) (Or.inl ⟨by rfl, ?_⟩) hHeld ?_ ?_; rotate_left
             · rintro w' ⟨s0, s1, s2, s3, s4, s5, s6, s7, s8, s9, s10, s11, s12, s13, s14, s15, s16, s17, s18, s19, s20, s21, s22, s23, s24, s25, s26, s27, s28⟩; go_simp; with_reducible rfl
             rotate_left
             · simp only [Act.put, s1, s2, s3, i64_w, i32_w]; rfl
             refine pure_ (i := 30) (N := some 98) (v := ?_) (a' := ?_) q12_88 rfl rfl (any_of HT_.out (by kernel_rfl)) (fun _ _ _ h => h) (Or.inl ⟨by rfl, ?_⟩) ?_ ?_; rotate_left
             · intro w'; go_simp; with_reducible rfl
             rotate_left
             · simp only [Act.put, s1, s2, s3, i64_w, i32_w]; rfl
             refine take_ (i := 31) (N := some 99) (v := ?_) (a' := ?_) q12_89 rfl rfl (take_ofW HT_.out HW_.out (by kernel_rfl)) (fun _ _ _ h => h) (Or.inl ⟨by rfl, ?_⟩) hHeld ?_ ?_; rotate_left
             · rintro w' ⟨s0, s1, s2, s3, s4, s5, s6, s7, s8, s9, s10, s11, s12, s13, s14, s15, s16, s17, s18, s19, s20, s21, s22, s23, s24, s25, s26, s27, s28⟩; go_simp; with_reducible rfl
             rotate_left
             · simp only [Act.put, s1, s2, s3, i64_w, i32_w]; rfl
             refine take_ (i := 33) (N := some 101) (v := ?_) (a' := ?_) q12_90 rfl rfl (take_ofW HT_.out HW_.out (by kernel_rfl)) (fun _ _ _ h => h) (Or.inl ⟨by rfl, ?_⟩) hHeld ?_ ?_; rotate_left
             · rintro w' ⟨s0, s1, s2, s3, s4, s5, s6, s7, s8, s9, s10, s11, s12, s13, s14, s15, s16, s17, s18, s19, s20, s21, s22, s23, s24, s25, s26, s27, s28⟩; go_simp; with_reducible rfl
             rotate_left
             · simp only [Act.put, s1, s2, s3, i64_w, i32_w]; rfl
             refine pure_ (i := 35) (N := some 103) (v := ?_) (a' := ?_) q12_91 rfl rfl (any_of HT_.out (by kernel_rfl)) (fun _ _ _ h => h) (Or.inl ⟨by rfl, ?_⟩) ?_ ?_; rotate_left
             · intro w'; go_simp; with_reducible rfl
             rotate_left
             · simp only [Act.put, s1, s2, s3, i64_w, i32_w]; rfl
             refine pure_ (i := 36) (N := some 104) (v := ?_) (a' := ?_) q12_92 rfl rfl (any_of HT_.out (by kernel_rfl)) (fun _ _ _ h => h) (Or.inl ⟨by rfl, ?_⟩) ?_ ?_; rotate_left
             · intro w'; go_simp; with_reducible rfl
             rotate_left
             · simp only [Act.put, s1, s2, s3, i64_w, i32_w]; rfl
             refine take_ (i := 37) (N := some 105) (v := ?_) (a' := ?_) q12_93 rfl rfl (take_ofW HT_.out HW_.out (by kernel_rfl)) (fun _ _ _ h => h) (Or.inl ⟨by rfl, ?_⟩) hHeld ?_ ?_; rotate_left
             · rintro w' ⟨s0, s1, s2, s3, s4, s5, s6, s7, s8, s9, s10, s11, s12, s13, s14, s15, s16, s17, s18, s19, s20, s21, s22, s23, s24, s25, s26, s27, s28⟩; go_simp; with_reducible rfl
             rotate_left
             · simp only [Act.put, s1, s2, s3, i64_w, i32_w]; rfl
             refine pure_ (i := 38) (N := some 106) (v := ?_) (a' := ?_) q12_94 rfl rfl (any_of HT_.out (by kernel_rfl)) (fun _ _ _ h => h) (Or.inl ⟨by rfl, ?_⟩) ?_ ?_; rotate_left
             · intro w'; go_simp; with_reducible rfl
             rotate_left
             · simp only [Act.put, s1, s2, s3, i64_w, i32_w]; rfl
             refine pure_ (i := 39) (N := some 107) (v := ?_) (a' := ?_) q12_95 rfl rfl (any_of HT_.out (by kernel_rfl)) (fun _ _ _ h => h) (Or.inl ⟨by rfl, ?_⟩) ?_ ?_; rotate_left
             · intro w'; go_simp; with_reducible rfl
             rotate_left
             · simp only [Act.put, s1, s2, s3, i64_w, i32_w]; rfl
             refine done_ (done_of HT_.out (by kernel_rfl)) ?_; have hcz41_0 : w40.cell? ⟨gb332, 0, none⟩ = some (.int .i64 a1_0) := (bC BK332.out 0).trans rfl; have hcz41_1 : w40.cell? ⟨gb332, 1, none⟩ = some (.int .i64 a1_1) := (bC BK332.out 1).trans rfl; have hcz41_2 : w40.cell? ⟨gb332, 2, none⟩ = some (.string a1_2) := (bC BK332.out 2).trans rfl; have hcz41_3 : w40.cell? ⟨gb332, 3, none⟩ = some (.string a1_3) := (bC BK332.out 3).trans rfl; have hcz41_4 : w40.cell? ⟨gb332, 4, none⟩ = some (.bool a1_4) := (bC BK332.out 4).trans rfl; have hcz41_5 : w40.cell? ⟨gb332, 5, none⟩ = some (.bool a1_5) := (bC BK332.out 5).trans rfl; have hcz41_6 : w40.cell? ⟨gb332, 6, none⟩ = some (.slice (some ad337) l1_6.length c1_6) := (bC BK332.out 6).trans rfl; have hfz41_0 := bF BK332.out 0; have hfz41_1 := bF BK332.out 1; have hfz41_2 := bF BK332.out 2; have hfz41_3 := bF BK332.out 3; have hfz41_4 := bF BK332.out 4; have hfz41_5 := bF BK332.out 5; have hfz41_6 := bF BK332.out 6; have p342 : 0 ≤ (x6_2 : Int) := oT (by first | (with_reducible assumption) | assumption); have q342 : x6_2 < (l1_6.length : Int) := oT (by first | (with_reducible assumption) | assumption); obtain ⟨ad342, e342, hx342_0, hx342_1, hx342_2⟩ := at_T62 HR1_6.out x6_2 p342 q342; obtain rfl : ad337 = ad342 := (by injection e342); replace hx342_0 := (HB.out.cell (bL w _ hx342_0)).trans hx342_0; replace hx342_1 := (HB.out.cell (bL w _ hx342_1)).trans hx342_1; replace hx342_2 := (HB.out.cell (bL w _ hx342_2)).trans hx342_2; replace p342 := eq_true p342; replace q342 := eq_true q342; try go_wp2_with (first | ((with_reducible refine gate_builtin (b := .append) (xs := #[.tmp 108, .tmp 115]) rfl ?_); (try (refine gate_guard (by rfl) ?_; dsimp only)); at_builtin; refine Kd.R_append Kd.string (w0 := w) w.heap.size rfl (.tmp 108) (.tmp 115) 33 9 (.string ⟨#[]⟩) 16 rfl Try.underlying33 info9 rfl (by decide) (by omega) u5 x5_2 ((rd_T62 l1_6 x6_2).f0) [.string ((rd_T62 l1_6 x6_2).f0)] (fun _ => True) (fun _ => False) rfl rfl ?aP (fun _ hk => hk.elim) ?aF ?aO ?aB ?aS ?aL ?_; (case aP => exact rfl); (case aB => exact (by repeat (first | (with_reducible first | exact HB.out | apply wA | apply wN | apply wD | refine wS ?_ GE331.out | refine wS ?_ GE332.out) | exact HB.out))); (case aF => exact (fun _ _ => trivial)); (case aO => exact (by (with_reducible repeat (first | apply rA | apply rN | apply rD)); exact HO_5.out)); (case aS => exact (below_size (by repeat (first | (with_reducible first | exact HB.out | apply wA | apply wN | apply wD | refine wS ?_ GE331.out | refine wS ?_ GE332.out) | exact HB.out)))); (case aL => have := LMc37.out; omega); intro v344 w42 ho hb hg hat; rw [← Ny343.out] at ho; have n0_ := K0 (blk_grown (g := gb331) (o := .cells #[.int .i64 a0_0, .int .i64 a0_1, .string a0_2, .string a0_3, .bool a0_4, .bool a0_5, .slice (some ad336) l0_6.length c0_6, .slice (some ad338) l0_7.length c0_7, .slice (some ad340) l0_8.length c0_8, .slice A0_9 l0_9.length c0_9] 37 (0, 0)) (by (with_reducible repeat (first | refine bN ?_ _ | refine bD ?_ | refine bA ?_ _)); exact BK331.out) hg (Kd.R_ne HO_5.out BK331.out (by decide))); have n1_ := K0 (blk_grown (g := gb332) (o := .cells #[.int .i64 a1_0, .int .i64 a1_1, .string a1_2, .string a1_3, .bool a1_4, .bool a1_5, .slice (some ad337) l1_6.length c1_6] 29 (0, 0)) (by (with_reducible repeat (first | refine bN ?_ _ | refine bD ?_ | refine bA ?_ _)); exact BK332.out) hg (Kd.R_ne HO_5.out BK332.out (by decide))); have n2_ := K0 (hb); have n3_ := K0 (ho); clear BK331; clear BK332; clear HB; clear HO_5; have BK331 := n0_; have BK332 := n1_; have HB := n2_; have HO345 := n3_; clear n0_ n1_ n2_ n3_; clear ho hb hg hat))
             go_roundg k2
             case measure => have := HJ2.out; have := HK2.out; omega
             case rel => exact ⟨(y343), (wrap64 (x6_2 + 1)), (by first | rfl | (simp; done) | (simp [*]; done)), H', ⟨by have := HJ2.out; have := HK2.out; omega⟩, ⟨by (with_reducible repeat (first | apply rA | apply rN | apply rD)); exact HO345.out⟩, ⟨by (with_reducible repeat (first | refine bN ?_ _ | refine bD ?_ | refine bA ?_ _)); exact BK331.out⟩, ⟨by (with_reducible repeat (first | refine bN ?_ _ | refine bD ?_ | refine bA ?_ _)); exact BK332.out⟩, ⟨by repeat (first | (with_reducible first | exact HB.out | apply wA | apply wN | apply wD | refine wS ?_ GE331.out | refine wS ?_ GE332.out) | exact HB.out)⟩⟩
            rw [if_neg c37] at H; exact absurd H (by simp)
           rw [if_neg c32] at H; exact absurd H (by simp)
          rw [if_neg c31] at H; exact absurd ((Option.some.inj H).trans hrt) (by decide)
         rw [if_neg c30] at H; exact absurd H (by simp)
        rw [if_neg c29] at H; exact absurd ((Option.some.inj H).trans hrt) (by decide)
       rw [if_neg c28] at H; exact absurd H (by simp)
      rw [if_neg c27] at H; exact absurd H (by simp)
     rw [if_neg c26] at H; have c26b0 : decide (x6_2 < (l1_6.length : Int)) = false := dF c26; clear c26; have HC49 := K0 H; clear H; have hnb50 := NB332_331.out; have hnc50 := NB331_332.out; have hcz51_0 : wr.cell? ⟨gb332, 0, none⟩ = some (.int .i64 a1_0) := (bC BK332.out 0).trans rfl; have hcz51_1 : wr.cell? ⟨gb332, 1, none⟩ = some (.int .i64 a1_1) := (bC BK332.out 1).trans rfl; have hcz51_2 : wr.cell? ⟨gb332, 2, none⟩ = some (.string a1_2) := (bC BK332.out 2).trans rfl; have hcz51_3 : wr.cell? ⟨gb332, 3, none⟩ = some (.string a1_3) := (bC BK332.out 3).trans rfl; have hcz51_4 : wr.cell? ⟨gb332, 4, none⟩ = some (.bool a1_4) := (bC BK332.out 4).trans rfl; have hcz51_5 : wr.cell? ⟨gb332, 5, none⟩ = some (.bool a1_5) := (bC BK332.out 5).trans rfl; have hcz51_6 : wr.cell? ⟨gb332, 6, none⟩ = some (.slice A1_6 l1_6.length c1_6) := (bC BK332.out 6).trans rfl; have hfz51_0 := bF BK332.out 0; have hfz51_1 := bF BK332.out 1; have hfz51_2 := bF BK332.out 2; have hfz51_3 := bF BK332.out 3; have hfz51_4 := bF BK332.out 4; have hfz51_5 := bF BK332.out 5; have hfz51_6 := bF BK332.out 6; go_upto_region 10 with (fail)
     go_cut [145] (fun v145 wc => ∃ (kq : Nat) (x145_48 : Bool), v145 = .bool x145_48 ∧ Aside0 (rundlelaw08_Same.j2 kq x5_2 x145_48 a0_0 a0_1 a0_2 a0_3 a0_4 a0_5 l0_6 l0_7 l0_8 l0_9 = some r) ∧ Aside0 (kq ≤ k2) ∧ Aside0 (Kd.R Kd.string 9 wc w.heap.size (fun _ => True) u5 x5_2) ∧ Aside0 (wc.heap[gb331]? = some (.cells #[.int .i64 a0_0, .int .i64 a0_1, .string a0_2, .string a0_3, .bool a0_4, .bool a0_5, (.slice A0_6 l0_6.length c0_6), (.slice A0_7 l0_7.length c0_7), (.slice A0_8 l0_8.length c0_8), (.slice A0_9 l0_9.length c0_9)] 37 (0, 0))) ∧ Aside0 (wc.heap[gb332]? = some (.cells #[.int .i64 a1_0, .int .i64 a1_1, .string a1_2, .string a1_3, .bool a1_4, .bool a1_5, (.slice A1_6 l1_6.length c1_6)] 29 (0, 0))) ∧ Aside0 (Below w.heap.size w wc))
     case first =>
      have H := HC49.out; clear HC49; by_cases c52 : a1_5 = true
      ·
       subst c52; have H1 : (rundlelaw08_Same.j2 k2 x5_2 true a0_0 a0_1 a0_2 a0_3 a0_4 a0_5 l0_6 l0_7 l0_8 l0_9) = some r := by rw [if_pos rfl] at H; exact H
       clear H; have H := H1; clear H1; have H' := K0 H; clear H; have hnb53 := NB332_331.out; have hnc53 := NB331_332.out; have hcz54_0 : wr.cell? ⟨gb332, 0, none⟩ = some (.int .i64 a1_0) := (bC BK332.out 0).trans rfl; have hcz54_1 : wr.cell? ⟨gb332, 1, none⟩ = some (.int .i64 a1_1) := (bC BK332.out 1).trans rfl; have hcz54_2 : wr.cell? ⟨gb332, 2, none⟩ = some (.string a1_2) := (bC BK332.out 2).trans rfl; have hcz54_3 : wr.cell? ⟨gb332, 3, none⟩ = some (.string a1_3) := (bC BK332.out 3).trans rfl; have hcz54_4 : wr.cell? ⟨gb332, 4, none⟩ = some (.bool a1_4) := (bC BK332.out 4).trans rfl; have hcz54_5 : wr.cell? ⟨gb332, 5, none⟩ = some (.bool true) := (bC BK332.out 5).trans rfl; have hcz54_6 : wr.cell? ⟨gb332, 6, none⟩ = some (.slice A1_6 l1_6.length c1_6) := (bC BK332.out 6).trans rfl; have hfz54_0 := bF BK332.out 0; have hfz54_1 := bF BK332.out 1; have hfz54_2 := bF BK332.out 2; have hfz54_3 := bF BK332.out 3; have hfz54_4 := bF BK332.out 4; have hfz54_5 := bF BK332.out 5; have hfz54_6 := bF BK332.out 6; go_wp2
       go_meet
       case rel => exact ⟨_, (true), (by first | rfl | (simp; done) | (simp [*]; done)), H', ⟨by have := HJ2.out; have := HK2.out; first | omega | exact Nat.le_refl _⟩, ⟨by (with_reducible repeat (first | apply rA | apply rN | apply rD)); exact HO_5.out⟩, ⟨by (with_reducible repeat (first | refine bN ?_ _ | refine bD ?_ | refine bA ?_ _)); exact BK331.out⟩, ⟨by (with_reducible repeat (first | refine bN ?_ _ | refine bD ?_ | refine bA ?_ _)); exact BK332.out⟩, ⟨by repeat (first | (with_reducible first | exact HB.out | apply wA | apply wN | apply wD | refine wS ?_ GE331.out | refine wS ?_ GE332.out) | exact HB.out)⟩⟩
      replace c52 := Bool.eq_false_iff.mpr c52; subst c52; have H1 : (if (l0_9.length : Int) = 0 then (if (x5_2.length : Int) = 0 then (if a1_0 = 0 then (if a1_1 = 0 then (rundlelaw08_Same.j2 k2 x5_2 (a1_2.toList.isEmpty && (a1_3.toList.isEmpty && (!a1_4))) a0_0 a0_1 a0_2 a0_3 a0_4 a0_5 l0_6 l0_7 l0_8 l0_9) else (rundlelaw08_Same.j2 k2 x5_2 false a0_0 a0_1 a0_2 a0_3 a0_4 a0_5 l0_6 l0_7 l0_8 l0_9)) else (rundlelaw08_Same.j2 k2 x5_2 false a0_0 a0_1 a0_2 a0_3 a0_4 a0_5 l0_6 l0_7 l0_8 l0_9)) else (rundlelaw08_Same.j2 k2 x5_2 false a0_0 a0_1 a0_2 a0_3 a0_4 a0_5 l0_6 l0_7 l0_8 l0_9)) else (rundlelaw08_Same.j2 k2 x5_2 false a0_0 a0_1 a0_2 a0_3 a0_4 a0_5 l0_6 l0_7 l0_8 l0_9)) = some r := by rw [if_neg (show ¬ (false = true) by decide)] at H; exact H
      clear H; have H := H1; clear H1; by_cases c55 : (l0_9.length : Int) = 0
      ·
       rw [if_pos c55] at H; have c55b0 : ((l0_9.length : Int) == 0) = true := beq_iff_eq.mpr c55; have c55b1 : ((l0_9.length : Int) != 0) = false := bne_eq_false_iff_eq.mpr c55; clear c55; (first | rw [c55b0] | (simp only [i64_w, i32_w]; rw [c55b0]) | skip)
       by_cases c56 : (x5_2.length : Int) = 0
       ·
        rw [if_pos c56] at H; have c56b0 : ((x5_2.length : Int) == 0) = true := beq_iff_eq.mpr c56; have c56b1 : ((x5_2.length : Int) != 0) = false := bne_eq_false_iff_eq.mpr c56; clear c56; by_cases c57 : a1_0 = 0
        ·
         rw [if_pos c57] at H; have c57b0 : (a1_0 == 0) = true := beq_iff_eq.mpr c57; have c57b1 : (a1_0 != 0) = false := bne_eq_false_iff_eq.mpr c57; clear c57; by_cases c58 : a1_1 = 0
         ·
          rw [if_pos c58] at H; have c58b0 : (a1_1 == 0) = true := beq_iff_eq.mpr c58; have c58b1 : (a1_1 != 0) = false := bne_eq_false_iff_eq.mpr c58; clear c58; have H' := K0 H; clear H; have hnb59 := NB332_331.out; have hnc59 := NB331_332.out; have hcz60_0 : wr.cell? ⟨gb332, 0, none⟩ = some (.int .i64 a1_0) := (bC BK332.out 0).trans rfl; have hcz60_1 : wr.cell? ⟨gb332, 1, none⟩ = some (.int .i64 a1_1) := (bC BK332.out 1).trans rfl; have hcz60_2 : wr.cell? ⟨gb332, 2, none⟩ = some (.string a1_2) := (bC BK332.out 2).trans rfl; have hcz60_3 : wr.cell? ⟨gb332, 3, none⟩ = some (.string a1_3) := (bC BK332.out 3).trans rfl; have hcz60_4 : wr.cell? ⟨gb332, 4, none⟩ = some (.bool a1_4) := (bC BK332.out 4).trans rfl; have hcz60_5 : wr.cell? ⟨gb332, 5, none⟩ = some (.bool false) := (bC BK332.out 5).trans rfl; have hcz60_6 : wr.cell? ⟨gb332, 6, none⟩ = some (.slice A1_6 l1_6.length c1_6) := (bC BK332.out 6).trans rfl; have hfz60_0 := bF BK332.out 0; have hfz60_1 := bF BK332.out 1; have hfz60_2 := bF BK332.out 2; have hfz60_3 := bF BK332.out 3; have hfz60_4 := bF BK332.out 4; have hfz60_5 := bF BK332.out 5; have hfz60_6 := bF BK332.out 6; have hcz61_0 : wr.cell? ⟨gb331, 0, none⟩ = some (.int .i64 a0_0) := (bC BK331.out 0).trans rfl; have hcz61_1 : wr.cell? ⟨gb331, 1, none⟩ = some (.int .i64 a0_1) := (bC BK331.out 1).trans rfl; have hcz61_2 : wr.cell? ⟨gb331, 2, none⟩ = some (.string a0_2) := (bC BK331.out 2).trans rfl; have hcz61_3 : wr.cell? ⟨gb331, 3, none⟩ = some (.string a0_3) := (bC BK331.out 3).trans rfl; have hcz61_4 : wr.cell? ⟨gb331, 4, none⟩ = some (.bool a0_4) := (bC BK331.out 4).trans rfl; have hcz61_5 : wr.cell? ⟨gb331, 5, none⟩ = some (.bool a0_5) := (bC BK331.out 5).trans rfl; have hcz61_6 : wr.cell? ⟨gb331, 6, none⟩ = some (.slice A0_6 l0_6.length c0_6) := (bC BK331.out 6).trans rfl; have hcz61_7 : wr.cell? ⟨gb331, 7, none⟩ = some (.slice A0_7 l0_7.length c0_7) := (bC BK331.out 7).trans rfl; have hcz61_8 : wr.cell? ⟨gb331, 8, none⟩ = some (.slice A0_8 l0_8.length c0_8) := (bC BK331.out 8).trans rfl; have hcz61_9 : wr.cell? ⟨gb331, 9, none⟩ = some (.slice A0_9 l0_9.length c0_9) := (bC BK331.out 9).trans rfl; have hfz61_0 := bF BK331.out 0; have hfz61_1 := bF BK331.out 1; have hfz61_2 := bF BK331.out 2; have hfz61_3 := bF BK331.out 3; have hfz61_4 := bF BK331.out 4; have hfz61_5 := bF BK331.out 5; have hfz61_6 := bF BK331.out 6; have hfz61_7 := bF BK331.out 7; have hfz61_8 := bF BK331.out 8; have hfz61_9 := bF BK331.out 9; obtain ⟨Ao62, co62, eo62⟩ := Kd.R_slice HO_5.out; subst eo62; go_wp2
          go_meet
          case rel => exact ⟨_, ((a1_2.toList.isEmpty && (a1_3.toList.isEmpty && (!a1_4)))), (by first | rfl | (simp; done) | (simp [*]; done)), H', ⟨by have := HJ2.out; have := HK2.out; first | omega | exact Nat.le_refl _⟩, ⟨by (with_reducible repeat (first | apply rA | apply rN | apply rD)); exact HO_5.out⟩, ⟨by (with_reducible repeat (first | refine bN ?_ _ | refine bD ?_ | refine bA ?_ _)); exact BK331.out⟩, ⟨by (with_reducible repeat (first | refine bN ?_ _ | refine bD ?_ | refine bA ?_ _)); exact BK332.out⟩, ⟨by repeat (first | (with_reducible first | exact HB.out | apply wA | apply wN | apply wD | refine wS ?_ GE331.out | refine wS ?_ GE332.out) | exact HB.out)⟩⟩
         rw [if_neg c58] at H; have c58b0 : (a1_1 == 0) = false := beq_eq_false_iff_ne.mpr c58; have c58b1 : (a1_1 != 0) = true := bne_iff_ne.mpr c58; have H' := K0 H; clear H; have hnb63 := NB332_331.out; have hnc63 := NB331_332.out; have hcz64_0 : wr.cell? ⟨gb332, 0, none⟩ = some (.int .i64 a1_0) := (bC BK332.out 0).trans rfl; have hcz64_1 : wr.cell? ⟨gb332, 1, none⟩ = some (.int .i64 a1_1) := (bC BK332.out 1).trans rfl; have hcz64_2 : wr.cell? ⟨gb332, 2, none⟩ = some (.string a1_2) := (bC BK332.out 2).trans rfl; have hcz64_3 : wr.cell? ⟨gb332, 3, none⟩ = some (.string a1_3) := (bC BK332.out 3).trans rfl; have hcz64_4 : wr.cell? ⟨gb332, 4, none⟩ = some (.bool a1_4) := (bC BK332.out 4).trans rfl; have hcz64_5 : wr.cell? ⟨gb332, 5, none⟩ = some (.bool false) := (bC BK332.out 5).trans rfl; have hcz64_6 : wr.cell? ⟨gb332, 6, none⟩ = some (.slice A1_6 l1_6.length c1_6) := (bC BK332.out 6).trans rfl; have hfz64_0 := bF BK332.out 0; have hfz64_1 := bF BK332.out 1; have hfz64_2 := bF BK332.out 2; have hfz64_3 := bF BK332.out 3; have hfz64_4 := bF BK332.out 4; have hfz64_5 := bF BK332.out 5; have hfz64_6 := bF BK332.out 6; have hcz65_0 : wr.cell? ⟨gb331, 0, none⟩ = some (.int .i64 a0_0) := (bC BK331.out 0).trans rfl; have hcz65_1 : wr.cell? ⟨gb331, 1, none⟩ = some (.int .i64 a0_1) := (bC BK331.out 1).trans rfl; have hcz65_2 : wr.cell? ⟨gb331, 2, none⟩ = some (.string a0_2) := (bC BK331.out 2).trans rfl; have hcz65_3 : wr.cell? ⟨gb331, 3, none⟩ = some (.string a0_3) := (bC BK331.out 3).trans rfl; have hcz65_4 : wr.cell? ⟨gb331, 4, none⟩ = some (.bool a0_4) := (bC BK331.out 4).trans rfl; have hcz65_5 : wr.cell? ⟨gb331, 5, none⟩ = some (.bool a0_5) := (bC BK331.out 5).trans rfl; have hcz65_6 : wr.cell? ⟨gb331, 6, none⟩ = some (.slice A0_6 l0_6.length c0_6) := (bC BK331.out 6).trans rfl; have hcz65_7 : wr.cell? ⟨gb331, 7, none⟩ = some (.slice A0_7 l0_7.length c0_7) := (bC BK331.out 7).trans rfl; have hcz65_8 : wr.cell? ⟨gb331, 8, none⟩ = some (.slice A0_8 l0_8.length c0_8) := (bC BK331.out 8).trans rfl; have hcz65_9 : wr.cell? ⟨gb331, 9, none⟩ = some (.slice A0_9 l0_9.length c0_9) := (bC BK331.out 9).trans rfl; have hfz65_0 := bF BK331.out 0; have hfz65_1 := bF BK331.out 1; have hfz65_2 := bF BK331.out 2; have hfz65_3 := bF BK331.out 3; have hfz65_4 := bF BK331.out 4; have hfz65_5 := bF BK331.out 5; have hfz65_6 := bF BK331.out 6; have hfz65_7 := bF BK331.out 7; have hfz65_8 := bF BK331.out 8; have hfz65_9 := bF BK331.out 9; obtain ⟨Ao66, co66, eo66⟩ := Kd.R_slice HO_5.out; subst eo66; go_wp2
         go_meet
         case rel => exact ⟨_, (false), (by first | rfl | (simp; done) | (simp [*]; done)), H', ⟨by have := HJ2.out; have := HK2.out; first | omega | exact Nat.le_refl _⟩, ⟨by (with_reducible repeat (first | apply rA | apply rN | apply rD)); exact HO_5.out⟩, ⟨by (with_reducible repeat (first | refine bN ?_ _ | refine bD ?_ | refine bA ?_ _)); exact BK331.out⟩, ⟨by (with_reducible repeat (first | refine bN ?_ _ | refine bD ?_ | refine bA ?_ _)); exact BK332.out⟩, ⟨by repeat (first | (with_reducible first | exact HB.out | apply wA | apply wN | apply wD | refine wS ?_ GE331.out | refine wS ?_ GE332.out) | exact HB.out)⟩⟩
        rw [if_neg c57] at H; have c57b0 : (a1_0 == 0) = false := beq_eq_false_iff_ne.mpr c57; have c57b1 : (a1_0 != 0) = true := bne_iff_ne.mpr c57; have H' := K0 H; clear H; have hnb67 := NB332_331.out; have hnc67 := NB331_332.out; have hcz68_0 : wr.cell? ⟨gb332, 0, none⟩ = some (.int .i64 a1_0) := (bC BK332.out 0).trans rfl; have hcz68_1 : wr.cell? ⟨gb332, 1, none⟩ = some (.int .i64 a1_1) := (bC BK332.out 1).trans rfl; have hcz68_2 : wr.cell? ⟨gb332, 2, none⟩ = some (.string a1_2) := (bC BK332.out 2).trans rfl; have hcz68_3 : wr.cell? ⟨gb332, 3, none⟩ = some (.string a1_3) := (bC BK332.out 3).trans rfl; have hcz68_4 : wr.cell? ⟨gb332, 4, none⟩ = some (.bool a1_4) := (bC BK332.out 4).trans rfl; have hcz68_5 : wr.cell? ⟨gb332, 5, none⟩ = some (.bool false) := (bC BK332.out 5).trans rfl; have hcz68_6 : wr.cell? ⟨gb332, 6, none⟩ = some (.slice A1_6 l1_6.length c1_6) := (bC BK332.out 6).trans rfl; have hfz68_0 := bF BK332.out 0; have hfz68_1 := bF BK332.out 1; have hfz68_2 := bF BK332.out 2; have hfz68_3 := bF BK332.out 3; have hfz68_4 := bF BK332.out 4; have hfz68_5 := bF BK332.out 5; have hfz68_6 := bF BK332.out 6; have hcz69_0 : wr.cell? ⟨gb331, 0, none⟩ = some (.int .i64 a0_0) := (bC BK331.out 0).trans rfl; have hcz69_1 : wr.cell? ⟨gb331, 1, none⟩ = some (.int .i64 a0_1) := (bC BK331.out 1).trans rfl; have hcz69_2 : wr.cell? ⟨gb331, 2, none⟩ = some (.string a0_2) := (bC BK331.out 2).trans rfl; have hcz69_3 : wr.cell? ⟨gb331, 3, none⟩ = some (.string a0_3) := (bC BK331.out 3).trans rfl; have hcz69_4 : wr.cell? ⟨gb331, 4, none⟩ = some (.bool a0_4) := (bC BK331.out 4).trans rfl; have hcz69_5 : wr.cell? ⟨gb331, 5, none⟩ = some (.bool a0_5) := (bC BK331.out 5).trans rfl; have hcz69_6 : wr.cell? ⟨gb331, 6, none⟩ = some (.slice A0_6 l0_6.length c0_6) := (bC BK331.out 6).trans rfl; have hcz69_7 : wr.cell? ⟨gb331, 7, none⟩ = some (.slice A0_7 l0_7.length c0_7) := (bC BK331.out 7).trans rfl; have hcz69_8 : wr.cell? ⟨gb331, 8, none⟩ = some (.slice A0_8 l0_8.length c0_8) := (bC BK331.out 8).trans rfl; have hcz69_9 : wr.cell? ⟨gb331, 9, none⟩ = some (.slice A0_9 l0_9.length c0_9) := (bC BK331.out 9).trans rfl; have hfz69_0 := bF BK331.out 0; have hfz69_1 := bF BK331.out 1; have hfz69_2 := bF BK331.out 2; have hfz69_3 := bF BK331.out 3; have hfz69_4 := bF BK331.out 4; have hfz69_5 := bF BK331.out 5; have hfz69_6 := bF BK331.out 6; have hfz69_7 := bF BK331.out 7; have hfz69_8 := bF BK331.out 8; have hfz69_9 := bF BK331.out 9; obtain ⟨Ao70, co70, eo70⟩ := Kd.R_slice HO_5.out; subst eo70; go_wp2
        go_meet
        case rel => exact ⟨_, (false), (by first | rfl | (simp; done) | (simp [*]; done)), H', ⟨by have := HJ2.out; have := HK2.out; first | omega | exact Nat.le_refl _⟩, ⟨by (with_reducible repeat (first | apply rA | apply rN | apply rD)); exact HO_5.out⟩, ⟨by (with_reducible repeat (first | refine bN ?_ _ | refine bD ?_ | refine bA ?_ _)); exact BK331.out⟩, ⟨by (with_reducible repeat (first | refine bN ?_ _ | refine bD ?_ | refine bA ?_ _)); exact BK332.out⟩, ⟨by repeat (first | (with_reducible first | exact HB.out | apply wA | apply wN | apply wD | refine wS ?_ GE331.out | refine wS ?_ GE332.out) | exact HB.out)⟩⟩
       rw [if_neg c56] at H; have c56b0 : ((x5_2.length : Int) == 0) = false := beq_eq_false_iff_ne.mpr c56; have c56b1 : ((x5_2.length : Int) != 0) = true := bne_iff_ne.mpr c56; have c56b2 : ¬ (x5_2 = []) := fun h_ => c56 (by rw [h_]; rfl)
       have H' := K0 H; clear H; have hnb71 := NB332_331.out; have hnc71 := NB331_332.out; have hcz72_0 : wr.cell? ⟨gb332, 0, none⟩ = some (.int .i64 a1_0) := (bC BK332.out 0).trans rfl; have hcz72_1 : wr.cell? ⟨gb332, 1, none⟩ = some (.int .i64 a1_1) := (bC BK332.out 1).trans rfl; have hcz72_2 : wr.cell? ⟨gb332, 2, none⟩ = some (.string a1_2) := (bC BK332.out 2).trans rfl; have hcz72_3 : wr.cell? ⟨gb332, 3, none⟩ = some (.string a1_3) := (bC BK332.out 3).trans rfl; have hcz72_4 : wr.cell? ⟨gb332, 4, none⟩ = some (.bool a1_4) := (bC BK332.out 4).trans rfl; have hcz72_5 : wr.cell? ⟨gb332, 5, none⟩ = some (.bool false) := (bC BK332.out 5).trans rfl; have hcz72_6 : wr.cell? ⟨gb332, 6, none⟩ = some (.slice A1_6 l1_6.length c1_6) := (bC BK332.out 6).trans rfl; have hfz72_0 := bF BK332.out 0; have hfz72_1 := bF BK332.out 1; have hfz72_2 := bF BK332.out 2; have hfz72_3 := bF BK332.out 3; have hfz72_4 := bF BK332.out 4; have hfz72_5 := bF BK332.out 5; have hfz72_6 := bF BK332.out 6; have hcz73_0 : wr.cell? ⟨gb331, 0, none⟩ = some (.int .i64 a0_0) := (bC BK331.out 0).trans rfl; have hcz73_1 : wr.cell? ⟨gb331, 1, none⟩ = some (.int .i64 a0_1) := (bC BK331.out 1).trans rfl; have hcz73_2 : wr.cell? ⟨gb331, 2, none⟩ = some (.string a0_2) := (bC BK331.out 2).trans rfl; have hcz73_3 : wr.cell? ⟨gb331, 3, none⟩ = some (.string a0_3) := (bC BK331.out 3).trans rfl; have hcz73_4 : wr.cell? ⟨gb331, 4, none⟩ = some (.bool a0_4) := (bC BK331.out 4).trans rfl; have hcz73_5 : wr.cell? ⟨gb331, 5, none⟩ = some (.bool a0_5) := (bC BK331.out 5).trans rfl; have hcz73_6 : wr.cell? ⟨gb331, 6, none⟩ = some (.slice A0_6 l0_6.length c0_6) := (bC BK331.out 6).trans rfl; have hcz73_7 : wr.cell? ⟨gb331, 7, none⟩ = some (.slice A0_7 l0_7.length c0_7) := (bC BK331.out 7).trans rfl; have hcz73_8 : wr.cell? ⟨gb331, 8, none⟩ = some (.slice A0_8 l0_8.length c0_8) := (bC BK331.out 8).trans rfl; have hcz73_9 : wr.cell? ⟨gb331, 9, none⟩ = some (.slice A0_9 l0_9.length c0_9) := (bC BK331.out 9).trans rfl; have hfz73_0 := bF BK331.out 0; have hfz73_1 := bF BK331.out 1; have hfz73_2 := bF BK331.out 2; have hfz73_3 := bF BK331.out 3; have hfz73_4 := bF BK331.out 4; have hfz73_5 := bF BK331.out 5; have hfz73_6 := bF BK331.out 6; have hfz73_7 := bF BK331.out 7; have hfz73_8 := bF BK331.out 8; have hfz73_9 := bF BK331.out 9; obtain ⟨Ao74, co74, eo74⟩ := Kd.R_slice HO_5.out; subst eo74; go_wp2
       go_meet
       case rel => exact ⟨_, (false), (by first | rfl | (simp; done) | (simp [*]; done)), H', ⟨by have := HJ2.out; have := HK2.out; first | omega | exact Nat.le_refl _⟩, ⟨by (with_reducible repeat (first | apply rA | apply rN | apply rD)); exact HO_5.out⟩, ⟨by (with_reducible repeat (first | refine bN ?_ _ | refine bD ?_ | refine bA ?_ _)); exact BK331.out⟩, ⟨by (with_reducible repeat (first | refine bN ?_ _ | refine bD ?_ | refine bA ?_ _)); exact BK332.out⟩, ⟨by repeat (first | (with_reducible first | exact HB.out | apply wA | apply wN | apply wD | refine wS ?_ GE331.out | refine wS ?_ GE332.out) | exact HB.out)⟩⟩
      rw [if_neg c55] at H; have c55b0 : ((l0_9.length : Int) == 0) = false := beq_eq_false_iff_ne.mpr c55; have c55b1 : ((l0_9.length : Int) != 0) = true := bne_iff_ne.mpr c55; have c55b2 : ¬ (l0_9 = []) := fun h_ => c55 (by rw [h_]; rfl)
      (first | rw [c55b0] | (simp only [i64_w, i32_w]; rw [c55b0]) | skip)
      have H' := K0 H; clear H; have hnb75 := NB332_331.out; have hnc75 := NB331_332.out; have hcz76_0 : wr.cell? ⟨gb332, 0, none⟩ = some (.int .i64 a1_0) := (bC BK332.out 0).trans rfl; have hcz76_1 : wr.cell? ⟨gb332, 1, none⟩ = some (.int .i64 a1_1) := (bC BK332.out 1).trans rfl; have hcz76_2 : wr.cell? ⟨gb332, 2, none⟩ = some (.string a1_2) := (bC BK332.out 2).trans rfl; have hcz76_3 : wr.cell? ⟨gb332, 3, none⟩ = some (.string a1_3) := (bC BK332.out 3).trans rfl; have hcz76_4 : wr.cell? ⟨gb332, 4, none⟩ = some (.bool a1_4) := (bC BK332.out 4).trans rfl; have hcz76_5 : wr.cell? ⟨gb332, 5, none⟩ = some (.bool false) := (bC BK332.out 5).trans rfl; have hcz76_6 : wr.cell? ⟨gb332, 6, none⟩ = some (.slice A1_6 l1_6.length c1_6) := (bC BK332.out 6).trans rfl; have hfz76_0 := bF BK332.out 0; have hfz76_1 := bF BK332.out 1; have hfz76_2 := bF BK332.out 2; have hfz76_3 := bF BK332.out 3; have hfz76_4 := bF BK332.out 4; have hfz76_5 := bF BK332.out 5; have hfz76_6 := bF BK332.out 6; have hcz77_0 : wr.cell? ⟨gb331, 0, none⟩ = some (.int .i64 a0_0) := (bC BK331.out 0).trans rfl; have hcz77_1 : wr.cell? ⟨gb331, 1, none⟩ = some (.int .i64 a0_1) := (bC BK331.out 1).trans rfl; have hcz77_2 : wr.cell? ⟨gb331, 2, none⟩ = some (.string a0_2) := (bC BK331.out 2).trans rfl; have hcz77_3 : wr.cell? ⟨gb331, 3, none⟩ = some (.string a0_3) := (bC BK331.out 3).trans rfl; have hcz77_4 : wr.cell? ⟨gb331, 4, none⟩ = some (.bool a0_4) := (bC BK331.out 4).trans rfl; have hcz77_5 : wr.cell? ⟨gb331, 5, none⟩ = some (.bool a0_5) := (bC BK331.out 5).trans rfl; have hcz77_6 : wr.cell? ⟨gb331, 6, none⟩ = some (.slice A0_6 l0_6.length c0_6) := (bC BK331.out 6).trans rfl; have hcz77_7 : wr.cell? ⟨gb331, 7, none⟩ = some (.slice A0_7 l0_7.length c0_7) := (bC BK331.out 7).trans rfl; have hcz77_8 : wr.cell? ⟨gb331, 8, none⟩ = some (.slice A0_8 l0_8.length c0_8) := (bC BK331.out 8).trans rfl; have hcz77_9 : wr.cell? ⟨gb331, 9, none⟩ = some (.slice A0_9 l0_9.length c0_9) := (bC BK331.out 9).trans rfl; have hfz77_0 := bF BK331.out 0; have hfz77_1 := bF BK331.out 1; have hfz77_2 := bF BK331.out 2; have hfz77_3 := bF BK331.out 3; have hfz77_4 := bF BK331.out 4; have hfz77_5 := bF BK331.out 5; have hfz77_6 := bF BK331.out 6; have hfz77_7 := bF BK331.out 7; have hfz77_8 := bF BK331.out 8; have hfz77_9 := bF BK331.out 9; go_wp2
      go_meet
      case rel => exact ⟨_, (false), (by first | rfl | (simp; done) | (simp [*]; done)), H', ⟨by have := HJ2.out; have := HK2.out; first | omega | exact Nat.le_refl _⟩, ⟨by (with_reducible repeat (first | apply rA | apply rN | apply rD)); exact HO_5.out⟩, ⟨by (with_reducible repeat (first | refine bN ?_ _ | refine bD ?_ | refine bA ?_ _)); exact BK331.out⟩, ⟨by (with_reducible repeat (first | refine bN ?_ _ | refine bD ?_ | refine bA ?_ _)); exact BK332.out⟩, ⟨by repeat (first | (with_reducible first | exact HB.out | apply wA | apply wN | apply wD | refine wS ?_ GE331.out | refine wS ?_ GE332.out) | exact HB.out)⟩⟩
     case rest =>
      clear HC49; try clear c1
      try clear c2
      try clear p2
      try clear c3
      try clear p3
      try clear q3
      try clear hx3
      try clear c4
      try clear c5
      try clear c6
      try clear c7
      try clear c26
      try clear c26b0
      try clear c27
      try clear c28
      try clear c29
      try clear c29b0
      try clear c29b1
      try clear c30
      try clear p33
      try clear q33
      try clear hx33
      try clear c46
      try clear c50
      try clear c52
      try clear c53
      try clear c55
      try clear c55b0
      try clear c55b1
      try clear c55b2
      try clear c56
      try clear c56b0
      try clear c56b1
      try clear c56b2
      try clear c57
      try clear c57b0
      try clear c57b1
      try clear c58
      try clear c58b0
      try clear c58b1
      try clear c59
      try clear c63
      try clear c67
      try clear c71
      try clear c75
      try clear hcz47_0
      try clear hcz47_1
      try clear hcz47_2
      try clear hcz47_3
      try clear hcz47_4
      try clear hcz47_5
      try clear hcz47_6
      try clear hcz51_0
      try clear hcz51_1
      try clear hcz51_2
      try clear hcz51_3
      try clear hcz51_4
      try clear hcz51_5
      try clear hcz51_6
      try clear hcz54_0
      try clear hcz54_1
      try clear hcz54_2
      try clear hcz54_3
      try clear hcz54_4
      try clear hcz54_5
      try clear hcz54_6
      try clear hcz60_0
      try clear hcz60_1
      try clear hcz60_2
      try clear hcz60_3
      try clear hcz60_4
      try clear hcz60_5
      try clear hcz60_6
      try clear hcz61_0
      try clear hcz61_1
      try clear hcz61_2
      try clear hcz61_3
      try clear hcz61_4
      try clear hcz61_5
      try clear hcz61_6
      try clear hcz61_7
      try clear hcz61_8
      try clear hcz61_9
      try clear hcz64_0
      try clear hcz64_1
      try clear hcz64_2
      try clear hcz64_3
      try clear hcz64_4
      try clear hcz64_5
      try clear hcz64_6
      try clear hcz65_0
      try clear hcz65_1
      try clear hcz65_2
      try clear hcz65_3
      try clear hcz65_4
      try clear hcz65_5
      try clear hcz65_6
      try clear hcz65_7
      try clear hcz65_8
      try clear hcz65_9
      try clear hcz68_0
      try clear hcz68_1
      try clear hcz68_2
      try clear hcz68_3
      try clear hcz68_4
      try clear hcz68_5
      try clear hcz68_6
      try clear hcz69_0
      try clear hcz69_1
      try clear hcz69_2
      try clear hcz69_3
      try clear hcz69_4
      try clear hcz69_5
      try clear hcz69_6
      try clear hcz69_7
      try clear hcz69_8
      try clear hcz69_9
      try clear hcz72_0
      try clear hcz72_1
      try clear hcz72_2
      try clear hcz72_3
      try clear hcz72_4
      try clear hcz72_5
      try clear hcz72_6
      try clear hcz73_0
      try clear hcz73_1
      try clear hcz73_2
      try clear hcz73_3
      try clear hcz73_4
      try clear hcz73_5
      try clear hcz73_6
      try clear hcz73_7
      try clear hcz73_8
      try clear hcz73_9
      try clear hcz76_0
      try clear hcz76_1
      try clear hcz76_2
      try clear hcz76_3
      try clear hcz76_4
      try clear hcz76_5
      try clear hcz76_6
      try clear hcz77_0
      try clear hcz77_1
      try clear hcz77_2
      try clear hcz77_3
      try clear hcz77_4
      try clear hcz77_5
      try clear hcz77_6
      try clear hcz77_7
      try clear hcz77_8
      try clear hcz77_9
      try clear hfz47_0
      try clear hfz47_1
      try clear hfz47_2
      try clear hfz47_3
      try clear hfz47_4
      try clear hfz47_5
      try clear hfz47_6
      try clear hfz51_0
      try clear hfz51_1
      try clear hfz51_2
      try clear hfz51_3
      try clear hfz51_4
      try clear hfz51_5
      try clear hfz51_6
      try clear hfz54_0
      try clear hfz54_1
      try clear hfz54_2
      try clear hfz54_3
      try clear hfz54_4
      try clear hfz54_5
      try clear hfz54_6
      try clear hfz60_0
      try clear hfz60_1
      try clear hfz60_2
      try clear hfz60_3
      try clear hfz60_4
      try clear hfz60_5
      try clear hfz60_6
      try clear hfz61_0
      try clear hfz61_1
      try clear hfz61_2
      try clear hfz61_3
      try clear hfz61_4
      try clear hfz61_5
      try clear hfz61_6
      try clear hfz61_7
      try clear hfz61_8
      try clear hfz61_9
      try clear hfz64_0
      try clear hfz64_1
      try clear hfz64_2
      try clear hfz64_3
      try clear hfz64_4
      try clear hfz64_5
      try clear hfz64_6
      try clear hfz65_0
      try clear hfz65_1
      try clear hfz65_2
      try clear hfz65_3
      try clear hfz65_4
      try clear hfz65_5
      try clear hfz65_6
      try clear hfz65_7
      try clear hfz65_8
      try clear hfz65_9
      try clear hfz68_0
      try clear hfz68_1
      try clear hfz68_2
      try clear hfz68_3
      try clear hfz68_4
      try clear hfz68_5
      try clear hfz68_6
      try clear hfz69_0
      try clear hfz69_1
      try clear hfz69_2
      try clear hfz69_3
      try clear hfz69_4
      try clear hfz69_5
      try clear hfz69_6
      try clear hfz69_7
      try clear hfz69_8
      try clear hfz69_9
      try clear hfz72_0
      try clear hfz72_1
      try clear hfz72_2
      try clear hfz72_3
      try clear hfz72_4
      try clear hfz72_5
      try clear hfz72_6
      try clear hfz73_0
      try clear hfz73_1
      try clear hfz73_2
      try clear hfz73_3
      try clear hfz73_4
      try clear hfz73_5
      try clear hfz73_6
      try clear hfz73_7
      try clear hfz73_8
      try clear hfz73_9
      try clear hfz76_0
      try clear hfz76_1
      try clear hfz76_2
      try clear hfz76_3
      try clear hfz76_4
      try clear hfz76_5
      try clear hfz76_6
      try clear hfz77_0
      try clear hfz77_1
      try clear hfz77_2
      try clear hfz77_3
      try clear hfz77_4
      try clear hfz77_5
      try clear hfz77_6
      try clear hfz77_7
      try clear hfz77_8
      try clear hfz77_9
      try clear hx336_0
      try clear hx337_0
      try clear hx337_1
      try clear hx337_2
      try clear p336
      try clear p337
      try clear q336
      try clear q337
      obtain ⟨kq, x145_48, rfl, HA, HJ48, HO_5, BK331, BK332, HB⟩ := hcut
      cases kq with
      | zero => exact absurd HA.out (by simp [rundlelaw08_Same.j2])
      | succ kj48 =>
       have H := HA.out; clear HA; simp only [rundlelaw08_Same.j2] at H; by_cases c78 : x145_48 = true
       ·
        subst c78; have H1 : (some 1) = some r := by rw [if_pos rfl] at H; exact H
        clear H; have H := H1; clear H1; obtain rfl := Option.some.inj H; go_wp2
        go_ret; exact ⟨by first | rfl | (simp [errW_none, errW_some] <;> rfl) | (simp [*, errW_none, errW_some] <;> rfl), by repeat (first | (with_reducible first | exact HB.out | apply wA | apply wN | apply wD | refine wS ?_ GE331.out | refine wS ?_ GE332.out) | exact HB.out)⟩
       replace c78 := Bool.eq_false_iff.mpr c78; subst c78; have H1 : ((rundleref06_Build.f kj48 x5_2).bind fun t346 => ((rundlelaw06_Numbers.f kj48 l0_9 t346).bind fun t349 => (some t349))) = some r := by rw [if_neg (show ¬ (false = true) by decide)] at H; exact H
       clear H; have H := H1; clear H1; replace H := Option.bind_eq_some_iff.mp H; obtain ⟨t346, A790, H⟩ := H; replace H : ((rundlelaw06_Numbers.f kj48 l0_9 t346).bind fun t349 => (some t349)) = some r := H; have A79 := K0 A790; clear A790; replace H := Option.bind_eq_some_iff.mp H; obtain ⟨t349, A800, H⟩ := H; replace H : (some t349) = some r := H; have A80 := K0 A800; clear A800; obtain rfl := Option.some.inj H; try go_wp2
       have n0_ := K0 (rD HO_5.out); have n1_ := K0 (bD BK331.out); have n2_ := K0 (bD BK332.out); have n3_ := K0 (wD HB.out); clear HO_5 BK331 BK332 HB; have HO_5 := n0_; have BK331 := n1_; have BK332 := n2_; have HB := n3_; clear n0_ n1_ n2_ n3_; obtain ⟨Ao82, co82, eo82⟩ := Kd.R_slice HO_5.out; (first | subst eo82 | (injection eo82 with f1_ f2_ f3_; have f4_ := f1_.symm; have f5_ := f3_.symm; clear f1_ f2_ f3_; subst f4_; subst f5_))
       refine start_ (n := 6) (S := fun w' => w'.cell? ⟨gb331, 0, none⟩ = some (.int .i64 a0_0) ∧ w'.cell? ⟨gb331, 1, none⟩ = some (.int .i64 a0_1) ∧ w'.cell? ⟨gb331, 2, none⟩ = some (.string a0_2) ∧ w'.cell? ⟨gb331, 3, none⟩ = some (.string a0_3) ∧ w'.cell? ⟨gb331, 4, none⟩ = some (.bool a0_4) ∧ w'.cell? ⟨gb331, 5, none⟩ = some (.bool a0_5) ∧ w'.cell? ⟨gb331, 6, none⟩ = some (.slice A0_6 l0_6.length c0_6) ∧ w'.cell? ⟨gb331, 7, none⟩ = some (.slice A0_7 l0_7.length c0_7) ∧ w'.cell? ⟨gb331, 8, none⟩ = some (.slice A0_8 l0_8.length c0_8) ∧ w'.cell? ⟨gb331, 9, none⟩ = some (.slice A0_9 l0_9.length c0_9)) (ds := []) #[false, false, false, false, false, false] (by kernel_rfl) rfl rfl ⟨(bC BK331.out 0).trans rfl, (bC BK331.out 1).trans rfl, (bC BK331.out 2).trans rfl, (bC BK331.out 3).trans rfl, (bC BK331.out 4).trans rfl, (bC BK331.out 5).trans rfl, (bC BK331.out 6).trans rfl, (bC BK331.out 7).trans rfl, (bC BK331.out 8).trans rfl, (bC BK331.out 9).trans rfl⟩ (fun hHeld => ?_); generalize wc.drew = w81 at HO_5 BK331 BK332 HB hHeld ⊢; refine pure_ (i := 0) (N := some 146) (v := ?_) (a' := ?_) #[true, false, false, false, false, false] rfl rfl (by kernel_rfl) (fun _ _ _ h => h) (Or.inl ⟨by rfl, ?_⟩) ?_ ?_; rotate_left
       · intro w'; go_simp; with_reducible rfl
       rotate_left
       · simp only [Act.put, s1, s2, s3, i64_w, i32_w]; rfl
       refine pure_ (i := 2) (N := some 148) (v := ?_) (a' := ?_) #[true, false, true, false, false, false] rfl rfl (by kernel_rfl) (fun _ _ _ h => h) (Or.inl ⟨by rfl, ?_⟩) ?_ ?_; rotate_left
       · intro w'; go_simp; with_reducible rfl
       rotate_left
       · simp only [Act.put, s1, s2, s3, i64_w, i32_w]; rfl
       refine take_ (i := 1) (N := some 147) (v := ?_) (a' := ?_) #[true, true, true, false, false, false] rfl rfl (by kernel_rfl) (fun _ _ _ h => h) (Or.inl ⟨by rfl, ?_⟩) hHeld ?_ ?_; rotate_left
       · rintro w' ⟨s0, s1, s2, s3, s4, s5, s6, s7, s8, s9⟩; go_simp; with_reducible rfl
       rotate_left
       · simp only [Act.put, s1, s2, s3, i64_w, i32_w]; rfl
       refine one_ (i := 3) (N := some 149) #[true, true, true, true, false, false] rfl rfl (by kernel_rfl) (by decide) (fun K hK => ?_); refine goes_ Try.func62 (by kernel_rfl) rfl #[.slice Ao82 x5_2.length co82] (by rfl) rfl rfl (by (try simp only [List.map_toArray, List.map_cons, List.map_nil]); first | done | rfl | (simp only [lD, lT]; rfl)) ?_; with_reducible refine (rundleref06_Build.calls kj48 _ _ x5_2 t346 _ ?side1 ?side2 A79.out).mono ?_
       (case side1 => repeat (first | exact (Kd.R_reads' HO_5.out).2.2 | (with_reducible refine Kd.C_alloc ?_ _) | (with_reducible refine Kd.C_drewN ?_ _) | (with_reducible refine Kd.C_drew ?_)))
       (case side2 => exact (Kd.R_reads' HO_5.out).2.1)
       rintro e w83 ⟨v347, rfl, ho0, hb⟩; refine ⟨_, rfl, ?_⟩; have n0_ := K0 (rB (by (with_reducible repeat (first | apply rA | apply rN | apply rD)); exact HO_5.out) hb); have n1_ := K0 (Kd.R_lower ho0 (below_size (by repeat (first | (with_reducible first | exact HB.out | apply wA | apply wN | apply wD | refine wS ?_ GE331.out | refine wS ?_ GE332.out) | exact HB.out)))); have n2_ := K0 (bB (g := gb331) (o := .cells #[.int .i64 a0_0, .int .i64 a0_1, .string a0_2, .string a0_3, .bool a0_4, .bool a0_5, .slice A0_6 l0_6.length c0_6, .slice A0_7 l0_7.length c0_7, .slice A0_8 l0_8.length c0_8, .slice A0_9 l0_9.length c0_9] 37 (0, 0)) (by (with_reducible repeat (first | refine bN ?_ _ | refine bD ?_ | refine bA ?_ _)); exact BK331.out) hb); have n3_ := K0 (bB (g := gb332) (o := .cells #[.int .i64 a1_0, .int .i64 a1_1, .string a1_2, .string a1_3, .bool a1_4, .bool a1_5, .slice A1_6 l1_6.length c1_6] 29 (0, 0)) (by (with_reducible repeat (first | refine bN ?_ _ | refine bD ?_ | refine bA ?_ _)); exact BK332.out) hb); have n4_ := K0 (below_step (by repeat (first | (with_reducible first | exact HB.out | apply wA | apply wN | apply wD | refine wS ?_ GE331.out | refine wS ?_ GE332.out) | exact HB.out)) hb); clear HO_5 BK331 BK332 HB; have HO_5 := n0_; have HO348 := n1_; have BK331 := n2_; have BK332 := n3_; have HB := n4_; clear n0_ n1_ n2_ n3_ n4_; (try clear hb)
       (try clear hb2)
       (try clear hk)
       (try clear hi)
       (try clear ho0)
       obtain ⟨Ao84, co84, eo84⟩ := Kd.R_slice HO348.out; (first | subst eo84 | (injection eo84 with f1_ f2_ f3_; have f4_ := f1_.symm; have f5_ := f3_.symm; clear f1_ f2_ f3_; subst f4_; subst f5_))
       refine hK.out _ _ ⟨(bC BK331.out 0).trans rfl, (bC BK331.out 1).trans rfl, (bC BK331.out 2).trans rfl, (bC BK331.out 3).trans rfl, (bC BK331.out 4).trans rfl, (bC BK331.out 5).trans rfl, (bC BK331.out 6).trans rfl, (bC BK331.out 7).trans rfl, (bC BK331.out 8).trans rfl, (bC BK331.out 9).trans rfl⟩ (fun hHeld => ?_); clear hK K; refine norm_ (a' := ?_) ?_ ?_; rotate_left
       · show Act.put _ (some 149) _ = _; simp only [Act.put, s1, s2, s3, i64_w, i32_w]; rfl
       refine one_ (i := 4) (N := some 150) #[true, true, true, true, true, false] rfl rfl (by kernel_rfl) (by decide) (fun K hK => ?_); refine goes_ Try.func61 (by kernel_rfl) rfl #[.slice A0_9 l0_9.length c0_9, .slice Ao84 t346.length co84] (by rfl) rfl rfl (by (try simp only [List.map_toArray, List.map_cons, List.map_nil]); first | done | rfl | (simp only [lD, lT]; rfl)) ?_; with_reducible refine (rundlelaw06_Numbers.calls kj48 _ _ l0_9 _ _ t346 t349 _ ?side1 ?side2 ?side3 ?side4 A80.out).mono ?_
       (case side1 => repeat (first | exact (Kd.C_below HR0_9.out HB.out) | (with_reducible refine Kd.C_alloc ?_ _) | (with_reducible refine Kd.C_drewN ?_ _) | (with_reducible refine Kd.C_drew ?_)))
       (case side2 => exact HC0_9.out)
       (case side3 => repeat (first | exact (Kd.R_reads' HO348.out).2.2 | (with_reducible refine Kd.C_alloc ?_ _) | (with_reducible refine Kd.C_drewN ?_ _) | (with_reducible refine Kd.C_drew ?_)))
       (case side4 => exact (Kd.R_reads' HO348.out).2.1)
       rintro e w' ⟨rfl, ⟨nd, rfl⟩⟩; refine ⟨_, rfl, ?_⟩; refine hK.out _ _ ⟨(bC BK331.out 0).trans rfl, (bC BK331.out 1).trans rfl, (bC BK331.out 2).trans rfl, (bC BK331.out 3).trans rfl, (bC BK331.out 4).trans rfl, (bC BK331.out 5).trans rfl, (bC BK331.out 6).trans rfl, (bC BK331.out 7).trans rfl, (bC BK331.out 8).trans rfl, (bC BK331.out 9).trans rfl⟩ (fun hHeld => ?_); clear hK K; refine norm_ (a' := ?_) ?_ ?_; rotate_left
       · show Act.put _ (some 150) _ = _; simp only [Act.put, s1, s2, s3, i64_w, i32_w]; rfl
       refine pure_ (i := 5) (N := some 4) (v := ?_) (a' := ?_) #[true, true, true, true, true, true] rfl rfl (by kernel_rfl) (fun _ _ _ h => h) (Or.inl ⟨by rfl, ?_⟩) ?_ ?_; rotate_left
       · intro w'; go_simp; with_reducible rfl
       rotate_left
       · simp only [Act.put, s1, s2, s3, i64_w, i32_w]; rfl
       refine done_ (by kernel_rfl) ?_; try go_wp2
       go_ret; exact ⟨by first | rfl | (simp [errW_none, errW_some] <;> rfl) | (simp [*, errW_none, errW_some] <;> rfl), by repeat (first | (with_reducible first | exact HB.out | apply wA | apply wN | apply wD | refine wS ?_ GE331.out | refine wS ?_ GE332.out) | exact HB.out)⟩
end Go.Proofs.Ytoaacdjcjicemaa.PRevApplies
