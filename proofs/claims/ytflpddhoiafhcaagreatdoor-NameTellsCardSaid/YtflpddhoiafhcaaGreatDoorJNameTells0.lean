/- Short names for words that the joined texts of 'NameTells' use most. -/
import Derived.Test.YtflpddhoiafhcaaGreatDoorJNameTells1
namespace Go.Proofs.YtflpddhoiafhcaaGreatDoorW.PrintWords
open Go.RowKit Go.Proofs.YtflpddhoiafhcaaGreatDoorW.PrintLast Go.Proofs.YtflpddhoiafhcaaGreatDoorW.PrintMore
theorem zz00 : type_of% @Aside0.mk := @Aside0.mk
theorem zz01 : type_of% @pw_below_drewN := @pw_below_drewN
theorem zz02 : type_of% @below_drew1 := @below_drew1
theorem zz03 : type_of% @below_alloc := @below_alloc
theorem zz04 : type_of% @Kd.R_drewN := @Kd.R_drewN
theorem zz05 : type_of% @Kd.R_alloc := @Kd.R_alloc
theorem zz06 : type_of% @Kd.R_drew := @Kd.R_drew
theorem zz07 : type_of% @blk_drewN := @blk_drewN
theorem zz08 : type_of% @blk_alloc := @blk_alloc
theorem zz09 : type_of% @blk_drew := @blk_drew
theorem zz10 : type_of% @below_set := @below_set
theorem zz11 : type_of% @List.setIfInBounds_toArray := @List.setIfInBounds_toArray
theorem zz12 : type_of% @List.set_cons_zero := @List.set_cons_zero
theorem zz13 : type_of% @List.set_cons_succ := @List.set_cons_succ
theorem zz14 : type_of% @Option.bind_eq_some_iff := @Option.bind_eq_some_iff
theorem zz15 : type_of% @Option.some.injEq := @Option.some.injEq
theorem zz16 : type_of% @Prod.mk.injEq := @Prod.mk.injEq
theorem zz17 : type_of% @blk_frozen := @blk_frozen
theorem zz18 : type_of% @blk_cell := @blk_cell
theorem zz20 : type_of% @Kd.R_elder' := @Kd.R_elder'
theorem zz21 : type_of% @below_step := @below_step
theorem zz22 : type_of% @below_size := @below_size
theorem zz23 : type_of% @gate_callee := @gate_callee
theorem zz24 : type_of% @gate_dst := @gate_dst
theorem zz25 : type_of% @goesL_ := @goesL_
theorem zz26 : type_of% @bne_eq_false_iff_eq := @bne_eq_false_iff_eq
theorem zz27 : type_of% @beq_eq_false_iff_ne := @beq_eq_false_iff_ne
theorem zz28 : type_of% @bne_iff_ne := @bne_iff_ne
theorem zz29 : type_of% @beq_iff_eq := @beq_iff_eq
theorem zz30 : type_of% @box_event := @box_event
theorem zz31 : type_of% @of_decide_eq_true := @of_decide_eq_true
theorem zz32 : type_of% @Bool.eq_false_iff := @Bool.eq_false_iff
theorem zz33 : type_of% @blk_far := @blk_far
theorem zz34 : type_of% @blk_below := @blk_below
theorem zz35 : type_of% @blk_put := @blk_put
end Go.Proofs.YtflpddhoiafhcaaGreatDoorW.PrintWords
