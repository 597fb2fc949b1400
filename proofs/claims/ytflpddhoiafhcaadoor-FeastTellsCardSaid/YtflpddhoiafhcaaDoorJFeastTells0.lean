/- Short names for words that the joined texts of 'FeastTells' use most. -/
import Derived.Test.YtflpddhoiafhcaaDoorJFeastTells1
namespace Go.Proofs.YtflpddhoiafhcaaDoorW.PrintWords
open Go.RowKit Go.Proofs.YtflpddhoiafhcaaDoorW.PrintLast Go.Proofs.YtflpddhoiafhcaaDoorW.PrintMore
def zz00 := @Aside0.mk
def zz01 := @pw_below_drewN
def zz02 := @below_drew1
def zz03 := @below_alloc
def zz04 := @Kd.R_drewN
def zz05 := @Kd.R_alloc
def zz06 := @Kd.R_drew
def zz07 := @blk_drewN
def zz08 := @blk_alloc
def zz09 := @blk_drew
def zz10 := @below_set
def zz11 := @List.setIfInBounds_toArray
def zz12 := @List.set_cons_zero
def zz13 := @List.set_cons_succ
def zz14 := @Option.bind_eq_some_iff
def zz15 := @Option.some.injEq
def zz16 := @Prod.mk.injEq
def zz17 := @blk_frozen
def zz18 := @blk_cell
def zz19 := @Kd.R_below
def zz20 := @Kd.R_elder'
def zz21 := @below_step
def zz22 := @below_size
def zz23 := @gate_callee
def zz24 := @gate_dst
def zz25 := @goesL_
def zz26 := @bne_eq_false_iff_eq
def zz27 := @beq_eq_false_iff_ne
def zz28 := @bne_iff_ne
def zz29 := @beq_iff_eq
def zz30 := @box_event
def zz31 := @of_decide_eq_true
def zz32 := @Bool.eq_false_iff
def zz33 := @blk_far
def zz34 := @blk_below
def zz35 := @blk_put
end Go.Proofs.YtflpddhoiafhcaaDoorW.PrintWords
