/- By how many days a fast is moved: plain Lean. -/
import Derived.Test.YtflpddhoiafhcaaDoorProg
namespace Go.Proofs.YtflpddhoiafhcaaDoor.Cal
def moved (k w : Int) : Int := if (k == 2 && w == 6) = true then 1 else if (k == 26 && w == 6) = true then 1 else if (k == 27 && w == 6) = true then 1 else if (k == 19 && w == 0) = true then 1 else if (k == 21 && w == 1) = true then 1 else if (k == 19 && w == 5) = true then -1 else if (k == 21 && w == 5) = true then -1 else if (k == 13 && w == 6) = true then -2 else if (k == 16 && w == 6) = true then -2 else if (k == 21 && w == 6) = true then -2 else 0
end Go.Proofs.YtflpddhoiafhcaaDoor.Cal
