/- What is proved: texts of the law TilesShow, joined by program. Conditions: none but those in each statement. -/
import Derived.Test.YtppklhfiajjhmaaZTilesShow7
import Derived.Test.YtppklhfiajjhmaaZTilesShow6
section
namespace Go.Proofs.YtppklhfiajjhmaaW.PrintLast
open Go.Proofs.YtppklhfiajjhmaaW.PrintWords (Aside0)
section
variable {md:Region.Mode} {ops:Array Oper} {T:Bool × List (List Nat × List Nat)} {l l' li lj lk:Array Bool} {ds:List Nat} {i j k:Nat}
end
end Go.Proofs.YtppklhfiajjhmaaW.PrintLast
end
section
namespace Go.Proofs.YtppklhfiajjhmaaW.PrintLast
section
variable {P:Program} {ops:Array Oper} {Q:Exit → Act → World → Prop} {md:Region.Mode} {S:World → Prop} {ds:List Nat} {T:Bool × List (List Nat × List Nat)}
end
end Go.Proofs.YtppklhfiajjhmaaW.PrintLast
end
section
namespace Go.Proofs.YtppklhfiajjhmaaW.PrintWords
open Go.RowKit
namespace Kd
section
variable {α:Type} {d:Kd α} {e base g o n cap:Nat} {ok okp:Nat → Prop} {w W:World} {v:Value} {xs:List α}
end
section
variable {α:Type} {enc:α → Value} {h1:∀ x,(enc x).oneCell' = true} {e base g o n cap:Nat} {ok:Nat → Prop} {W:World} {xs:List α}
end
end Kd
end Go.Proofs.YtppklhfiajjhmaaW.PrintWords
end
section
namespace Go.Proofs.YtppklhfiajjhmaaW.PrintWords
open Go.RowKit
namespace Kd
section
variable {α β:Type} {d:Kd α} {d':Kd β} {e e':Nat} {w w1 W:World} {base b:Nat} {ok ok' okv oku:Nat → Prop} {u v:Value} {xs:List α} {ys:List β}
end
section
variable {α β:Type} {d:Kd α} {d':Kd β} {e e' g:Nat} {w w1 W:World} {base b:Nat} {ok ok' okv oku:Nat → Prop} {u v:Value} {xs:List α} {ys:List β}
end
section
variable {P:Program} {ops:Array Oper} {rest:List Oper} {o:Oper} {a:Act} {Q:Exit → Act → World → Prop} {Kc:Act → World → Prop} {α:Type}
end
section
variable {α β:Type} {d:Kd α} {e e' g n cap:Nat} {w w1 W:World} {base:Nat} {ok ok' oki okp:Nat → Prop} {u v:Value} {xs:List α} {i:Int} {c:List Value}
end
section
variable {P:Program} {ops:Array Oper} {rest:List Oper} {o:Oper} {a:Act} {Q:Exit → Act → World → Prop} {α:Type}
end
end Kd
end Go.Proofs.YtppklhfiajjhmaaW.PrintWords
end
section
namespace Go.Proofs.YtppklhfiajjhmaaW.PrintWords
open Go.RowKit
section
variable {P:Program}
end
namespace Kd
section
variable {P:Program} {ops:Array Oper} {rest:List Oper} {o:Oper} {a:Act} {Q:Exit → Act → World → Prop} {Kc:Act → World → Prop} {α:Type}
end
section
variable {α:Type} {d:Kd α} {e:Nat} {w:World} {base:Nat} {ok:Nat → Prop} {v:Value} {xs:List α}
end
section
variable {P:Program} {ops:Array Oper} {rest:List Oper} {o:Oper} {a:Act} {Q:Exit → Act → World → Prop} {Kc:Act → World → Prop} {α:Type}
end
end Kd
end Go.Proofs.YtppklhfiajjhmaaW.PrintWords
end
section
namespace Go.Proofs.YtppklhfiajjhmaaW.PrintWords
open Go.RowKit
namespace Kd
section
variable {α:Type} {d:Kd α} {e base g n c:Nat} {ok:Nat → Prop} {w w0 W:World} {A:Option Addr} {xs:List α}
end
end Kd
end Go.Proofs.YtppklhfiajjhmaaW.PrintWords
end
section
namespace Go.Proofs.YtppklhfiajjhmaaW.PrintWords
open Go.RowKit
section
variable {w W W2:World} {S S2 S':Nat → Prop}
end
namespace Kd
section
variable {α:Type} {d:Kd α} {e base n c:Nat} {ok oki S S2:Nat → Prop} {w w0 W W1 W2:World} {v:Value} {A:Option Addr} {xs:List α} {i:Int} {cs:List Value}
end
end Kd
end Go.Proofs.YtppklhfiajjhmaaW.PrintWords
end
section
namespace Go.Proofs.YtppklhfiajjhmaaW.PrintWords
open Go.RowKit
namespace Foot
variable {P Q:World → Prop} {W W1:World} {ok ok':Nat → Prop}
end Foot
namespace Kd
section
variable {α β:Type} {d:Kd α} {e base n n' cc g N:Nat} {ok ok' okp S:Nat → Prop} {w w0 w1 W W1:World} {A A':Option Addr} {u v v1:Value} {xs:List α} {xs':List β} {d':Kd β} {x:α} {c:List Value}
end
end Kd
end Go.Proofs.YtppklhfiajjhmaaW.PrintWords
end
section
namespace Go.Proofs.YtppklhfiajjhmaaW.PrintWords
open Go.RowKit
namespace Kd
section
variable {α:Type} {d:Kd α} {e base n cc g:Nat} {ok ok' okp S:Nat → Prop} {w w1 W W1:World} {A:Option Addr} {u v v1:Value} {xs:List α} {x:α} {c:List Value}
end
end Kd
end Go.Proofs.YtppklhfiajjhmaaW.PrintWords
end
section
namespace Go.Proofs.YtppklhfiajjhmaaW.PrintWords
open Go.RowKit
namespace Kd
section
variable {α:Type} {d:Kd α} {W:World} {g n:Nat} {S ok:Nat → Prop} {A:Option Addr} {ad:Addr} {xs:List α}
end
end Kd
end Go.Proofs.YtppklhfiajjhmaaW.PrintWords
end
section
namespace Go.Proofs.YtppklhfiajjhmaaW.PrintWords
open Go.RowKit
section
variable {w w' u:World} {m B g:Nat} {o:Obj} {row:Option Nat} {S:Nat → Prop} {a:Addr} {v:Value}
end
namespace Kd
section
variable {α:Type} {d:Kd α} {e base n m:Nat} {ok:Nat → Prop} {w w':World} {v:Value} {A:Option Addr} {xs:List α}
end
end Kd
end Go.Proofs.YtppklhfiajjhmaaW.PrintWords
end
section
namespace Go.Proofs.YtppklhfiajjhmaaW.PrintLast
section
variable {P:Program} {ops:Array Oper} {Q:Exit → Act → World → Prop} {md:Region.Mode} {T:Bool × List (List Nat × List Nat)} {B:List Nat} {O:List Nat} {b:Nat → Bool} {i j n:Nat}
end
end Go.Proofs.YtppklhfiajjhmaaW.PrintLast
end
section
namespace Go.Proofs.YtppklhfiajjhmaaW.PrintWords
open Go.RowKit
end Go.Proofs.YtppklhfiajjhmaaW.PrintWords
namespace Go.Proofs.YtppklhfiajjhmaaW.PrintLast
section
variable {ops:Array Oper} {a:Act} {o og:Oper} {g:Nat} {t:Tmp} {u:Bool}
end
end Go.Proofs.YtppklhfiajjhmaaW.PrintLast
end
section
namespace Go.Proofs.YtppklhfiajjhmaaW.PrintWords
open Go.RowKit
namespace Kd
section
variable {α:Type} {d:Kd α} {e base n cap g:Nat} {ok ok' okp:Nat → Prop} {w w1 W:World} {v v1:Value} {xs ys:List α}
end
section
variable {P:Program} {ops:Array Oper} {rest:List Oper} {o:Oper} {a:Act} {Q:Exit → Act → World → Prop} {Kc:Act → World → Prop} {α:Type}
end
end Kd
end Go.Proofs.YtppklhfiajjhmaaW.PrintWords
end
section
-- PRINTED WORDS (module Derived/Print/More.lean): go-gate-2's additions: an AI agent of Go's test side, Tue Nov 17 2026; no person has read it. Lean checks it.
namespace Go.Proofs.YtppklhfiajjhmaaW.PrintMore
open Go.RowKit Go.Proofs.YtppklhfiajjhmaaW.PrintWords
namespace Kd
open Go.Proofs.YtppklhfiajjhmaaW.PrintWords.Kd
end Kd
namespace Kd
open Go.Proofs.YtppklhfiajjhmaaW.PrintWords.Kd
section
variable {α:Type} {d:Kd α} {e base g N:Nat} {ok:Nat → Prop} {W w1:World} {u v:Value} {xs:List α}
end
end Kd
theorem max2_int (k k':IntKind) (x y:Int):Builtin.max2 (.int k x) (.int k' y) = pure (.int k (if x < y then y else x)):=by simp only [Builtin.max2,gt_iff_lt]
theorem min2_int (k k':IntKind) (x y:Int):Builtin.min2 (.int k x) (.int k' y) = pure (.int k (if y < x then y else x)):=by simp only [Builtin.min2]
theorem max_two (ats:Array TypeId) (ty:TypeId) (a b:Value):Builtin.max_ ats ty #[a,b] = (Builtin.max2 a b >>= fun s => pure s):=by simp only [Builtin.max_,List.foldlM_cons,List.foldlM_nil]
theorem min_two (ats:Array TypeId) (ty:TypeId) (a b:Value):Builtin.min_ ats ty #[a,b] = (Builtin.min2 a b >>= fun s => pure s):=by simp only [Builtin.min_,List.foldlM_cons,List.foldlM_nil]
theorem max_three (ats:Array TypeId) (ty:TypeId) (a b c:Value):Builtin.max_ ats ty #[a,b,c] = (Builtin.max2 a b >>= fun s => Builtin.max2 s c >>= fun s => pure s):=by simp only [Builtin.max_,List.foldlM_cons,List.foldlM_nil]
theorem min_three (ats:Array TypeId) (ty:TypeId) (a b c:Value):Builtin.min_ ats ty #[a,b,c] = (Builtin.min2 a b >>= fun s => Builtin.min2 s c >>= fun s => pure s):=by simp only [Builtin.min_,List.foldlM_cons,List.foldlM_nil]
theorem max_four (ats:Array TypeId) (ty:TypeId) (a b c d:Value):Builtin.max_ ats ty #[a,b,c,d] = (Builtin.max2 a b >>= fun s => Builtin.max2 s c >>= fun s => Builtin.max2 s d >>= fun s => pure s):=by simp only [Builtin.max_,List.foldlM_cons,List.foldlM_nil]
theorem min_four (ats:Array TypeId) (ty:TypeId) (a b c d:Value):Builtin.min_ ats ty #[a,b,c,d] = (Builtin.min2 a b >>= fun s => Builtin.min2 s c >>= fun s => Builtin.min2 s d >>= fun s => pure s):=by simp only [Builtin.min_,List.foldlM_cons,List.foldlM_nil]
end Go.Proofs.YtppklhfiajjhmaaW.PrintMore
namespace Go.Proofs.YtppklhfiajjhmaaW.PrintWords
open Go.RowKit
section
variable {P:Program} {ops:Array Oper} {rest:List Oper} {o:Oper} {a:Act} {Q:Exit → Act → World → Prop} {W:World}
theorem gate_callee {f:FuncId} {as:Array Operand} {ts:Array TypeId} (_ho:o.op = .call { callee:=.value (.func f),args:=as,argTypes:=ts }) (h:wpList P ops Q (o :: rest) a W):wpList P ops Q (o :: rest) a W:=h
theorem gate_builtin {b:Builtin} {xs:Array Operand} {ts:Array TypeId} (_ho:o.op = .call { callee:=.builtin b,args:=xs,argTypes:=ts }) (h:wpList P ops Q (o :: rest) a W):wpList P ops Q (o :: rest) a W:=h
end
def mx (a b:Int):Int:=if a < b then b else a
def mn (a b:Int):Int:=if b < a then b else a
namespace Kd
section
variable {α:Type} {d:Kd α} {e base:Nat} {ok:Nat → Prop} {W w1:World} {v:Value} {xs:List α}
end
section
variable {α:Type} {d:Kd α} {e base g n cap:Nat} {ok oki okp:Nat → Prop} {W:World} {xs:List α} {i:Int} {c:List Value}
end
section
variable {α:Type} {d:Kd α} {e base b b' g N:Nat} {ok ok1:Nat → Prop} {W W2 w1:World} {u v:Value} {xs ys:List α} {S:Nat → Prop}
end
end Kd
end Go.Proofs.YtppklhfiajjhmaaW.PrintWords
namespace Go.Proofs.YtppklhfiajjhmaaW.PrintWords
open Go.RowKit
namespace Kd
section
variable {α β:Type} {d:Kd α} {e base base' n m c g N' lo hi:Nat} {ok ok' S:Nat → Prop} {w W w1:World} {A:Option Addr} {ad:Addr} {u v v1:Value} {xs:List α}
end
end Kd
end Go.Proofs.YtppklhfiajjhmaaW.PrintWords
end
