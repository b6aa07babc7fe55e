import Derived.Test.YtfmlpkeaiohknaaDoorQx0
namespace Go.Proofs.YtfmlpkeaiohknaaDoor.Q
/-- A plan: the nodes, their parents, their sizes, their Kids' places. -/
structure PS where
  N : List S24
  P : List Int
  Z : List Int
  K : List (List Int)
mutual
/-- What add does: a node, and all below it. -/
def addN : S24 → Int → PS → PS
  | ⟨a, b, c, l⟩, parent, s =>
    let s2 := addL l s.N.length ⟨s.N ++ [⟨a, b, c, l⟩], s.P ++ [parent], s.Z ++ [0], s.K ++ [[]]⟩
    { s2 with Z := s2.Z.set s.N.length ((s2.N.length : Int) - s.N.length) }
def addL : List S24 → Nat → PS → PS
  | [], _, s => s
  | k :: r, at_, s =>
    let s1 := addN k at_ s
    addL r at_ { s1 with K := s1.K.set at_ (s1.K.getD at_ [] ++ [(s.N.length : Int)]) }
end
mutual
def nsz : S24 → Nat
  | ⟨_, _, _, l⟩ => 1 + nszL l
def nszL : List S24 → Nat
  | [] => 0
  | k :: r => nsz k + nszL r
end
end Go.Proofs.YtfmlpkeaiohknaaDoor.Q
