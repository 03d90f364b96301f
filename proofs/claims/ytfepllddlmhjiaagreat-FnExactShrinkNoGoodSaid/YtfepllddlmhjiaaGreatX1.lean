/-
  The functions of relations and templates. 
-/
import Derived.Test.YtfepllddlmhjiaaGreatS1
namespace Go.Proofs.YtfepllddlmhjiaaGreat
end Go.Proofs.YtfepllddlmhjiaaGreat
