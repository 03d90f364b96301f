/-
  The first printed functions, under the name that the plain laws ask for.
-/
import Derived.Test.YtfggmelojaicfaaGreatS1
