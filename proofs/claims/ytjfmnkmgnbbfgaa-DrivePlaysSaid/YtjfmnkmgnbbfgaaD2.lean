/- (The ground lies in Ba.) -/
import Derived.Test.YtjfmnkmgnbbfgaaBa
import Derived.Test.YtjfmnkmgnbbfgaaD0
